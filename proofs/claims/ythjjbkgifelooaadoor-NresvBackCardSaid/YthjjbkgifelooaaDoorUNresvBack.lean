/- The plain law of headgatelaw27.NresvBack: whatever the input, it is true. No condition. -/
import Derived.Test.YthjjbkgifelooaaDoorUNresvWord
import Derived.Test.YthjjbkgifelooaaDoorUNresvLaw
import Derived.Test.YthjjbkgifelooaaDoorUKeep
import Derived.Test.YthjjbkgifelooaaDoorF6
namespace Go.Proofs.YthjjbkgifelooaaDoor.F
open Go Go.RowKit Go.Proofs.YthjjbkgifelooaaDoor.X
open Classical
set_option linter.unusedVariables false
set_option linter.unusedSimpArgs false

theorem nchg_size (op w : Int) (s : ByteArray) (c : T_api_Cmd) (h : nchg op w s = (c, 0)) : nresv_Size.f op = some (s.size : Int) := by
  unfold nchg at h
  split at h
  · rename_i q; rw [q.1, q.2]; rfl
  · split at h
    · rename_i q; rw [q.1, q.2.1]; rfl
    · split at h
      · rename_i q; rw [q.1, q.2.1]; rfl
      · split at h
        · rename_i q; rw [q.1, q.2.1]; rfl
        · split at h
          · rename_i q; rw [q.1, q.2.1]; rfl
          · exact absurd (Prod.mk.inj h).2 (by decide)
theorem nchg_cases (op w : Int) (s : ByteArray) : (nchg op w s).2 = 0 ∨ nchg op w s = (zcN, 180) := by
  unfold nchg nReg nTyp nClr
  (repeat' split) <;> simp
/-- The operation is told by the command. -/
theorem nchg_op (op w : Int) (s : ByteArray) (c : T_api_Cmd) (h : nchg op w s = (c, 0)) : op = opOf c := by
  unfold nchg nReg nTyp nClr at h
  have bad : ∀ {p : Prop} (x : T_api_Cmd), (x, (180 : Int)) = (c, 0) → p := fun x h => absurd (Prod.mk.inj h).2 (by decide)
  (repeat' split at h) <;> first
    | exact bad _ h
    | (obtain ⟨rfl, _⟩ := Prod.mk.inj h; simp [opOf, *])
theorem nchg_ok (op w : Int) (s : ByteArray) (c : T_api_Cmd) (h0 : 0 ≤ w) (h1 : w ≤ 4294967295) (h : nchg op w s = (c, 0)) : c.ok := by
  have l0 : 0 ≤ le s 0 8 := le_lo s 0 8
  have l1 := le_hi s 0 8
  have m0 : 0 ≤ le s 8 8 := le_lo s 8 8
  have m1 := le_hi s 8 8
  have e : (256 : Int) ^ 8 = 18446744073709551616 := by decide
  rw [e] at l1 m1
  unfold nchg nReg nTyp nClr at h
  have bad : ∀ {p : Prop} (x : T_api_Cmd), (x, (180 : Int)) = (c, 0) → p := fun x h => absurd (Prod.mk.inj h).2 (by decide)
  (repeat' split at h) <;> first
    | exact bad _ h
    | (obtain ⟨rfl, _⟩ := Prod.mk.inj h; constructor <;> simp [show (⟨#[]⟩ : ByteArray).size = 0 from rfl] <;> omega)

theorem headgatelaw27_NresvBack.pure (a0 : T_headgatelaw27_Word) (a1 : T_api_Cmd) (o0 : a0.ok) (o1 : a1.ok) : ∃ K, headgatelaw27_NresvBack.f K a0 a1 = some true := by
  refine ⟨200, ?_⟩
  have hw : headgatelaw27_wakes.f 200 = some true := headgatelaw27_wakes.is 0
  have h1 := o0.f1
  have ch : ∀ op w s, 0 ≤ w ∧ w ≤ 4294967295 → nresv_Change.f 200 op w s = some (nchg op w s) := fun op w s h => nresv_Change.is op w h.1 h.2 s 130
  have wo : ∀ c : T_api_Cmd, c.ok → nresv_Words.f 200 c = some (wspec c) := fun c o => nresv_Words.is c o 130
  have wr : ∀ c : T_api_Cmd, vld c → 0 ≤ wordOf c ∧ wordOf c ≤ 4294967295 := by
    intro c h
    have hk : 0 ≤ kindOf c ∧ kindOf c ≤ 2 := by unfold kindOf; (repeat' split) <;> omega
    unfold wordOf regW
    rcases h.2 with ⟨_, _, _, q⟩ | ⟨_, _, _, _, _, _⟩ | ⟨_, _, _, _, _⟩ | _ <;> (repeat' split) <;> omega
  have jt : headgatelaw27_NresvBack.j0 200 a0 a1 true = some true := by
    unfold headgatelaw27_NresvBack.j0
    rw [if_pos rfl, hw]; rfl
  have j1 : headgatelaw27_NresvBack.j1 200 a0 = some true := by
    unfold headgatelaw27_NresvBack.j1
    rw [ch _ _ _ h1, Option.bind_some]
    rcases nchg_cases a0.f0 a0.f1 a0.f2 with h | h
    · have he : nchg a0.f0 a0.f1 a0.f2 = ((nchg a0.f0 a0.f1 a0.f2).1, 0) := by rw [← h]
      generalize (nchg a0.f0 a0.f1 a0.f2).1 = c at he
      have hv := vld_of _ _ _ c h1.1 h1.2 he
      have ho := nchg_ok _ _ _ c h1.1 h1.2 he
      have hf7 : c.f7 = [] := by have := nchg_f7 a0.f0 a0.f1 a0.f2; rwa [he] at this
      rw [he]
      rw [if_pos rfl, show nresv_Words.f 200 _ = some (wspec c) from wo c ho, Option.bind_some]
      unfold wspec
      rw [if_pos hv]
      simp only
      rw [ch _ _ _ (wr c hv), Option.bind_some, of_vld c ho hv]
      simp only [if_true]
      rw [if_pos (nchg_op _ _ _ c he).symm, headgatekeep_Cmds.is _ _ _ (by simp [hf7]) (by simp [hf7]), Option.bind_some, if_pos (by simp), hw]
      rfl
    · rw [h]
      rw [if_neg (by decide), if_pos rfl, headgatekeep_Cmds.is _ _ _ (by simp [zcN]) (by simp [zcN]), Option.bind_some, if_pos (by simp [zcN]), hw]
      rfl
  unfold headgatelaw27_NresvBack.f
  split
  · exact jt
  obtain ⟨b, hb, hb2⟩ := headgatelaw27_large.is a1
  rw [hb, Option.bind_some]
  cases b with
  | true => exact jt
  | false =>
    have hl := hb2 rfl
    unfold headgatelaw27_NresvBack.j0
    rw [if_neg (by simp), wo a1 o1, Option.bind_some]
    unfold wspec
    by_cases hv : vld a1
    · have hg := of_vld a1 o1 hv
      rw [if_pos hv]
      simp only [if_true]
      rw [ch _ _ _ (wr a1 hv), Option.bind_some, hg]
      simp only [if_true]
      rw [headgatekeep_Cmds.is _ _ _ (by simp only [hv.1.2.2.2.2.2.2]; simp) (by simp only [hv.1.2.2.2.2.2.2]; simp), Option.bind_some, if_pos (by simp), nchg_size _ _ _ _ hg, Option.bind_some, if_pos rfl]
      exact j1
    · rw [if_neg hv]
      simp only
      rw [if_neg (by decide)]
      exact j1

end Go.Proofs.YthjjbkgifelooaaDoor.F
