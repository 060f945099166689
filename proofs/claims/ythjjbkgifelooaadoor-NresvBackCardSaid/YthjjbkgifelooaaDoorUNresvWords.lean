/- What makes a command (layer 27), as far as it tells of itself. No condition. -/
import Derived.Test.YthjjbkgifelooaaDoorUNresvRef
import Derived.Test.YthjjbkgifelooaaDoorUNresvSame
import Derived.Test.YthjjbkgifelooaaDoorF26
import Derived.Test.YthjjbkgifelooaaDoorF23
namespace Go.Proofs.YthjjbkgifelooaaDoor.F
open Go Go.RowKit Go.Proofs.YthjjbkgifelooaaDoor.X
open Classical
set_option linter.unusedVariables false
set_option linter.unusedSimpArgs false

theorem nchg_f7 (op w : Int) (s : ByteArray) : (nchg op w s).1.f7 = [] := by
  unfold nchg nReg nTyp nClr zcN
  (repeat' split) <;> rfl

def datOf (c : T_api_Cmd) (n : Nat) : ByteArray := (strOfNums (ltB c.f8 8) ++ strOfNums (ltB (bor .u64 c.f9 c.f10) 8)).extract 0 n

theorem words_at (c : T_api_Cmd) (h8 : 0 ≤ c.f8) (hm : 0 ≤ bor .u64 c.f9 c.f10) (i w op low does : Int) (n : Nat) (ha : rdL T_nresv_action.z G_nresv_actions i = ⟨op, low, does⟩) (hn : nresv_Size.f op = some (n : Int)) (hn16 : n ≤ 16) (hw0 : 0 ≤ w) (hw1 : w ≤ 4294967295) (K : Nat) :
    nresv_Words.j0 (K + 70) c i w = if nchg op w (datOf c n) = (c, 0) then some (op, w, datOf c n, 0) else some (0, 0, ⟨#[]⟩, 180) := by
  have p1 : fields_PutLittle.f (K + 70) c.f8 8 = some (strOfNums (ltB c.f8 8)) := fields_PutLittle.is c.f8 h8 8 (K + 61) (by omega) (by omega)
  have p2 : fields_PutLittle.f (K + 70) (bor .u64 c.f9 c.f10) 8 = some (strOfNums (ltB (bor .u64 c.f9 c.f10) 8)) := fields_PutLittle.is _ hm 8 (K + 61) (by omega) (by omega)
  have s1 : (strOfNums (ltB c.f8 8)).size = 8 := by rw [strOfNums_size, ltB_length]
  have s2 : (strOfNums (ltB (bor .u64 c.f9 c.f10) 8)).size = 8 := by rw [strOfNums_size, ltB_length]
  unfold nresv_Words.j0
  rw [p1, Option.bind_some, p2, Option.bind_some, asrt_pos (by omega), ha, hn, Option.bind_some, asrt_pos (by omega), asrt_pos (by rw [ByteArray.size_append]; omega), nresv_Change.is op w hw0 hw1 _ K, Option.bind_some]
  have ed : (strOfNums (ltB c.f8 8) ++ strOfNums (ltB (bor .u64 c.f9 c.f10) 8)).extract 0 ((n : Int)).toNat = datOf c n := by rw [Int.toNat_natCast]; rfl
  rw [ed]
  have hf := nchg_f7 op w (datOf c n)
  unfold nresv_Words.j1
  rw [ha, ed]
  generalize nchg op w (datOf c n) = z at hf
  obtain ⟨z1, z2⟩ := z
  simp only at hf ⊢
  by_cases h2 : z2 = 0
  · subst h2
    rw [if_pos rfl]
    rw [nresv_same.is z1 c hf]
    by_cases h : z1 = c <;> simp [h]
  · rw [if_neg h2, if_neg (fun h => h2 (Prod.mk.inj h).2)]
    simp

theorem bor32 (x y : Int) : 0 ≤ bor .u32 x y ∧ bor .u32 x y ≤ 4294967295 := by
  unfold bor
  rw [wrapu32]
  omega

theorem reg_step (c : T_api_Cmd) (K k : Nat) (x i : Int) (h0 : 0 ≤ i) (h4 : i < 4) (hx : 0 ≤ x ∧ x ≤ 4294967295) : ∃ y, (0 ≤ y ∧ y ≤ 4294967295) ∧ nresv_registerWord.l0 K c (k + 1) x i = nresv_registerWord.l0 K c k y (i + 1) := by
  have e1 : IntKind.wrap .i64 (i + 1) = i + 1 := by rw [wi] <;> omega
  rw [nresv_registerWord.l0]
  unfold nresv_registerWord.b0
  rw [if_pos h4, asrt_pos h0, e1]
  by_cases h : rdL (0 : Int) G_nresv_aptpls i = c.f13
  · rw [if_pos h]; exact ⟨_, bor32 _ _, rfl⟩
  · rw [if_neg h]; exact ⟨_, hx, rfl⟩

theorem reg_loop (c : T_api_Cmd) (K : Nat) (x : Int) (hx : 0 ≤ x ∧ x ≤ 4294967295) : ∃ y, (0 ≤ y ∧ y ≤ 4294967295) ∧ nresv_registerWord.l0 (K + 70) c (K + 70) x 0 = some y := by
  obtain ⟨y1, h1, e1⟩ := reg_step c (K + 70) (K + 69) x 0 (by omega) (by omega) hx
  obtain ⟨y2, h2, e2⟩ := reg_step c (K + 70) (K + 68) y1 (0 + 1) (by omega) (by omega) h1
  obtain ⟨y3, h3, e3⟩ := reg_step c (K + 70) (K + 67) y2 (0 + 1 + 1) (by omega) (by omega) h2
  obtain ⟨y4, h4, e4⟩ := reg_step c (K + 70) (K + 66) y3 (0 + 1 + 1 + 1) (by omega) (by omega) h3
  refine ⟨y4, h4, e1.trans (e2.trans (e3.trans (e4.trans ?_)))⟩
  rw [nresv_registerWord.l0]
  unfold nresv_registerWord.b0
  rw [if_neg (by omega)]

theorem registerWord_some (c : T_api_Cmd) (K : Nat) : ∃ y, (0 ≤ y ∧ y ≤ 4294967295) ∧ nresv_registerWord.f (K + 70) c = some y := by
  have j1 : ∀ x : Int, 0 ≤ x ∧ x ≤ 4294967295 → ∃ y, (0 ≤ y ∧ y ≤ 4294967295) ∧ nresv_registerWord.j1 (K + 70) c x = some y := fun x hx => by unfold nresv_registerWord.j1; exact reg_loop c K x hx
  have j0 : ∀ x : Int, 0 ≤ x ∧ x ≤ 4294967295 → ∃ y, (0 ≤ y ∧ y ≤ 4294967295) ∧ nresv_registerWord.j0 (K + 70) c x = some y := fun x hx => by
    unfold nresv_registerWord.j0
    by_cases h : c.f12 = true
    · rw [if_pos h]; exact j1 _ (bor32 _ _)
    · rw [if_neg h]; exact j1 _ hx
  unfold nresv_registerWord.f
  by_cases h : c.f9 = 0
  · rw [if_pos h]; exact j0 1 (by omega)
  · rw [if_neg h]
    by_cases h' : c.f8 = 0
    · rw [if_pos h']; exact j0 0 (by omega)
    · rw [if_neg h']; exact j0 2 (by omega)

/-- An answer of Words: it tells of itself. -/
def Good27 (c : T_api_Cmd) (r : Int × Int × ByteArray × Int) : Prop := (0 ≤ r.2.1 ∧ r.2.1 ≤ 4294967295) ∧ ((r.2.2.2 = 0 → nchg r.1 r.2.1 r.2.2.1 = (c, 0)) ∧ (r.2.2.2 ≠ 0 → r = (0, 0, ⟨#[]⟩, 180)))
theorem words_step (c : T_api_Cmd) (h8 : 0 ≤ c.f8) (hm : 0 ≤ bor .u64 c.f9 c.f10) (i op low does : Int) (n : Nat) (h0 : 0 ≤ i) (h7 : i < 7) (ha : rdL T_nresv_action.z G_nresv_actions i = ⟨op, low, does⟩) (hn : nresv_Size.f op = some (n : Int)) (hn16 : n ≤ 16) (K k : Nat) :
    (∃ r, nresv_Words.l0 (K + 70) c (k + 1) i = some r ∧ Good27 c r) ∨ nresv_Words.l0 (K + 70) c (k + 1) i = nresv_Words.l0 (K + 70) c k (i + 1) := by
  have e1 : IntKind.wrap .i64 (i + 1) = i + 1 := by rw [wi] <;> omega
  have at_ : ∀ w : Int, 0 ≤ w ∧ w ≤ 4294967295 → ∃ r, nresv_Words.j0 (K + 70) c i w = some r ∧ Good27 c r := fun w hw => by
    rw [words_at c h8 hm i w op low does n ha hn hn16 hw.1 hw.2 K]
    by_cases h : nchg op w (datOf c n) = (c, 0)
    · rw [if_pos h]; exact ⟨_, rfl, hw, fun _ => h, fun h => absurd rfl h⟩
    · rw [if_neg h]; exact ⟨_, rfl, ⟨by decide, by decide⟩, fun h => absurd h (by decide), fun _ => rfl⟩
  rw [nresv_Words.l0]
  unfold nresv_Words.b0
  rw [if_pos h7, asrt_pos h0, ha, e1]
  by_cases hd : does = c.f0
  · left
    rw [if_pos hd]
    by_cases h13 : op = 13
    · rw [if_pos h13]
      obtain ⟨y, hy, e⟩ := registerWord_some c K
      rw [e, Option.bind_some]
      exact at_ y hy
    · rw [if_neg h13]
      by_cases h11 : c.f0 = 11
      · rw [if_pos h11]; exact at_ _ (by rw [wrapu32]; omega)
      · rw [if_neg h11]; exact at_ _ (bor32 _ _)
  · right
    rw [if_neg hd]

theorem nresv_Words.weak (c : T_api_Cmd) (h8 : 0 ≤ c.f8) (hm : 0 ≤ bor .u64 c.f9 c.f10) (K : Nat) : ∃ r, nresv_Words.f (K + 70) c = some r ∧ Good27 c r := by
  have st := fun i op low does n h0 h7 ha hn h16 k => words_step c h8 hm i op low does n h0 h7 ha hn h16 K k
  unfold nresv_Words.f
  rcases st 0 13 0 8 16 (by omega) (by omega) rfl rfl (by omega) (K + 69) with h | e0
  · exact h
  rcases st (0 + 1) 13 1 8 16 (by omega) (by omega) rfl rfl (by omega) (K + 68) with h | e1
  · obtain ⟨r, h1, h2⟩ := h; exact ⟨r, e0.trans h1, h2⟩
  rcases st (0 + 1 + 1) 13 2 8 16 (by omega) (by omega) rfl rfl (by omega) (K + 67) with h | e2
  · obtain ⟨r, h1, h2⟩ := h; exact ⟨r, e0.trans (e1.trans h1), h2⟩
  rcases st (0 + 1 + 1 + 1) 17 0 9 16 (by omega) (by omega) rfl rfl (by omega) (K + 66) with h | e3
  · obtain ⟨r, h1, h2⟩ := h; exact ⟨r, e0.trans (e1.trans (e2.trans h1)), h2⟩
  rcases st (0 + 1 + 1 + 1 + 1) 17 1 12 16 (by omega) (by omega) rfl rfl (by omega) (K + 65) with h | e4
  · obtain ⟨r, h1, h2⟩ := h; exact ⟨r, e0.trans (e1.trans (e2.trans (e3.trans h1))), h2⟩
  rcases st (0 + 1 + 1 + 1 + 1 + 1) 21 0 10 8 (by omega) (by omega) rfl rfl (by omega) (K + 64) with h | e5
  · obtain ⟨r, h1, h2⟩ := h; exact ⟨r, e0.trans (e1.trans (e2.trans (e3.trans (e4.trans h1)))), h2⟩
  rcases st (0 + 1 + 1 + 1 + 1 + 1 + 1) 21 1 11 8 (by omega) (by omega) rfl rfl (by omega) (K + 63) with h | e6
  · obtain ⟨r, h1, h2⟩ := h; exact ⟨r, e0.trans (e1.trans (e2.trans (e3.trans (e4.trans (e5.trans h1))))), h2⟩
  refine ⟨(0, 0, ⟨#[]⟩, 180), e0.trans (e1.trans (e2.trans (e3.trans (e4.trans (e5.trans (e6.trans ?_)))))), ⟨by decide, by decide⟩, fun h => absurd h (by decide), fun _ => rfl⟩
  rw [nresv_Words.l0]
  unfold nresv_Words.b0
  rw [if_neg (by omega)]

end Go.Proofs.YthjjbkgifelooaaDoor.F
