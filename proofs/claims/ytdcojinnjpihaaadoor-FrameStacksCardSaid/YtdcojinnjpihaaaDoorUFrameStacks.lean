/- The plain law of headgatelaw05.FrameStacks: whatever the input, it is true. No condition. -/
import Derived.Test.YtdcojinnjpihaaaDoorUFrameGot
import Derived.Test.YtdcojinnjpihaaaDoorUFrameW
import Derived.Test.YtdcojinnjpihaaaDoorF6
namespace Go.Proofs.YtdcojinnjpihaaaDoor.F
open Go Go.RowKit Go.Proofs.YtdcojinnjpihaaaDoor.X
set_option linter.unusedVariables false
set_option linter.unusedSimpArgs false

def num05 (a : Int) (i : Nat) : Int := IntKind.wrap .u64 (a + IntKind.wrap .u64 (i : Int))
theorem num05_range (a : Int) (i : Nat) : 0 ≤ num05 a i ∧ num05 a i ≤ 18446744073709551615 := by unfold num05; rw [wrapu64 (a + _)]; omega
def catF (a : Int) : List ByteArray → Nat → ByteArray
  | [], _ => ⟨#[]⟩
  | t :: r, i => putB (num05 a i) t ++ catF a r (i + 1)
theorem catF_size (a : Int) : ∀ (l : List ByteArray) (i : Nat), (∀ t ∈ l, t.size ≤ 2000) → (catF a l i).size ≤ l.length * 2560
  | [], _, _ => by rw [catF, (size0 _).mp rfl]; omega
  | t :: r, i, h => by
    have h1 := catF_size a r (i + 1) fun x hx => h x (List.mem_cons_of_mem _ hx)
    have h2 := h t List.mem_cons_self
    have h3 := putB_size (num05 a i) t
    have h4 : sec t.size = (t.size + 535) / 512 := rfl
    rw [catF, ByteArray.size_append, List.length_cons]
    omega

theorem stack_read (k : Nat) (hw : headgatelaw05_wakes.f (100000 + 200) = some true) (a0 : List ByteArray) (a1 : Int) (hl : a0.length ≤ 20) (hs : ∀ t ∈ a0, t.size ≤ 2000) : ∀ (r j i : Nat), i + r = a0.length →
    headgatelaw05_FrameStacks.l1 (100000 + 200) a0 a1 (r + 1 + j) (catF a1 (a0.drop i) i) (i : Int) = some true := by
  intro r
  induction r with
  | zero =>
    intro j i hi
    rw [show 0 + 1 + j = j + 1 by omega, headgatelaw05_FrameStacks.l1, headgatelaw05_FrameStacks.b1, if_neg (by omega), List.drop_of_length_le (by omega), catF, if_pos rfl, hw]
    rfl
  | succ r ih =>
    intro j i hi
    have hlt : i < a0.length := by omega
    have hd : a0.drop i = a0[i] :: a0.drop (i + 1) := List.drop_eq_getElem_cons hlt
    have ht : (a0[i]).size ≤ 2000 := hs _ (List.getElem_mem _)
    have hc : (catF a1 (a0.drop i) i).size ≤ 51200 := by
      have := catF_size a1 (a0.drop i) i fun t h => hs t (List.mem_of_mem_drop h)
      rw [List.length_drop] at this
      omega
    have hr : rdL (⟨#[]⟩ : ByteArray) a0 (i : Int) = a0[i] := by unfold rdL; rw [Int.toNat_natCast, List.getD_eq_getElem?_getD, List.getElem?_eq_getElem hlt]; rfl
    obtain ⟨n0, n1⟩ := num05_range a1 i
    have ho : outB (catF a1 (a0.drop i) i) = (num05 a1 i, a0[i], ((putB (num05 a1 i) a0[i]).size : Int), 0) := by
      rw [hd, catF]; exact outB_put _ n0 n1 _ (by omega) _
    have hsz : (catF a1 (a0.drop i) i).size = (putB (num05 a1 i) a0[i]).size + (catF a1 (a0.drop (i + 1)) (i + 1)).size := by rw [hd, catF, ByteArray.size_append]
    rw [show r + 1 + 1 + j = (r + 1 + j) + 1 by omega, headgatelaw05_FrameStacks.l1, headgatelaw05_FrameStacks.b1, if_pos (by omega), frame_Get.is _ (by omega) _ (by omega), Option.bind_some, ho]
    dsimp only
    rw [if_pos rfl, if_pos (show num05 a1 i = IntKind.wrap .u64 (a1 + IntKind.wrap .u64 (i : Int)) from rfl), asrt_pos (by omega), hr, if_pos rfl, if_neg (by omega), asrt_pos (by omega), asrt_pos (by omega), Int.toNat_natCast]
    have he : (catF a1 (a0.drop i) i).extract (putB (num05 a1 i) a0[i]).size (catF a1 (a0.drop i) i).size = catF a1 (a0.drop (i + 1)) (i + 1) := by
      rw [hsz, hd, catF]; exact ext_last _ _ _ _ rfl rfl
    rw [he, show IntKind.wrap .i64 ((i : Int) + 1) = ((i + 1 : Nat) : Int) by rw [wi] <;> omega]
    exact ih j (i + 1) (by omega)

theorem stack_put (hw : headgatelaw05_wakes.f (100000 + 200) = some true) (a0 : List ByteArray) (a1 : Int) (hl : a0.length ≤ 20) : ∀ (r j i : Nat) (x : ByteArray), i + r = a0.length → x.size ≤ i * 2560 →
    ((∀ t ∈ a0.drop i, t.size ≤ 2000) → headgatelaw05_FrameStacks.l1 (100000 + 200) a0 a1 (100000 + 200) (x ++ catF a1 (a0.drop i) i) 0 = some true) →
    headgatelaw05_FrameStacks.l0 (100000 + 200) a0 a1 (r + 1 + j) x (i : Int) = some true := by
  intro r
  induction r with
  | zero =>
    intro j i x hi hx h
    rw [show 0 + 1 + j = j + 1 by omega, headgatelaw05_FrameStacks.l0, headgatelaw05_FrameStacks.b0, if_neg (by omega)]
    rw [List.drop_of_length_le (by omega)] at h
    have := h (fun t ht => by cases ht)
    rwa [catF, app_nil] at this
  | succ r ih =>
    intro j i x hi hx h
    have hlt : i < a0.length := by omega
    have hd : a0.drop i = a0[i] :: a0.drop (i + 1) := List.drop_eq_getElem_cons hlt
    have hr : rdL (⟨#[]⟩ : ByteArray) a0 (i : Int) = a0[i] := by unfold rdL; rw [Int.toNat_natCast, List.getD_eq_getElem?_getD, List.getElem?_eq_getElem hlt]; rfl
    obtain ⟨n0, n1⟩ := num05_range a1 i
    rw [show r + 1 + 1 + j = (r + 1 + j) + 1 by omega, headgatelaw05_FrameStacks.l0, headgatelaw05_FrameStacks.b0, if_pos (by omega), asrt_pos (by omega), hr]
    by_cases hs : ((a0[i]).size : Int) > 2000
    · rw [if_pos hs, hw]; rfl
    have h3 := putB_size (num05 a1 i) a0[i]
    have h4 : sec (a0[i]).size = ((a0[i]).size + 535) / 512 := rfl
    have hp : frame_Put.f (100000 + 200) (IntKind.wrap .u64 (a1 + IntKind.wrap .u64 (i : Int))) a0[i] = some (putB (num05 a1 i) a0[i], 0) := by
      have := frame_Put.is (num05 a1 i) n0 n1 a0[i] (by omega) (100000 + 200) (by omega)
      rwa [if_neg (by omega)] at this
    rw [if_neg hs, hp, Option.bind_some, if_pos rfl, asrt_pos (by simp only; omega), show IntKind.wrap .i64 ((i : Int) + 1) = ((i + 1 : Nat) : Int) by rw [wi] <;> omega]
    refine ih j (i + 1) _ (by omega) (by rw [ByteArray.size_append]; simp only; omega) fun hsh => ?_
    have := h (fun t ht => by
      rw [hd] at ht
      rcases List.mem_cons.mp ht with rfl | ht
      · omega
      · exact hsh t ht)
    rwa [hd, catF, ← ByteArray.append_assoc] at this

theorem headgatelaw05_FrameStacks.pure (a0 : List ByteArray) (a1 : Int) (o0 : a0.length * 16 ≤ 140737488351232 ∧ ∀ y ∈ a0, y.size ≤ 140737488351232) (o1 : 0 ≤ a1 ∧ a1 ≤ 18446744073709551615) : ∃ K, headgatelaw05_FrameStacks.f K a0 a1 = some true := by
  refine ⟨100000 + 200, ?_⟩
  have hw : headgatelaw05_wakes.f (100000 + 200) = some true := headgatelaw05_wakes.is 100000
  unfold headgatelaw05_FrameStacks.f
  by_cases h : (a0.length : Int) > 20
  · rw [if_pos h, hw]; rfl
  rw [if_neg h]
  have := stack_put hw a0 a1 (by omega) a0.length (100000 + 199 - a0.length) 0 ⟨#[]⟩ (by omega) (by rw [(size0 _).mp rfl]; omega) fun hs => by
    rw [nil_app]
    have h1 := stack_read 0 hw a0 a1 (by omega) (by simpa using hs) a0.length (100000 + 199 - a0.length) 0 (by omega)
    rwa [show a0.length + 1 + (100000 + 199 - a0.length) = 100000 + 200 by omega] at h1
  rwa [show a0.length + 1 + (100000 + 199 - a0.length) = 100000 + 200 by omega] at this

end Go.Proofs.YtdcojinnjpihaaaDoor.F
