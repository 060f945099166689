/- The list of a command (layer 18): the program's. No condition. -/
import Derived.Test.YthjjbkgifelooaaDoorUProut
import Derived.Test.YthjjbkgifelooaaDoorUKeep
import Derived.Test.YthjjbkgifelooaaDoorF76
import Derived.Test.YthjjbkgifelooaaDoorF68
import Derived.Test.YthjjbkgifelooaaDoorF76
namespace Go.Proofs.YthjjbkgifelooaaDoor.F
open Go Go.RowKit Go.Proofs.YthjjbkgifelooaaDoor.X
open Classical
set_option linter.unusedVariables false
set_option linter.unusedSimpArgs false

theorem prout_same.is (a b : T_api_Cmd) (ha : a.f7 = []) : prout_same.f a b = some (decide (a = b)) := by
  unfold prout_same.f
  obtain ⟨a0, a1, a2, a3, a4, a5, a6, a7, a8, a9, a10, a11, a12, a13⟩ := a
  obtain ⟨b0, b1, b2, b3, b4, b5, b6, b7, b8, b9, b10, b11, b12, b13⟩ := b
  simp only at ha
  subst ha
  simp only [T_api_Cmd.mk.injEq]
  by_cases h0 : a0 = b0 <;> simp [h0]
  by_cases h1 : a1 = b1 <;> simp [h1]
  by_cases h2 : a2 = b2 <;> simp [h2]
  by_cases h3 : a3 = b3 <;> simp [h3]
  by_cases h4 : a4 = b4 <;> simp [h4]
  by_cases h5 : a5 = b5 <;> simp [h5]
  by_cases h6 : a6 = b6 <;> simp [h6]
  cases b7 with
  | cons y ys =>
    have : ¬ ((0 : Int) = (((y :: ys).length : Nat) : Int)) := by simp only [List.length_cons]; omega
    rw [if_neg this]
    simp
  | nil =>
  simp
  by_cases h8 : a8 = b8 <;> simp [h8]
  by_cases h9 : a9 = b9 <;> simp [h9]
  by_cases h10 : a10 = b10 <;> simp [h10]
  by_cases h11 : a11 = b11 <;> simp [h11]
  by_cases h12 : a12 = b12 <;> simp [h12]
  by_cases h13 : a13 = b13 <;> simp [h13]

def str (k o r : Int) : ByteArray := (strOfNums (beB k 8) ++ strOfNums (beB o 8)) ++ strOfNums (beB r 8)
theorem chg_str (n t k o r : Int) (hk : 0 ≤ k ∧ k ≤ 18446744073709551615) (ho : 0 ≤ o ∧ o ≤ 18446744073709551615) (hr : 0 ≤ r ∧ r ≤ 18446744073709551615) : chg n t (str k o r) = chgv n t k o r := by
  have s1 := size_beB k 8; have s2 := size_beB o 8; have s3 := size_beB r 8
  have s4 : (strOfNums (beB k 8) ++ strOfNums (beB o 8)).size = 16 := by rw [ByteArray.size_append]; omega
  have hs : (str k o r).size = 24 := by unfold str; rw [ByteArray.size_append]; omega
  have e0 : be (str k o r) 0 8 = k := by
    unfold str
    rw [be_left _ _ _ _ (by omega) (by omega), be_left _ _ _ _ (by omega) (by omega)]
    exact be_put k 8 hk.1 (by omega)
  have e8 : be (str k o r) 8 8 = o := by
    unfold str
    rw [be_left _ _ _ _ (by omega) (by omega), be_right _ _ _ _ (by omega), s1]
    exact be_put o 8 ho.1 (by omega)
  have e16 : be (str k o r) 16 8 = r := by
    unfold str
    rw [be_right _ _ _ _ (by omega), s4]
    exact be_put r 8 hr.1 (by omega)
  rw [chg, if_pos hs, e0, e8, e16]

def rOf (c : T_api_Cmd) : Int := if c.f13 = 2 then 16777216 else 0
def mOf (c : T_api_Cmd) : Int := bor .u64 c.f9 c.f10

theorem chgv_empty (n t k o r : Int) : (chgv n t k o r).1.f7 = [] := by
  unfold chgv zc
  (repeat' split) <;> rfl

theorem prout_key.is (v : Int) (hv : 0 ≤ v) (K : Nat) : prout_key.f (K + 9) v = some (strOfNums (beB v 8)) := by
  unfold prout_key.f
  have := fields_PutBig.is v hv 8 K (by omega) (by omega)
  rw [show ((8 : Nat) : Int) = 8 from rfl] at this
  rw [this]; rfl

theorem list_step (c : T_api_Cmd) (hk : 0 ≤ c.f8 ∧ c.f8 ≤ 18446744073709551615) (hm : 0 ≤ mOf c ∧ mOf c ≤ 18446744073709551615) (again : Int → Option (Int × ByteArray × Int)) (n : Int) (x y : Bool) (K : Nat) :
    prout_List.j0 (K + 9) c again n x y = if chgv n c.f11 c.f8 (mOf c) (rOf c) = (c, 0) then some (n, str c.f8 (mOf c) (rOf c), 0) else again (IntKind.wrap .i64 (n + 1)) := by
  have hr : rOf c = 0 ∨ rOf c = 16777216 := by unfold rOf; split <;> simp
  have s1 := size_beB c.f8 8; have s2 := size_beB (mOf c) 8; have s3 := size_beB (rOf c) 8
  have s4 : (strOfNums (beB c.f8 8) ++ strOfNums (beB (mOf c) 8)).size = 16 := by rw [ByteArray.size_append]; omega
  have main : prout_List.j1 (K + 9) c again n (strOfNums (beB c.f8 8)) (strOfNums (beB (mOf c) 8)) (rOf c) = if chgv n c.f11 c.f8 (mOf c) (rOf c) = (c, 0) then some (n, str c.f8 (mOf c) (rOf c), 0) else again (IntKind.wrap .i64 (n + 1)) := by
    unfold prout_List.j1
    rw [prout_key.is _ (by omega), Option.bind_some, asrt_pos (by omega), prout_Change.is, Option.bind_some]
    have e := chg_str n c.f11 c.f8 (mOf c) (rOf c) hk hm (by omega)
    unfold str at e ⊢
    rw [e]
    have he := chgv_empty n c.f11 c.f8 (mOf c) (rOf c)
    generalize chgv n c.f11 c.f8 (mOf c) (rOf c) = z at he
    obtain ⟨z1, z2⟩ := z
    simp only at he ⊢
    by_cases h2 : z2 = 0
    · subst h2
      rw [if_pos rfl, prout_same.is z1 c he]
      by_cases h : z1 = c <;> simp [h]
    · rw [if_neg h2, if_neg]
      intro h
      exact h2 (Prod.mk.inj h).2
  unfold prout_List.j0
  rw [prout_key.is _ hk.1, Option.bind_some]
  change (prout_key.f (K + 9) (mOf c)).bind _ = _
  rw [prout_key.is _ hm.1, Option.bind_some, asrt_pos (by omega)]
  by_cases h : c.f13 = 2
  · have e : rOf c = 16777216 := if_pos h
    rw [if_pos h]; rw [e] at main ⊢; exact main
  · have e : rOf c = 0 := if_neg h
    rw [if_neg h]; rw [e] at main ⊢; exact main

def nOf (c : T_api_Cmd) : Int := if c.f0 = 8 then (if c.f12 = true then 6 else 0) else if c.f0 = 9 then 1 else if c.f0 = 10 then 2 else if c.f0 = 11 then 3 else if c.f0 = 12 then 4 else 5
noncomputable def lst (c : T_api_Cmd) : Int × ByteArray × Int :=
  if chgv (nOf c) c.f11 c.f8 (mOf c) (rOf c) = (c, 0) then (nOf c, str c.f8 (mOf c) (rOf c), 0) else (0, ⟨#[]⟩, 180)

theorem list_no (c : T_api_Cmd) (n v : Int) (hv : rdL (0 : Int) [8, 9, 10, 11, 12, 0, 8] n = v) (h0 : 0 ≤ n) (h7 : n < 7) (k K : Nat) (h : v = c.f0 → v ≠ 0 → v = 8 ∧ ¬ (n == 6) = c.f12) : prout_List.l0 (K + 9) c ⟨8, 9, 10, 11, 12, 0, 8⟩ (k + 1) n = prout_List.l0 (K + 9) c ⟨8, 9, 10, 11, 12, 0, 8⟩ k (n + 1) := by
  have e1 : IntKind.wrap .i64 (n + 1) = n + 1 := by rw [wi] <;> omega
  rw [prout_List.l0]
  unfold prout_List.b0
  rw [if_pos h7, asrt_pos h0]
  simp only [e1, hv]
  by_cases a : v = c.f0
  · by_cases b : v = 0
    · rw [if_pos a, if_pos b]
    · rw [if_pos a, if_neg b, if_pos (h a b).1, if_neg (h a b).2]
  · rw [if_neg a]
theorem list_yes (c : T_api_Cmd) (hk : 0 ≤ c.f8 ∧ c.f8 ≤ 18446744073709551615) (hm : 0 ≤ mOf c ∧ mOf c ≤ 18446744073709551615) (n v : Int) (hv : rdL (0 : Int) [8, 9, 10, 11, 12, 0, 8] n = v) (h0 : 0 ≤ n) (h7 : n < 7) (k K : Nat)
    (h : v = c.f0) (hb : v ≠ 0) (h8 : v = 8 → (n == 6) = c.f12) : prout_List.l0 (K + 9) c ⟨8, 9, 10, 11, 12, 0, 8⟩ (k + 1) n = if chgv n c.f11 c.f8 (mOf c) (rOf c) = (c, 0) then some (n, str c.f8 (mOf c) (rOf c), 0) else prout_List.l0 (K + 9) c ⟨8, 9, 10, 11, 12, 0, 8⟩ k (n + 1) := by
  have e1 : IntKind.wrap .i64 (n + 1) = n + 1 := by rw [wi] <;> omega
  rw [prout_List.l0]
  unfold prout_List.b0
  rw [if_pos h7, asrt_pos h0]
  simp only [list_step c hk hm, e1, hv]
  by_cases d : v = 8
  · rw [if_pos h, if_neg hb, if_pos d, if_pos (h8 d)]
  · rw [if_pos h, if_neg hb, if_neg d]
theorem list_end (c : T_api_Cmd) (k K : Nat) : prout_List.l0 (K + 9) c ⟨8, 9, 10, 11, 12, 0, 8⟩ (k + 1) 7 = some (0, ⟨#[]⟩, 180) := by
  rw [prout_List.l0]; unfold prout_List.b0; rw [if_neg (by omega)]

theorem prout_List.is (c : T_api_Cmd) (hk : 0 ≤ c.f8 ∧ c.f8 ≤ 18446744073709551615) (hm : 0 ≤ mOf c ∧ mOf c ≤ 18446744073709551615) (K : Nat) : prout_List.f (K + 9) c = some (lst c) := by
  have hops : prout_ops.f = some ⟨8, 9, 10, 11, 12, 0, 8⟩ := rfl
  unfold prout_List.f
  rw [hops, Option.bind_some]
  by_cases h8 : c.f0 = 8
  · by_cases hi : c.f12 = true
    · have hn : nOf c = 6 := by simp [nOf, h8, hi]
      refine (list_no c 0 8 rfl (by omega) (by omega) (K + 8) K (by intro _ _; refine ⟨rfl, ?_⟩; rw [hi]; decide)).trans ?_
      refine (list_no c 1 9 rfl (by omega) (by omega) (K + 7) K (by omega)).trans ?_
      refine (list_no c 2 10 rfl (by omega) (by omega) (K + 6) K (by omega)).trans ?_
      refine (list_no c 3 11 rfl (by omega) (by omega) (K + 5) K (by omega)).trans ?_
      refine (list_no c 4 12 rfl (by omega) (by omega) (K + 4) K (by omega)).trans ?_
      refine (list_no c 5 0 rfl (by omega) (by omega) (K + 3) K (by omega)).trans ?_
      refine (list_yes c hk hm 6 8 rfl (by omega) (by omega) (K + 2) K (by omega) (by omega) (by intro _; rw [hi]; rfl)).trans ?_
      rw [lst, hn]
      by_cases hh : chgv 6 c.f11 c.f8 (mOf c) (rOf c) = (c, 0)
      · rw [if_pos hh, if_pos hh]
      rw [if_neg hh, if_neg hh]
      exact list_end c (K + 1) K
    · have hi : c.f12 = false := by simpa using hi
      have hn : nOf c = 0 := by simp [nOf, h8, hi]
      refine (list_yes c hk hm 0 8 rfl (by omega) (by omega) (K + 8) K (by omega) (by omega) (by intro _; rw [hi]; rfl)).trans ?_
      rw [lst, hn]
      by_cases hh : chgv 0 c.f11 c.f8 (mOf c) (rOf c) = (c, 0)
      · rw [if_pos hh, if_pos hh]
      rw [if_neg hh, if_neg hh]
      refine (list_no c 1 9 rfl (by omega) (by omega) (K + 7) K (by omega)).trans ?_
      refine (list_no c 2 10 rfl (by omega) (by omega) (K + 6) K (by omega)).trans ?_
      refine (list_no c 3 11 rfl (by omega) (by omega) (K + 5) K (by omega)).trans ?_
      refine (list_no c 4 12 rfl (by omega) (by omega) (K + 4) K (by omega)).trans ?_
      refine (list_no c 5 0 rfl (by omega) (by omega) (K + 3) K (by omega)).trans ?_
      refine (list_no c 6 8 rfl (by omega) (by omega) (K + 2) K (by intro _ _; refine ⟨rfl, ?_⟩; rw [hi]; decide)).trans ?_
      exact list_end c (K + 1) K
  by_cases h9 : c.f0 = 9
  · have hn : nOf c = 1 := by simp [nOf, h9]
    refine (list_no c 0 8 rfl (by omega) (by omega) (K + 8) K (by omega)).trans ?_
    refine (list_yes c hk hm 1 9 rfl (by omega) (by omega) (K + 7) K (by omega) (by omega) (by omega)).trans ?_
    rw [lst, hn]
    by_cases hh : chgv 1 c.f11 c.f8 (mOf c) (rOf c) = (c, 0)
    · rw [if_pos hh, if_pos hh]
    rw [if_neg hh, if_neg hh]
    refine (list_no c 2 10 rfl (by omega) (by omega) (K + 6) K (by omega)).trans ?_
    refine (list_no c 3 11 rfl (by omega) (by omega) (K + 5) K (by omega)).trans ?_
    refine (list_no c 4 12 rfl (by omega) (by omega) (K + 4) K (by omega)).trans ?_
    refine (list_no c 5 0 rfl (by omega) (by omega) (K + 3) K (by omega)).trans ?_
    refine (list_no c 6 8 rfl (by omega) (by omega) (K + 2) K (by omega)).trans ?_
    exact list_end c (K + 1) K
  by_cases h10 : c.f0 = 10
  · have hn : nOf c = 2 := by simp [nOf, h10]
    refine (list_no c 0 8 rfl (by omega) (by omega) (K + 8) K (by omega)).trans ?_
    refine (list_no c 1 9 rfl (by omega) (by omega) (K + 7) K (by omega)).trans ?_
    refine (list_yes c hk hm 2 10 rfl (by omega) (by omega) (K + 6) K (by omega) (by omega) (by omega)).trans ?_
    rw [lst, hn]
    by_cases hh : chgv 2 c.f11 c.f8 (mOf c) (rOf c) = (c, 0)
    · rw [if_pos hh, if_pos hh]
    rw [if_neg hh, if_neg hh]
    refine (list_no c 3 11 rfl (by omega) (by omega) (K + 5) K (by omega)).trans ?_
    refine (list_no c 4 12 rfl (by omega) (by omega) (K + 4) K (by omega)).trans ?_
    refine (list_no c 5 0 rfl (by omega) (by omega) (K + 3) K (by omega)).trans ?_
    refine (list_no c 6 8 rfl (by omega) (by omega) (K + 2) K (by omega)).trans ?_
    exact list_end c (K + 1) K
  by_cases h11 : c.f0 = 11
  · have hn : nOf c = 3 := by simp [nOf, h11]
    refine (list_no c 0 8 rfl (by omega) (by omega) (K + 8) K (by omega)).trans ?_
    refine (list_no c 1 9 rfl (by omega) (by omega) (K + 7) K (by omega)).trans ?_
    refine (list_no c 2 10 rfl (by omega) (by omega) (K + 6) K (by omega)).trans ?_
    refine (list_yes c hk hm 3 11 rfl (by omega) (by omega) (K + 5) K (by omega) (by omega) (by omega)).trans ?_
    rw [lst, hn]
    by_cases hh : chgv 3 c.f11 c.f8 (mOf c) (rOf c) = (c, 0)
    · rw [if_pos hh, if_pos hh]
    rw [if_neg hh, if_neg hh]
    refine (list_no c 4 12 rfl (by omega) (by omega) (K + 4) K (by omega)).trans ?_
    refine (list_no c 5 0 rfl (by omega) (by omega) (K + 3) K (by omega)).trans ?_
    refine (list_no c 6 8 rfl (by omega) (by omega) (K + 2) K (by omega)).trans ?_
    exact list_end c (K + 1) K
  by_cases h12 : c.f0 = 12
  · have hn : nOf c = 4 := by simp [nOf, h12]
    refine (list_no c 0 8 rfl (by omega) (by omega) (K + 8) K (by omega)).trans ?_
    refine (list_no c 1 9 rfl (by omega) (by omega) (K + 7) K (by omega)).trans ?_
    refine (list_no c 2 10 rfl (by omega) (by omega) (K + 6) K (by omega)).trans ?_
    refine (list_no c 3 11 rfl (by omega) (by omega) (K + 5) K (by omega)).trans ?_
    refine (list_yes c hk hm 4 12 rfl (by omega) (by omega) (K + 4) K (by omega) (by omega) (by omega)).trans ?_
    rw [lst, hn]
    by_cases hh : chgv 4 c.f11 c.f8 (mOf c) (rOf c) = (c, 0)
    · rw [if_pos hh, if_pos hh]
    rw [if_neg hh, if_neg hh]
    refine (list_no c 5 0 rfl (by omega) (by omega) (K + 3) K (by omega)).trans ?_
    refine (list_no c 6 8 rfl (by omega) (by omega) (K + 2) K (by omega)).trans ?_
    exact list_end c (K + 1) K
  have hn : nOf c = 5 := by simp [nOf, h8, h9, h10, h11, h12]
  have hf : ¬ ((zc, (180 : Int)) = (c, 0)) := fun h => by have := (Prod.mk.inj h).2; omega
  rw [lst, hn, chgv_out _ _ _ _ _ (by omega), if_neg hf]
  refine (list_no c 0 8 rfl (by omega) (by omega) (K + 8) K (by omega)).trans ?_
  refine (list_no c 1 9 rfl (by omega) (by omega) (K + 7) K (by omega)).trans ?_
  refine (list_no c 2 10 rfl (by omega) (by omega) (K + 6) K (by omega)).trans ?_
  refine (list_no c 3 11 rfl (by omega) (by omega) (K + 5) K (by omega)).trans ?_
  refine (list_no c 4 12 rfl (by omega) (by omega) (K + 4) K (by omega)).trans ?_
  refine (list_no c 5 0 rfl (by omega) (by omega) (K + 3) K (by omega)).trans ?_
  refine (list_no c 6 8 rfl (by omega) (by omega) (K + 2) K (by omega)).trans ?_
  exact list_end c (K + 1) K

theorem mOf_range (c : T_api_Cmd) (h9 : 0 ≤ c.f9 ∧ c.f9 ≤ 18446744073709551615) (h10 : 0 ≤ c.f10 ∧ c.f10 ≤ 18446744073709551615) : 0 ≤ mOf c ∧ mOf c ≤ 18446744073709551615 := by
  obtain ⟨x, hx⟩ := Int.eq_ofNat_of_zero_le h9.1
  obtain ⟨y, hy⟩ := Int.eq_ofNat_of_zero_le h10.1
  unfold mOf
  rw [hx, hy, bits_or _ _ (by omega) (by omega)]
  have : x ||| y < 2 ^ 64 := Nat.or_lt_two_pow (by omega) (by omega)
  omega

end Go.Proofs.YthjjbkgifelooaaDoor.F
