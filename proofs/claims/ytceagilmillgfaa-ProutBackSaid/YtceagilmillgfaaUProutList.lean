/- The list of a command (layer 18): the program's and the document's are the same. No condition. -/
import Derived.Test.YtceagilmillgfaaUProut
import Derived.Test.YtceagilmillgfaaF9
import Derived.Test.YtceagilmillgfaaF16
import Derived.Test.YtceagilmillgfaaF17
import Derived.Test.YtceagilmillgfaaF10
import Derived.Test.YtceagilmillgfaaF11
import Derived.Test.YtceagilmillgfaaF19
namespace Go.Proofs.Ytceagilmillgfaa.F
open Go Go.RowKit Go.Proofs.Ytceagilmillgfaa.X
open Classical
set_option linter.unusedVariables false
set_option linter.unusedSimpArgs false

theorem rdL_eq {α : Type} (d : α) (xs : List α) (i : Nat) (h : i < xs.length) : rdL d xs (i : Int) = xs[i] := by
  unfold rdL
  rw [List.getD_eq_getElem?_getD, Int.toNat_natCast, List.getElem?_eq_getElem h]; rfl

theorem ranges_loop (a b : List T_api_Range) (hl : a.length = b.length) (hb : a.length ≤ 1000000) : ∀ (m K j : Nat), m ≤ a.length →
    headgatekeep_Ranges.l0 K a b (m + 1 + j) ((a.length : Int) - m) = some (decide (a.drop (a.length - m) = b.drop (a.length - m))) := by
  intro m
  induction m with
  | zero =>
    intro K j h
    rw [show 0 + 1 + j = j + 1 by omega, headgatekeep_Ranges.l0]
    unfold headgatekeep_Ranges.b0
    rw [if_neg (by omega), Nat.sub_zero, List.drop_eq_nil_of_le (Nat.le_refl _), List.drop_eq_nil_of_le (by omega)]
    simp
  | succ m ih =>
    intro K j h
    have e1 : IntKind.wrap .i64 ((a.length : Int) - ((m + 1 : Nat) : Int) + 1) = (a.length : Int) - m := by rw [wi] <;> omega
    have e2 : (a.length : Int) - ((m + 1 : Nat) : Int) = ((a.length - (m + 1) : Nat) : Int) := by omega
    rw [show m + 1 + 1 + j = (m + 1 + j) + 1 by omega, headgatekeep_Ranges.l0]
    unfold headgatekeep_Ranges.b0
    rw [if_pos (by omega), asrt_pos (by omega), asrt_pos (by omega), e1, ih K j (by omega), e2, rdL_eq _ _ _ (by omega), rdL_eq _ _ _ (by omega)]
    have d1 : a.drop (a.length - (m + 1)) = a[a.length - (m + 1)] :: a.drop (a.length - m) := by
      rw [List.drop_eq_getElem_cons (by omega)]; congr 2; omega
    have d2 : b.drop (a.length - (m + 1)) = b[a.length - (m + 1)] :: b.drop (a.length - m) := by
      rw [List.drop_eq_getElem_cons (by omega)]; congr 2; omega
    rw [d1, d2]
    generalize a[a.length - (m + 1)] = x
    generalize b[a.length - (m + 1)] = y
    obtain ⟨x0, x1⟩ := x
    obtain ⟨y0, y1⟩ := y
    by_cases h0 : x0 = y0 <;> by_cases h1 : x1 = y1 <;> simp [h0, h1]

theorem headgatekeep_Ranges.is (a b : List T_api_Range) (K : Nat) (hK : a.length < K) (hb : a.length ≤ 1000000) : headgatekeep_Ranges.f K a b = some (decide (a = b)) := by
  unfold headgatekeep_Ranges.f
  by_cases hl : a.length = b.length
  · rw [if_pos (by omega)]
    have := ranges_loop a b hl hb a.length K (K - a.length - 1) (Nat.le_refl _)
    rw [show a.length + 1 + (K - a.length - 1) = K by omega] at this
    simpa using this
  · rw [if_neg (by omega)]
    have : a ≠ b := fun h => hl (by rw [h])
    simp [this]

theorem headgatekeep_Cmds.is (a b : T_api_Cmd) (K : Nat) (hK : a.f7.length < K) (hb : a.f7.length ≤ 1000000) : headgatekeep_Cmds.f K a b = some (decide (a = b)) := by
  unfold headgatekeep_Cmds.f
  rw [headgatekeep_Ranges.is a.f7 b.f7 K hK hb]
  obtain ⟨a0, a1, a2, a3, a4, a5, a6, a7, a8, a9, a10, a11, a12, a13⟩ := a
  obtain ⟨b0, b1, b2, b3, b4, b5, b6, b7, b8, b9, b10, b11, b12, b13⟩ := b
  simp only [Option.bind_some, T_api_Cmd.mk.injEq]
  by_cases h0 : a0 = b0 <;> simp [h0]
  by_cases h1 : a1 = b1 <;> simp [h1]
  by_cases h2 : a2 = b2 <;> simp [h2]
  by_cases h3 : a3 = b3 <;> simp [h3]
  by_cases h4 : a4 = b4 <;> simp [h4]
  by_cases h5 : a5 = b5 <;> simp [h5]
  by_cases h6 : a6 = b6 <;> simp [h6]
  by_cases h7 : a7 = b7 <;> simp [h7]
  by_cases h8 : a8 = b8 <;> simp [h8]
  by_cases h9 : a9 = b9 <;> simp [h9]
  by_cases h10 : a10 = b10 <;> simp [h10]
  by_cases h11 : a11 = b11 <;> simp [h11]
  by_cases h12 : a12 = b12 <;> simp [h12]
  by_cases h13 : a13 = b13 <;> simp [h13]

theorem prout_same.is (a b : T_api_Cmd) (ha : a.f7 = []) : prout_same.f a b = some (decide (a = b)) := by
  unfold prout_same.f
  obtain ⟨a0, a1, a2, a3, a4, a5, a6, a7, a8, a9, a10, a11, a12, a13⟩ := a
  obtain ⟨b0, b1, b2, b3, b4, b5, b6, b7, b8, b9, b10, b11, b12, b13⟩ := b
  simp only at ha
  subst ha
  simp only [T_api_Cmd.mk.injEq]
  by_cases h0 : a0 = b0 <;> simp [h0]
  by_cases h1 : a1 = b1 <;> simp [h1]
  by_cases h2 : a2 = b2 <;> simp [h2]
  by_cases h3 : a3 = b3 <;> simp [h3]
  by_cases h4 : a4 = b4 <;> simp [h4]
  by_cases h5 : a5 = b5 <;> simp [h5]
  by_cases h6 : a6 = b6 <;> simp [h6]
  cases b7 with
  | cons y ys =>
    have : ¬ ((0 : Int) = (((y :: ys).length : Nat) : Int)) := by simp only [List.length_cons]; omega
    rw [if_neg this]
    simp
  | nil =>
  simp
  by_cases h8 : a8 = b8 <;> simp [h8]
  by_cases h9 : a9 = b9 <;> simp [h9]
  by_cases h10 : a10 = b10 <;> simp [h10]
  by_cases h11 : a11 = b11 <;> simp [h11]
  by_cases h12 : a12 = b12 <;> simp [h12]
  by_cases h13 : a13 = b13 <;> simp [h13]

def str (k o r : Int) : ByteArray := (strOfNums (beB k 8) ++ strOfNums (beB o 8)) ++ strOfNums (beB r 8)
theorem chg_str (n t k o r : Int) (hk : 0 ≤ k ∧ k ≤ 18446744073709551615) (ho : 0 ≤ o ∧ o ≤ 18446744073709551615) (hr : 0 ≤ r ∧ r ≤ 18446744073709551615) : chg n t (str k o r) = chgv n t k o r := by
  have s1 := size_beB k 8; have s2 := size_beB o 8; have s3 := size_beB r 8
  have s4 : (strOfNums (beB k 8) ++ strOfNums (beB o 8)).size = 16 := by rw [ByteArray.size_append]; omega
  have hs : (str k o r).size = 24 := by unfold str; rw [ByteArray.size_append]; omega
  have e0 : be (str k o r) 0 8 = k := by
    unfold str
    rw [be_left _ _ _ _ (by omega) (by omega), be_left _ _ _ _ (by omega) (by omega)]
    exact be_put k 8 hk.1 (by omega)
  have e8 : be (str k o r) 8 8 = o := by
    unfold str
    rw [be_left _ _ _ _ (by omega) (by omega), be_right _ _ _ _ (by omega), s1]
    exact be_put o 8 ho.1 (by omega)
  have e16 : be (str k o r) 16 8 = r := by
    unfold str
    rw [be_right _ _ _ _ (by omega), s4]
    exact be_put r 8 hr.1 (by omega)
  rw [chg, if_pos hs, e0, e8, e16]

def rOf (c : T_api_Cmd) : Int := if c.f13 = 2 then 16777216 else 0
def mOf (c : T_api_Cmd) : Int := bor .u64 c.f9 c.f10

theorem chgv_empty (n t k o r : Int) : (chgv n t k o r).1.f7 = [] := by
  unfold chgv zc
  (repeat' split) <;> rfl

theorem prout_key.is (v : Int) (hv : 0 ≤ v) (K : Nat) : prout_key.f (K + 9) v = some (strOfNums (beB v 8)) := by
  unfold prout_key.f
  have := fields_PutBig.is v hv 8 K (by omega) (by omega)
  rw [show ((8 : Nat) : Int) = 8 from rfl] at this
  rw [this]; rfl

theorem list_step (c : T_api_Cmd) (hk : 0 ≤ c.f8 ∧ c.f8 ≤ 18446744073709551615) (hm : 0 ≤ mOf c ∧ mOf c ≤ 18446744073709551615) (again : Int → Option (Int × ByteArray × Int)) (n : Int) (x y : Bool) (K : Nat) :
    prout_List.j0 (K + 9) c again n x y = if chgv n c.f11 c.f8 (mOf c) (rOf c) = (c, 0) then some (n, str c.f8 (mOf c) (rOf c), 0) else again (IntKind.wrap .i64 (n + 1)) := by
  have hr : rOf c = 0 ∨ rOf c = 16777216 := by unfold rOf; split <;> simp
  have s1 := size_beB c.f8 8; have s2 := size_beB (mOf c) 8; have s3 := size_beB (rOf c) 8
  have s4 : (strOfNums (beB c.f8 8) ++ strOfNums (beB (mOf c) 8)).size = 16 := by rw [ByteArray.size_append]; omega
  have main : prout_List.j1 (K + 9) c again n (strOfNums (beB c.f8 8)) (strOfNums (beB (mOf c) 8)) (rOf c) = if chgv n c.f11 c.f8 (mOf c) (rOf c) = (c, 0) then some (n, str c.f8 (mOf c) (rOf c), 0) else again (IntKind.wrap .i64 (n + 1)) := by
    unfold prout_List.j1
    rw [prout_key.is _ (by omega), Option.bind_some, asrt_pos (by omega), prout_Change.is, Option.bind_some]
    have e := chg_str n c.f11 c.f8 (mOf c) (rOf c) hk hm (by omega)
    unfold str at e ⊢
    rw [e]
    have he := chgv_empty n c.f11 c.f8 (mOf c) (rOf c)
    generalize chgv n c.f11 c.f8 (mOf c) (rOf c) = z at he
    obtain ⟨z1, z2⟩ := z
    simp only at he ⊢
    by_cases h2 : z2 = 0
    · subst h2
      rw [if_pos rfl, prout_same.is z1 c he]
      by_cases h : z1 = c <;> simp [h]
    · rw [if_neg h2, if_neg]
      intro h
      exact h2 (Prod.mk.inj h).2
  unfold prout_List.j0
  rw [prout_key.is _ hk.1, Option.bind_some]
  change (prout_key.f (K + 9) (mOf c)).bind _ = _
  rw [prout_key.is _ hm.1, Option.bind_some, asrt_pos (by omega)]
  by_cases h : c.f13 = 2
  · have e : rOf c = 16777216 := if_pos h
    rw [if_pos h]; rw [e] at main ⊢; exact main
  · have e : rOf c = 0 := if_neg h
    rw [if_neg h]; rw [e] at main ⊢; exact main

def nOf (c : T_api_Cmd) : Int := if c.f0 = 8 then (if c.f12 = true then 6 else 0) else if c.f0 = 9 then 1 else if c.f0 = 10 then 2 else if c.f0 = 11 then 3 else if c.f0 = 12 then 4 else 5
noncomputable def lst (c : T_api_Cmd) : Int × ByteArray × Int :=
  if chgv (nOf c) c.f11 c.f8 (mOf c) (rOf c) = (c, 0) then (nOf c, str c.f8 (mOf c) (rOf c), 0) else (0, ⟨#[]⟩, 180)

theorem list_no (c : T_api_Cmd) (n v : Int) (hv : rdL (0 : Int) [8, 9, 10, 11, 12, 0, 8] n = v) (h0 : 0 ≤ n) (h7 : n < 7) (k K : Nat) (h : v = c.f0 → v ≠ 0 → v = 8 ∧ ¬ (n == 6) = c.f12) : prout_List.l0 (K + 9) c ⟨8, 9, 10, 11, 12, 0, 8⟩ (k + 1) n = prout_List.l0 (K + 9) c ⟨8, 9, 10, 11, 12, 0, 8⟩ k (n + 1) := by
  have e1 : IntKind.wrap .i64 (n + 1) = n + 1 := by rw [wi] <;> omega
  rw [prout_List.l0]
  unfold prout_List.b0
  rw [if_pos h7, asrt_pos h0]
  simp only [e1, hv]
  by_cases a : v = c.f0
  · by_cases b : v = 0
    · rw [if_pos a, if_pos b]
    · rw [if_pos a, if_neg b, if_pos (h a b).1, if_neg (h a b).2]
  · rw [if_neg a]
theorem list_yes (c : T_api_Cmd) (hk : 0 ≤ c.f8 ∧ c.f8 ≤ 18446744073709551615) (hm : 0 ≤ mOf c ∧ mOf c ≤ 18446744073709551615) (n v : Int) (hv : rdL (0 : Int) [8, 9, 10, 11, 12, 0, 8] n = v) (h0 : 0 ≤ n) (h7 : n < 7) (k K : Nat)
    (h : v = c.f0) (hb : v ≠ 0) (h8 : v = 8 → (n == 6) = c.f12) : prout_List.l0 (K + 9) c ⟨8, 9, 10, 11, 12, 0, 8⟩ (k + 1) n = if chgv n c.f11 c.f8 (mOf c) (rOf c) = (c, 0) then some (n, str c.f8 (mOf c) (rOf c), 0) else prout_List.l0 (K + 9) c ⟨8, 9, 10, 11, 12, 0, 8⟩ k (n + 1) := by
  have e1 : IntKind.wrap .i64 (n + 1) = n + 1 := by rw [wi] <;> omega
  rw [prout_List.l0]
  unfold prout_List.b0
  rw [if_pos h7, asrt_pos h0]
  simp only [list_step c hk hm, e1, hv]
  by_cases d : v = 8
  · rw [if_pos h, if_neg hb, if_pos d, if_pos (h8 d)]
  · rw [if_pos h, if_neg hb, if_neg d]
theorem list_end (c : T_api_Cmd) (k K : Nat) : prout_List.l0 (K + 9) c ⟨8, 9, 10, 11, 12, 0, 8⟩ (k + 1) 7 = some (0, ⟨#[]⟩, 180) := by
  rw [prout_List.l0]; unfold prout_List.b0; rw [if_neg (by omega)]

theorem prout_List.is (c : T_api_Cmd) (hk : 0 ≤ c.f8 ∧ c.f8 ≤ 18446744073709551615) (hm : 0 ≤ mOf c ∧ mOf c ≤ 18446744073709551615) (K : Nat) : prout_List.f (K + 9) c = some (lst c) := by
  have hops : prout_ops.f = some ⟨8, 9, 10, 11, 12, 0, 8⟩ := rfl
  unfold prout_List.f
  rw [hops, Option.bind_some]
  by_cases h8 : c.f0 = 8
  · by_cases hi : c.f12 = true
    · have hn : nOf c = 6 := by simp [nOf, h8, hi]
      refine (list_no c 0 8 rfl (by omega) (by omega) (K + 8) K (by intro _ _; refine ⟨rfl, ?_⟩; rw [hi]; decide)).trans ?_
      refine (list_no c 1 9 rfl (by omega) (by omega) (K + 7) K (by omega)).trans ?_
      refine (list_no c 2 10 rfl (by omega) (by omega) (K + 6) K (by omega)).trans ?_
      refine (list_no c 3 11 rfl (by omega) (by omega) (K + 5) K (by omega)).trans ?_
      refine (list_no c 4 12 rfl (by omega) (by omega) (K + 4) K (by omega)).trans ?_
      refine (list_no c 5 0 rfl (by omega) (by omega) (K + 3) K (by omega)).trans ?_
      refine (list_yes c hk hm 6 8 rfl (by omega) (by omega) (K + 2) K (by omega) (by omega) (by intro _; rw [hi]; rfl)).trans ?_
      rw [lst, hn]
      by_cases hh : chgv 6 c.f11 c.f8 (mOf c) (rOf c) = (c, 0)
      · rw [if_pos hh, if_pos hh]
      rw [if_neg hh, if_neg hh]
      exact list_end c (K + 1) K
    · have hi : c.f12 = false := by simpa using hi
      have hn : nOf c = 0 := by simp [nOf, h8, hi]
      refine (list_yes c hk hm 0 8 rfl (by omega) (by omega) (K + 8) K (by omega) (by omega) (by intro _; rw [hi]; rfl)).trans ?_
      rw [lst, hn]
      by_cases hh : chgv 0 c.f11 c.f8 (mOf c) (rOf c) = (c, 0)
      · rw [if_pos hh, if_pos hh]
      rw [if_neg hh, if_neg hh]
      refine (list_no c 1 9 rfl (by omega) (by omega) (K + 7) K (by omega)).trans ?_
      refine (list_no c 2 10 rfl (by omega) (by omega) (K + 6) K (by omega)).trans ?_
      refine (list_no c 3 11 rfl (by omega) (by omega) (K + 5) K (by omega)).trans ?_
      refine (list_no c 4 12 rfl (by omega) (by omega) (K + 4) K (by omega)).trans ?_
      refine (list_no c 5 0 rfl (by omega) (by omega) (K + 3) K (by omega)).trans ?_
      refine (list_no c 6 8 rfl (by omega) (by omega) (K + 2) K (by intro _ _; refine ⟨rfl, ?_⟩; rw [hi]; decide)).trans ?_
      exact list_end c (K + 1) K
  by_cases h9 : c.f0 = 9
  · have hn : nOf c = 1 := by simp [nOf, h9]
    refine (list_no c 0 8 rfl (by omega) (by omega) (K + 8) K (by omega)).trans ?_
    refine (list_yes c hk hm 1 9 rfl (by omega) (by omega) (K + 7) K (by omega) (by omega) (by omega)).trans ?_
    rw [lst, hn]
    by_cases hh : chgv 1 c.f11 c.f8 (mOf c) (rOf c) = (c, 0)
    · rw [if_pos hh, if_pos hh]
    rw [if_neg hh, if_neg hh]
    refine (list_no c 2 10 rfl (by omega) (by omega) (K + 6) K (by omega)).trans ?_
    refine (list_no c 3 11 rfl (by omega) (by omega) (K + 5) K (by omega)).trans ?_
    refine (list_no c 4 12 rfl (by omega) (by omega) (K + 4) K (by omega)).trans ?_
    refine (list_no c 5 0 rfl (by omega) (by omega) (K + 3) K (by omega)).trans ?_
    refine (list_no c 6 8 rfl (by omega) (by omega) (K + 2) K (by omega)).trans ?_
    exact list_end c (K + 1) K
  by_cases h10 : c.f0 = 10
  · have hn : nOf c = 2 := by simp [nOf, h10]
    refine (list_no c 0 8 rfl (by omega) (by omega) (K + 8) K (by omega)).trans ?_
    refine (list_no c 1 9 rfl (by omega) (by omega) (K + 7) K (by omega)).trans ?_
    refine (list_yes c hk hm 2 10 rfl (by omega) (by omega) (K + 6) K (by omega) (by omega) (by omega)).trans ?_
    rw [lst, hn]
    by_cases hh : chgv 2 c.f11 c.f8 (mOf c) (rOf c) = (c, 0)
    · rw [if_pos hh, if_pos hh]
    rw [if_neg hh, if_neg hh]
    refine (list_no c 3 11 rfl (by omega) (by omega) (K + 5) K (by omega)).trans ?_
    refine (list_no c 4 12 rfl (by omega) (by omega) (K + 4) K (by omega)).trans ?_
    refine (list_no c 5 0 rfl (by omega) (by omega) (K + 3) K (by omega)).trans ?_
    refine (list_no c 6 8 rfl (by omega) (by omega) (K + 2) K (by omega)).trans ?_
    exact list_end c (K + 1) K
  by_cases h11 : c.f0 = 11
  · have hn : nOf c = 3 := by simp [nOf, h11]
    refine (list_no c 0 8 rfl (by omega) (by omega) (K + 8) K (by omega)).trans ?_
    refine (list_no c 1 9 rfl (by omega) (by omega) (K + 7) K (by omega)).trans ?_
    refine (list_no c 2 10 rfl (by omega) (by omega) (K + 6) K (by omega)).trans ?_
    refine (list_yes c hk hm 3 11 rfl (by omega) (by omega) (K + 5) K (by omega) (by omega) (by omega)).trans ?_
    rw [lst, hn]
    by_cases hh : chgv 3 c.f11 c.f8 (mOf c) (rOf c) = (c, 0)
    · rw [if_pos hh, if_pos hh]
    rw [if_neg hh, if_neg hh]
    refine (list_no c 4 12 rfl (by omega) (by omega) (K + 4) K (by omega)).trans ?_
    refine (list_no c 5 0 rfl (by omega) (by omega) (K + 3) K (by omega)).trans ?_
    refine (list_no c 6 8 rfl (by omega) (by omega) (K + 2) K (by omega)).trans ?_
    exact list_end c (K + 1) K
  by_cases h12 : c.f0 = 12
  · have hn : nOf c = 4 := by simp [nOf, h12]
    refine (list_no c 0 8 rfl (by omega) (by omega) (K + 8) K (by omega)).trans ?_
    refine (list_no c 1 9 rfl (by omega) (by omega) (K + 7) K (by omega)).trans ?_
    refine (list_no c 2 10 rfl (by omega) (by omega) (K + 6) K (by omega)).trans ?_
    refine (list_no c 3 11 rfl (by omega) (by omega) (K + 5) K (by omega)).trans ?_
    refine (list_yes c hk hm 4 12 rfl (by omega) (by omega) (K + 4) K (by omega) (by omega) (by omega)).trans ?_
    rw [lst, hn]
    by_cases hh : chgv 4 c.f11 c.f8 (mOf c) (rOf c) = (c, 0)
    · rw [if_pos hh, if_pos hh]
    rw [if_neg hh, if_neg hh]
    refine (list_no c 5 0 rfl (by omega) (by omega) (K + 3) K (by omega)).trans ?_
    refine (list_no c 6 8 rfl (by omega) (by omega) (K + 2) K (by omega)).trans ?_
    exact list_end c (K + 1) K
  have hn : nOf c = 5 := by simp [nOf, h8, h9, h10, h11, h12]
  have hf : ¬ ((zc, (180 : Int)) = (c, 0)) := fun h => by have := (Prod.mk.inj h).2; omega
  rw [lst, hn, chgv_out _ _ _ _ _ (by omega), if_neg hf]
  refine (list_no c 0 8 rfl (by omega) (by omega) (K + 8) K (by omega)).trans ?_
  refine (list_no c 1 9 rfl (by omega) (by omega) (K + 7) K (by omega)).trans ?_
  refine (list_no c 2 10 rfl (by omega) (by omega) (K + 6) K (by omega)).trans ?_
  refine (list_no c 3 11 rfl (by omega) (by omega) (K + 5) K (by omega)).trans ?_
  refine (list_no c 4 12 rfl (by omega) (by omega) (K + 4) K (by omega)).trans ?_
  refine (list_no c 5 0 rfl (by omega) (by omega) (K + 3) K (by omega)).trans ?_
  refine (list_no c 6 8 rfl (by omega) (by omega) (K + 2) K (by omega)).trans ?_
  exact list_end c (K + 1) K

theorem reflist_step (c : T_api_Cmd) (hk : 0 ≤ c.f8 ∧ c.f8 ≤ 18446744073709551615) (o on n : Int) (ho : 0 ≤ o ∧ o ≤ 18446744073709551615) (hon : on = 0 ∨ on = 1) (K : Nat) (hK : c.f7.length < K + 9) (hK2 : c.f7.length ≤ 1000000) :
    headgateref18_List.j0 (K + 9) c o on n = if chgv n c.f11 c.f8 o (on * 16777216) = (c, 0) then some (⟨n, str c.f8 o (on * 16777216)⟩, 0) else some (⟨0, ⟨#[]⟩⟩, 180) := by
  have s1 := size_beB c.f8 8; have s2 := size_beB o 8
  have s4 : (strOfNums (beB c.f8 8) ++ strOfNums (beB o 8)).size = 16 := by rw [ByteArray.size_append]; omega
  have p1 := headgateref01_PutBig.is c.f8 hk.1 hk.2 8 K (by omega) (by omega)
  have p2 := headgateref01_PutBig.is o ho.1 ho.2 8 K (by omega) (by omega)
  rw [show ((8 : Nat) : Int) = 8 from rfl] at p1 p2
  have e3 : strOfNums [0, 0, 0, 0, on, 0, 0, 0] = strOfNums (beB (on * 16777216) 8) := by
    rcases hon with rfl | rfl <;> rfl
  have s3 := size_beB (on * 16777216) 8
  unfold headgateref18_List.j0
  rw [p1, Option.bind_some, p2, Option.bind_some, e3, asrt_pos (by omega), asrt_pos (by omega), headgateref18_Change.is, Option.bind_some]
  have e := chg_str n c.f11 c.f8 o (on * 16777216) hk ho (by omega)
  unfold str at e ⊢
  rw [e]
  generalize chgv n c.f11 c.f8 o (on * 16777216) = z
  obtain ⟨z1, z2⟩ := z
  simp only
  by_cases h2 : z2 = 0
  · subst h2
    rw [if_pos rfl, headgatekeep_Cmds.is c z1 _ hK hK2]
    by_cases h : z1 = c
    · subst h; simp
    · have : ¬ c = z1 := fun h' => h h'.symm
      simp [h, this]
  · rw [if_neg h2, if_neg]
    intro h
    exact h2 (Prod.mk.inj h).2

/-- What it says of both: the list of a command is one and the same. -/
theorem same_list (c : T_api_Cmd) (hk : 0 ≤ c.f8 ∧ c.f8 ≤ 18446744073709551615) (h9 : 0 ≤ c.f9 ∧ c.f9 ≤ 18446744073709551615) (h10 : 0 ≤ c.f10 ∧ c.f10 ≤ 18446744073709551615) (K : Nat) (hK : c.f7.length < K + 9) (hK2 : c.f7.length ≤ 1000000) :
    headgateref18_List.f (K + 9) c = some (⟨(lst c).1, (lst c).2.1⟩, (lst c).2.2) := by
  have b9 : c.f9 = 0 → mOf c = c.f10 := by
    intro h
    unfold mOf
    obtain ⟨x, hx⟩ := Int.eq_ofNat_of_zero_le h10.1
    have := bits_or 0 x (by omega) (by omega)
    rw [h, hx]
    simpa using this
  have b10 : c.f10 = 0 → mOf c = c.f9 := by
    intro h
    unfold mOf
    obtain ⟨x, hx⟩ := Int.eq_ofNat_of_zero_le h9.1
    have := bits_or x 0 (by omega) (by omega)
    rw [h, hx]
    simpa using this
  have key : ∀ (n o on : Int), ((n = 0 ∨ n = 6) ∧ o = c.f9 ∧ on * 16777216 = rOf c ∨ (n = 1 ∨ n = 2 ∨ n = 3 ∨ n = 4) ∧ o = c.f10 ∧ on = 0) →
      (chgv n c.f11 c.f8 (mOf c) (rOf c) = (c, 0) ∨ chgv n c.f11 c.f8 o (on * 16777216) = (c, 0)) → mOf c = o ∧ rOf c = on * 16777216 := by
    intro n o on hn h
    have f9 : ∀ (k o r : Int), chgv n c.f11 k o r = (c, 0) → (n = 0 ∨ n = 6 → c.f10 = 0) ∧ (n = 1 ∨ n = 2 ∨ n = 3 ∨ n = 4 → c.f9 = 0 ∧ c.f13 = 0) := by
      intro k o r h
      have g9 : c.f9 = (chgv n c.f11 k o r).1.f9 := by rw [h]
      have g10 : c.f10 = (chgv n c.f11 k o r).1.f10 := by rw [h]
      have g13 : c.f13 = (chgv n c.f11 k o r).1.f13 := by rw [h]
      have g0 : (chgv n c.f11 k o r).2 = 0 := by rw [h]
      unfold chgv at g9 g10 g13 g0
      refine ⟨fun hn => ?_, fun hn => ?_⟩
      · rcases hn with rfl | rfl <;> simp at g10 g0 <;> (repeat' split at g10) <;> simp_all [zc]
      · rcases hn with rfl | rfl | rfl | rfl <;> simp at g9 g13 g0 <;> (repeat' split at g9) <;> simp_all [zc]
    have hf : (n = 0 ∨ n = 6 → c.f10 = 0) ∧ (n = 1 ∨ n = 2 ∨ n = 3 ∨ n = 4 → c.f9 = 0 ∧ c.f13 = 0) := by
      rcases h with h | h
      · exact f9 _ _ _ h
      · exact f9 _ _ _ h
    rcases hn with ⟨h1, rfl, h3⟩ | ⟨h1, rfl, h3⟩
    · exact ⟨b10 (hf.1 h1), h3.symm⟩
    · have := hf.2 h1
      refine ⟨b9 this.1, ?_⟩
      unfold rOf
      rw [this.2, h3]; rfl
  have fin : ∀ (n o on : Int), ((n = 0 ∨ n = 6) ∧ o = c.f9 ∧ on * 16777216 = rOf c ∨ (n = 1 ∨ n = 2 ∨ n = 3 ∨ n = 4) ∧ o = c.f10 ∧ on = 0) → nOf c = n → (on = 0 ∨ on = 1) → 
      headgateref18_List.j0 (K + 9) c o on n = some (⟨(lst c).1, (lst c).2.1⟩, (lst c).2.2) := by
    intro n o on hn hc hon
    have ho : 0 ≤ o ∧ o ≤ 18446744073709551615 := by rcases hn with ⟨_, rfl, _⟩ | ⟨_, rfl, _⟩ <;> assumption
    rw [reflist_step c hk o on n ho hon K hK hK2, lst, hc]
    have k1 := key n o on hn
    by_cases h : chgv n c.f11 c.f8 o (on * 16777216) = (c, 0)
    · obtain ⟨e1, e2⟩ := k1 (.inr h)
      rw [e1, e2, if_pos h, if_pos h]
    · rw [if_neg h]
      by_cases h' : chgv n c.f11 c.f8 (mOf c) (rOf c) = (c, 0)
      · obtain ⟨e1, e2⟩ := k1 (.inl h')
        rw [e1, e2] at h'
        exact absurd h' h
      · rw [if_neg h']
  unfold headgateref18_List.f
  by_cases h8 : c.f0 = 8
  · rw [if_pos h8]
    by_cases hi : c.f12 = true
    · rw [if_pos hi]
      have hn : nOf c = 6 := by simp [nOf, h8, hi]
      by_cases h13 : c.f13 = 2
      · rw [if_pos h13]; exact fin 6 c.f9 1 (.inl ⟨.inr rfl, rfl, by simp [rOf, h13]⟩) hn (.inr rfl)
      · rw [if_neg h13]; exact fin 6 c.f9 0 (.inl ⟨.inr rfl, rfl, by simp [rOf, h13]⟩) hn (.inl rfl)
    · rw [if_neg hi]
      have hi : c.f12 = false := by simpa using hi
      have hn : nOf c = 0 := by simp [nOf, h8, hi]
      by_cases h13 : c.f13 = 2
      · rw [if_pos h13]; exact fin 0 c.f9 1 (.inl ⟨.inl rfl, rfl, by simp [rOf, h13]⟩) hn (.inr rfl)
      · rw [if_neg h13]; exact fin 0 c.f9 0 (.inl ⟨.inl rfl, rfl, by simp [rOf, h13]⟩) hn (.inl rfl)
  rw [if_neg h8]
  by_cases h_9 : c.f0 = 9
  · rw [if_pos h_9]; exact fin 1 c.f10 0 (.inr ⟨by omega, rfl, rfl⟩) (by simp [nOf, h_9]) (.inl rfl)
  rw [if_neg h_9]
  by_cases h_10 : c.f0 = 10
  · rw [if_pos h_10]; exact fin 2 c.f10 0 (.inr ⟨by omega, rfl, rfl⟩) (by simp [nOf, h_10]) (.inl rfl)
  rw [if_neg h_10]
  by_cases h_11 : c.f0 = 11
  · rw [if_pos h_11]; exact fin 3 c.f10 0 (.inr ⟨by omega, rfl, rfl⟩) (by simp [nOf, h_11]) (.inl rfl)
  rw [if_neg h_11]
  by_cases h_12 : c.f0 = 12
  · rw [if_pos h_12]; exact fin 4 c.f10 0 (.inr ⟨by omega, rfl, rfl⟩) (by simp [nOf, h_12]) (.inl rfl)
  rw [if_neg h_12]
  have hn : nOf c = 5 := by simp [nOf, h8, h_9, h_10, h_11, h_12]
  have hf : ¬ ((zc, (180 : Int)) = (c, 0)) := fun h => by have := (Prod.mk.inj h).2; omega
  rw [lst, hn, chgv_out _ _ _ _ _ (by omega), if_neg hf]

theorem mOf_range (c : T_api_Cmd) (h9 : 0 ≤ c.f9 ∧ c.f9 ≤ 18446744073709551615) (h10 : 0 ≤ c.f10 ∧ c.f10 ≤ 18446744073709551615) : 0 ≤ mOf c ∧ mOf c ≤ 18446744073709551615 := by
  obtain ⟨x, hx⟩ := Int.eq_ofNat_of_zero_le h9.1
  obtain ⟨y, hy⟩ := Int.eq_ofNat_of_zero_le h10.1
  unfold mOf
  rw [hx, hy, bits_or _ _ (by omega) (by omega)]
  have : x ||| y < 2 ^ 64 := Nat.or_lt_two_pow (by omega) (by omega)
  omega

end Go.Proofs.Ytceagilmillgfaa.F
