/- Writes as a text, and back: what the code's functions and the document's come to. No condition. -/
import Derived.Test.YtdcojinnjpihaaaDoorUFrameGot
import Derived.Test.YtdcojinnjpihaaaDoorF16
import Derived.Test.YtdcojinnjpihaaaDoorF17
import Derived.Test.YtdcojinnjpihaaaDoorF16
import Derived.Test.YtdcojinnjpihaaaDoorF17
import Derived.Test.YtdcojinnjpihaaaDoorF16
namespace Go.Proofs.YtdcojinnjpihaaaDoor.F
open Go Go.RowKit Go.Proofs.YtdcojinnjpihaaaDoor.X
set_option linter.unusedVariables false
set_option linter.unusedSimpArgs false

def okW (w : T_api_Write) : Prop := 0 ≤ w.f0 ∧ w.f0 < 8192 ∧ w.f1.size = 512
instance (w : T_api_Write) : Decidable (okW w) := by unfold okW; infer_instance
def bodyW : List T_api_Write → ByteArray
  | [] => ⟨#[]⟩
  | w :: r => (strOfNums (beB w.f0 4) ++ w.f1) ++ bodyW r
def allW (l : List T_api_Write) : Prop := ∀ w ∈ l, okW w
instance (l : List T_api_Write) : Decidable (allW l) := by unfold allW; infer_instance
def writesB (l : List T_api_Write) : ByteArray × Int :=
  if l.length > 80 then (⟨#[]⟩, 3) else if allW l then (strOfNums (beB (l.length : Int) 4) ++ bodyW l, 0) else (⟨#[]⟩, 40)

theorem app_assoc3 (a b c : ByteArray) : (a ++ b) ++ c = a ++ (b ++ c) := by rw [ByteArray.append_assoc]
theorem allW_cons {w : T_api_Write} {r : List T_api_Write} : allW (w :: r) ↔ okW w ∧ allW r := by unfold allW; simp
theorem bodyW_size : ∀ l : List T_api_Write, allW l → (bodyW l).size = l.length * 516
  | [], _ => rfl
  | w :: r, h => by
    obtain ⟨h1, h2⟩ := allW_cons.mp h
    rw [bodyW, ByteArray.size_append, ByteArray.size_append, size_beB, h1.2.2, bodyW_size r h2, List.length_cons]
    omega
theorem rdW (l : List T_api_Write) (i : Nat) (h : i < l.length) : rdL T_api_Write.z l (i : Int) = l[i] := by
  unfold rdL
  rw [Int.toNat_natCast, List.getD_eq_getElem?_getD, List.getElem?_eq_getElem h]
  rfl
theorem put4 (v : Int) (h0 : 0 ≤ v) (h1 : v ≤ 18446744073709551615) (K : Nat) : fields_PutBig.f (K + 9) (IntKind.wrap .u64 v) 4 = some (strOfNums (beB v 4)) := by
  have e : IntKind.wrap .u64 v = v := by rw [wrapu64]; omega
  rw [e]
  exact fields_PutBig.is v h0 4 K (by omega) (by omega)
theorem refput4 (v : Int) (h0 : 0 ≤ v) (h1 : v ≤ 18446744073709551615) (K : Nat) : headgateref01_PutBig.f (K + 9) (IntKind.wrap .u64 v) 4 = some (strOfNums (beB v 4)) := by
  have e : IntKind.wrap .u64 v = v := by rw [wrapu64]; omega
  rw [e]
  exact headgateref01_PutBig.is v h0 h1 4 K (by omega) (by omega)

theorem writes_loop (K : Nat) (l : List T_api_Write) (hl : l.length ≤ 80) : ∀ (r j i : Nat) (x : ByteArray), i + r = l.length → x.size ≤ 4 + i * 516 →
    frame_Writes.l0 (K + 9) l (r + 1 + j) (i : Int) x = some (if allW (l.drop i) then (x ++ bodyW (l.drop i), 0) else (⟨#[]⟩, 40)) := by
  intro r
  induction r with
  | zero =>
    intro j i x hi hx
    rw [show 0 + 1 + j = j + 1 by omega, frame_Writes.l0, frame_Writes.b0, if_neg (by omega), List.drop_of_length_le (by omega), if_pos (show allW [] from fun w h => by cases h), bodyW, app_nil]
  | succ r ih =>
    intro j i x hi hx
    have hlt : i < l.length := by omega
    have hd : l.drop i = l[i] :: l.drop (i + 1) := List.drop_eq_getElem_cons hlt
    rw [show r + 1 + 1 + j = (r + 1 + j) + 1 by omega, frame_Writes.l0, frame_Writes.b0, if_pos (by omega), asrt_pos (by omega), rdW l i hlt]
    by_cases h1 : (l[i]).f0 < 0
    · rw [if_pos h1, if_neg (fun h => by rw [hd] at h; have := (allW_cons.mp h).1.1; omega)]
    by_cases h2 : (l[i]).f0 ≥ 8192
    · rw [if_neg h1, if_pos h2, if_neg (fun h => by rw [hd] at h; have := (allW_cons.mp h).1.2.1; omega)]
    by_cases h3 : ((l[i]).f1.size : Int) = 512
    · have hok : okW l[i] := ⟨by omega, by omega, by omega⟩
      have s4 := size_beB (l[i]).f0 4
      rw [if_neg h1, if_neg h2, if_pos h3, put4 _ (by omega) (by omega), Option.bind_some, asrt_pos (by omega), asrt_pos (by rw [ByteArray.size_append]; omega), show IntKind.wrap .i64 ((i : Int) + 1) = ((i + 1 : Nat) : Int) by rw [wi] <;> omega, ih j (i + 1) _ (by omega) (by rw [ByteArray.size_append, ByteArray.size_append]; omega)]
      by_cases h4 : allW (l.drop (i + 1))
      · rw [if_pos h4, if_pos (by rw [hd]; exact allW_cons.mpr ⟨hok, h4⟩), hd, bodyW, app_assoc3, app_assoc3, app_assoc3]
      · rw [if_neg h4, if_neg (fun h => by rw [hd] at h; exact h4 (allW_cons.mp h).2)]
    · rw [if_neg h1, if_neg h2, if_neg h3, if_neg (fun h => by rw [hd] at h; have := (allW_cons.mp h).1.2.2; omega)]

theorem frame_Writes.is (l : List T_api_Write) (K : Nat) (hK : 100 ≤ K) : frame_Writes.f (K + 9) l = some (writesB l) := by
  unfold frame_Writes.f writesB
  by_cases h : l.length > 80
  · rw [if_pos (by omega), if_pos h]
  have s4 := size_beB (l.length : Int) 4
  rw [if_neg (by omega), if_neg h, put4 _ (by omega) (by omega), Option.bind_some, nil_app, asrt_pos (by rw [(size0 _).mp rfl]; omega)]
  have := writes_loop K l (by omega) l.length (K + 8 - l.length) 0 (strOfNums (beB (l.length : Int) 4)) (by omega) (by omega)
  rw [show l.length + 1 + (K + 8 - l.length) = K + 9 by omega, List.drop_zero] at this
  exact this

theorem refw_loop (K : Nat) (l : List T_api_Write) (hl : l.length ≤ 80) : ∀ (r j i : Nat) (x : ByteArray), i + r = l.length → x.size ≤ 4 + i * 516 → allW (l.drop i) →
    headgateref05_Writes.l1 (K + 9) l (r + 1 + j) x (i : Int) = some (x ++ bodyW (l.drop i), 0) := by
  intro r
  induction r with
  | zero =>
    intro j i x hi hx ha
    rw [show 0 + 1 + j = j + 1 by omega, headgateref05_Writes.l1, headgateref05_Writes.b1, if_neg (by omega), List.drop_of_length_le (by omega), bodyW, app_nil]
  | succ r ih =>
    intro j i x hi hx ha
    have hlt : i < l.length := by omega
    have hd : l.drop i = l[i] :: l.drop (i + 1) := List.drop_eq_getElem_cons hlt
    rw [hd] at ha
    obtain ⟨h1, h2⟩ := allW_cons.mp ha
    obtain ⟨g1, g2, g3⟩ := h1
    have s4 := size_beB (l[i]).f0 4
    rw [show r + 1 + 1 + j = (r + 1 + j) + 1 by omega, headgateref05_Writes.l1, headgateref05_Writes.b1, if_pos (by omega), asrt_pos (by omega), rdW l i hlt, refput4 _ (by omega) (by omega), Option.bind_some, asrt_pos (by omega), asrt_pos (by rw [ByteArray.size_append]; omega), show IntKind.wrap .i64 ((i : Int) + 1) = ((i + 1 : Nat) : Int) by rw [wi] <;> omega, ih j (i + 1) _ (by omega) (by rw [ByteArray.size_append, ByteArray.size_append]; omega) h2, hd, bodyW, app_assoc3, app_assoc3, app_assoc3]

theorem refc_loop (K : Nat) (hK : 100 ≤ K) (l : List T_api_Write) (hl : l.length ≤ 80) (h0 : ∀ w ∈ l.take 0, okW w) : ∀ (r j i : Nat), i + r = l.length → allW (l.take i) →
    headgateref05_Writes.l0 (K + 9) l (r + 1 + j) (i : Int) = some (if allW l then (strOfNums (beB (l.length : Int) 4) ++ bodyW l, 0) else (⟨#[]⟩, 40)) := by
  intro r
  induction r with
  | zero =>
    intro j i hi ha
    rw [List.take_of_length_le (by omega)] at ha
    have s4 := size_beB (l.length : Int) 4
    rw [show 0 + 1 + j = j + 1 by omega, headgateref05_Writes.l0, headgateref05_Writes.b0, if_neg (by omega), if_pos ha, refput4 _ (by omega) (by omega), Option.bind_some, asrt_pos (by omega)]
    have := refw_loop K l hl l.length (K + 8 - l.length) 0 (strOfNums (beB (l.length : Int) 4)) (by omega) (by omega) (by rwa [List.drop_zero])
    rw [show l.length + 1 + (K + 8 - l.length) = K + 9 by omega, List.drop_zero] at this
    exact this
  | succ r ih =>
    intro j i hi ha
    have hlt : i < l.length := by omega
    have hm : l[i] ∈ l := List.getElem_mem _
    rw [show r + 1 + 1 + j = (r + 1 + j) + 1 by omega, headgateref05_Writes.l0, headgateref05_Writes.b0, if_pos (by omega), asrt_pos (by omega), rdW l i hlt]
    by_cases h1 : (l[i]).f0 < 0
    · rw [if_pos h1, if_neg (fun h => by have := (h _ hm).1; omega)]
    by_cases h2 : (l[i]).f0 ≥ 8192
    · rw [if_neg h1, if_pos h2, if_neg (fun h => by have := (h _ hm).2.1; omega)]
    by_cases h3 : ((l[i]).f1.size : Int) = 512
    · rw [if_neg h1, if_neg h2, if_pos h3, show IntKind.wrap .i64 ((i : Int) + 1) = ((i + 1 : Nat) : Int) by rw [wi] <;> omega]
      refine ih j (i + 1) (by omega) fun w hw => ?_
      rw [List.take_succ_eq_append_getElem hlt] at hw
      rcases List.mem_append.mp hw with h | h
      · exact ha w h
      · rw [List.mem_singleton.mp h]; exact ⟨by omega, by omega, by omega⟩
    · rw [if_neg h1, if_neg h2, if_neg h3, if_neg (fun h => by have := (h _ hm).2.2; omega)]

theorem headgateref05_Writes.is (l : List T_api_Write) (K : Nat) (hK : 100 ≤ K) : headgateref05_Writes.f (K + 9) l = some (writesB l) := by
  unfold headgateref05_Writes.f writesB
  by_cases h : l.length > 80
  · rw [if_pos (by omega), if_pos h]
  rw [if_neg (by omega), if_neg h]
  have := refc_loop K hK l (by omega) (fun w h => by simp at h) l.length (K + 8 - l.length) 0 (by omega) (fun w h => by simp at h)
  rw [show l.length + 1 + (K + 8 - l.length) = K + 9 by omega] at this
  exact this

/-! ### A text's writes -/
def splitL (s : ByteArray) : Nat → Nat → Option (List T_api_Write)
  | 0, _ => some []
  | k + 1, i => if be s ((4 + i * 516 : Nat) : Int) 4 ≥ 8192 then none else (splitL s k (i + 1)).map fun l => ⟨be s ((4 + i * 516 : Nat) : Int) 4, s.extract (8 + i * 516) (520 + i * 516)⟩ :: l
def resW (x : List T_api_Write) : Option (List T_api_Write) → List T_api_Write × Int
  | none => ([], 50)
  | some l => (x ++ l, 0)
def splitB (s : ByteArray) : List T_api_Write × Int :=
  if 4 ≤ s.size then (if be s 0 4 > 80 then ([], 50) else if (s.size : Int) = 4 + be s 0 4 * 516 then resW [] (splitL s (be s 0 4).toNat 0) else ([], 50)) else ([], 50)

theorem split_loop (K : Nat) (s : ByteArray) (t : Int × Bool) (m : Nat) (hm : m ≤ 80) (ht : t.1 = (m : Int)) (hs : s.size = 4 + m * 516) : ∀ (r j i : Nat) (x : List T_api_Write), i + r = m → x.length = i →
    frame_Split.l0 (K + 9) s t (r + 1 + j) x (i : Int) = some (resW x (splitL s r i)) := by
  intro r
  induction r with
  | zero =>
    intro j i x hi hx
    rw [show 0 + 1 + j = j + 1 by omega, frame_Split.l0, frame_Split.b0, ht, wi (by omega) (by omega), if_neg (by omega), splitL, resW, List.append_nil]
  | succ r ih =>
    intro j i x hi hx
    have h1 := be_lo s ((4 + i * 516 : Nat) : Int) 4
    have h2 := be_hi s ((4 + i * 516 : Nat) : Int) 4
    rw [show r + 1 + 1 + j = (r + 1 + j) + 1 by omega, frame_Split.l0, frame_Split.b0, ht, wi (n := (m : Int)) (by omega) (by omega), if_pos (by omega)]
    have e1 : IntKind.wrap .i64 ((i : Int) * 516) = ((i * 516 : Nat) : Int) := by rw [wi] <;> omega
    have e2 : IntKind.wrap .i64 (4 + ((i * 516 : Nat) : Int)) = ((4 + i * 516 : Nat) : Int) := by rw [wi] <;> omega
    have e3 : IntKind.wrap .i64 (8 + ((i * 516 : Nat) : Int)) = ((8 + i * 516 : Nat) : Int) := by rw [wi] <;> omega
    have e4 : IntKind.wrap .i64 ((i : Int) + 1) = ((i + 1 : Nat) : Int) := by rw [wi] <;> omega
    have e5 : IntKind.wrap .i64 (((i + 1 : Nat) : Int) * 516) = (((i + 1) * 516 : Nat) : Int) := by rw [wi] <;> omega
    have e6 : IntKind.wrap .i64 (4 + (((i + 1) * 516 : Nat) : Int)) = ((520 + i * 516 : Nat) : Int) := by rw [wi] <;> omega
    have hb := fields_Big.is s ((4 + i * 516 : Nat) : Int) 4 K (by omega) (by omega) (by omega)
    rw [if_pos (by omega)] at hb
    rw [e1, e2, e3, e4, e5, e6, show ((4 : Nat) : Int) = 4 from rfl] at *
    rw [hb, Option.bind_some, splitL]
    dsimp only
    by_cases h3 : be s ((4 + i * 516 : Nat) : Int) 4 ≥ 8192
    · rw [if_pos h3, if_pos h3]; rfl
    · rw [if_neg h3, if_neg h3, asrt_pos (by omega), asrt_pos (by omega), asrt_pos (by omega), asrt_pos (by simp; omega), wi (n := be s _ 4) (by omega) (by omega), ih j (i + 1) _ (by omega) (by simp [hx])]
      simp only [Int.toNat_natCast]
      cases splitL s r (i + 1) with
      | none => rfl
      | some l => simp [resW]

theorem frame_Split.is (s : ByteArray) (hs : s.size ≤ 200000) (K : Nat) (hK : 100 ≤ K) : frame_Split.f (K + 9) s = some (splitB s) := by
  unfold frame_Split.f splitB
  have hb := fields_Big.is s 0 4 K (by omega) (by omega) (by omega)
  rw [show ((4 : Nat) : Int) = 4 from rfl] at hb
  rw [hb, Option.bind_some]
  by_cases h4 : 4 ≤ s.size
  · have h1 := be_lo s 0 4
    rw [if_pos (show (0 : Int) ≤ 0 ∧ 0 + 4 ≤ (s.size : Int) by omega), if_pos h4]
    dsimp only
    rw [if_pos rfl]
    by_cases h5 : be s 0 4 > 80
    · rw [if_pos h5, if_pos h5]
    · rw [if_neg h5, if_neg h5, wi (n := be s 0 4) (by omega) (by omega), wi (n := be s 0 4 * 516) (by omega) (by omega), wi (n := 4 + _) (by omega) (by omega)]
      by_cases h6 : (s.size : Int) = 4 + be s 0 4 * 516
      · rw [if_pos h6, if_pos h6]
        have := split_loop K s (be s 0 4, true) (be s 0 4).toNat (by omega) (by simp only; omega) (by omega) (be s 0 4).toNat (K + 8 - (be s 0 4).toNat) 0 [] (by omega) rfl
        rw [show (be s 0 4).toNat + 1 + (K + 8 - (be s 0 4).toNat) = K + 9 by omega] at this
        exact this
      · rw [if_neg h6, if_neg h6]
  · rw [if_neg (show ¬ ((0 : Int) ≤ 0 ∧ 0 + 4 ≤ (s.size : Int)) by omega), if_neg h4]
    rfl

theorem refs_loop (K : Nat) (s : ByteArray) (t : Int × Bool) (m : Nat) (hm : m ≤ 80) (ht : t.1 = (m : Int)) (hs : s.size = 4 + m * 516) : ∀ (r j i : Nat) (x : List T_api_Write), i + r = m → x.length = i →
    headgateref05_Split.l0 (K + 9) s t (r + 1 + j) x (i : Int) = some (resW x (splitL s r i)) := by
  intro r
  induction r with
  | zero =>
    intro j i x hi hx
    rw [show 0 + 1 + j = j + 1 by omega, headgateref05_Split.l0, headgateref05_Split.b0, ht, wi (by omega) (by omega), if_neg (by omega), splitL, resW, List.append_nil]
  | succ r ih =>
    intro j i x hi hx
    have h1 := be_lo s ((4 + i * 516 : Nat) : Int) 4
    have h2 := be_hi s ((4 + i * 516 : Nat) : Int) 4
    rw [show r + 1 + 1 + j = (r + 1 + j) + 1 by omega, headgateref05_Split.l0, headgateref05_Split.b0, ht, wi (n := (m : Int)) (by omega) (by omega), if_pos (by omega)]
    have e1 : IntKind.wrap .i64 ((i : Int) * 516) = ((i * 516 : Nat) : Int) := by rw [wi] <;> omega
    have e2 : IntKind.wrap .i64 (4 + ((i * 516 : Nat) : Int)) = ((4 + i * 516 : Nat) : Int) := by rw [wi] <;> omega
    have e3 : IntKind.wrap .i64 (8 + ((i * 516 : Nat) : Int)) = ((8 + i * 516 : Nat) : Int) := by rw [wi] <;> omega
    have e4 : IntKind.wrap .i64 ((i : Int) + 1) = ((i + 1 : Nat) : Int) := by rw [wi] <;> omega
    have e5 : IntKind.wrap .i64 (((8 + i * 516 : Nat) : Int) + 512) = ((520 + i * 516 : Nat) : Int) := by rw [wi] <;> omega
    have hb := headgateref01_Big.is s ((4 + i * 516 : Nat) : Int) 4 K (by omega) (by omega) (by omega)
    rw [if_pos (by omega)] at hb
    rw [e1, e2, e3, e4, e5, show ((4 : Nat) : Int) = 4 from rfl] at *
    rw [hb, Option.bind_some, splitL]
    dsimp only
    by_cases h3 : be s ((4 + i * 516 : Nat) : Int) 4 ≥ 8192
    · rw [if_pos h3, if_pos h3]; rfl
    · rw [if_neg h3, if_neg h3, asrt_pos (by omega), asrt_pos (by omega), asrt_pos (by omega), asrt_pos (by simp; omega), wi (n := be s _ 4) (by omega) (by omega), ih j (i + 1) _ (by omega) (by simp [hx])]
      simp only [Int.toNat_natCast]
      cases splitL s r (i + 1) with
      | none => rfl
      | some l => simp [resW]

theorem headgateref05_Split.is (s : ByteArray) (hs : s.size ≤ 200000) (K : Nat) (hK : 100 ≤ K) : headgateref05_Split.f (K + 9) s = some (splitB s) := by
  unfold headgateref05_Split.f splitB
  have hb := headgateref01_Big.is s 0 4 K (by omega) (by omega) (by omega)
  rw [show ((4 : Nat) : Int) = 4 from rfl] at hb
  rw [hb, Option.bind_some]
  by_cases h4 : 4 ≤ s.size
  · have h1 := be_lo s 0 4
    rw [if_pos (show (0 : Int) ≤ 0 ∧ 0 + 4 ≤ (s.size : Int) by omega), if_pos h4]
    dsimp only
    rw [if_pos rfl]
    by_cases h5 : be s 0 4 > 80
    · rw [if_pos h5, if_pos h5]
    · rw [if_neg h5, if_neg h5, wi (n := be s 0 4) (by omega) (by omega), wi (n := be s 0 4 * 516) (by omega) (by omega), wi (n := 4 + _) (by omega) (by omega)]
      by_cases h6 : (s.size : Int) = 4 + be s 0 4 * 516
      · rw [if_pos h6, if_pos h6]
        have := refs_loop K s (be s 0 4, true) (be s 0 4).toNat (by omega) (by simp only; omega) (by omega) (be s 0 4).toNat (K + 8 - (be s 0 4).toNat) 0 [] (by omega) rfl
        rw [show (be s 0 4).toNat + 1 + (K + 8 - (be s 0 4).toNat) = K + 9 by omega] at this
        exact this
      · rw [if_neg h6, if_neg h6]
  · rw [if_neg (show ¬ ((0 : Int) ≤ 0 ∧ 0 + 4 ≤ (s.size : Int)) by omega), if_neg h4]
    rfl

theorem same_loop (K : Nat) (l : List T_api_Write) (hl : l.length ≤ 1000) : ∀ (r j i : Nat), i + r = l.length → headgateref05_Same.l0 K l l (r + 1 + j) (i : Int) = some true := by
  intro r
  induction r with
  | zero =>
    intro j i hi
    rw [show 0 + 1 + j = j + 1 by omega, headgateref05_Same.l0, headgateref05_Same.b0, if_neg (by omega)]
  | succ r ih =>
    intro j i hi
    rw [show r + 1 + 1 + j = (r + 1 + j) + 1 by omega, headgateref05_Same.l0, headgateref05_Same.b0, if_pos (by omega), asrt_pos (by omega), asrt_pos (by omega), if_pos rfl, if_pos rfl, show IntKind.wrap .i64 ((i : Int) + 1) = ((i + 1 : Nat) : Int) by rw [wi] <;> omega]
    exact ih j (i + 1) (by omega)
theorem headgateref05_Same.is (l : List T_api_Write) (hl : l.length ≤ 1000) (K : Nat) (hK : 2000 ≤ K) : headgateref05_Same.f K l l = some true := by
  unfold headgateref05_Same.f
  rw [if_pos rfl]
  have := same_loop K l hl l.length (K - 1 - l.length) 0 (by omega)
  rwa [show l.length + 1 + (K - 1 - l.length) = K by omega] at this

theorem resW_length (s : ByteArray) : ∀ (k i : Nat) (l : List T_api_Write), splitL s k i = some l → l.length = k
  | 0, i, l, h => by cases h; rfl
  | k + 1, i, l, h => by
    rw [splitL] at h
    split at h
    · cases h
    · cases hk : splitL s k (i + 1) with
      | none => rw [hk] at h; cases h
      | some l' => rw [hk] at h; cases h; rw [List.length_cons, resW_length s k (i + 1) l' hk]
theorem splitB_length (s : ByteArray) : (splitB s).1.length ≤ 80 := by
  unfold splitB
  split
  · split
    · simp
    · split
      · rename_i h1 h2
        have := be_lo s 0 4
        cases hk : splitL s (be s 0 4).toNat 0 with
        | none => simp [resW]
        | some l => simp only [resW, List.nil_append]; rw [resW_length s _ _ l hk]; omega
      · simp
  · simp

/-- What was written is split as it was. -/
theorem split_body (l : List T_api_Write) (ha : allW l) (s : ByteArray) (n4 : ByteArray) (hn : n4.size = 4) : ∀ (r i : Nat) (pre : ByteArray), i + r = l.length → pre.size = 4 + i * 516 → s = pre ++ bodyW (l.drop i) → splitL s r i = some (l.drop i) := by
  intro r
  induction r with
  | zero => intro i pre hi hp hs; rw [splitL, List.drop_of_length_le (by omega)]
  | succ r ih =>
    intro i pre hi hp hs
    have hlt : i < l.length := by omega
    have hd : l.drop i = l[i] :: l.drop (i + 1) := List.drop_eq_getElem_cons hlt
    obtain ⟨g1, g2, g3⟩ := ha l[i] (List.getElem_mem _)
    have s4 := size_beB (l[i]).f0 4
    rw [hd, bodyW] at hs
    have hbe : be s ((4 + i * 516 : Nat) : Int) 4 = (l[i]).f0 := by
      rw [hs, be_right _ _ _ _ (by omega), show ((4 + i * 516 : Nat) : Int) - (pre.size : Int) = 0 by omega, be_left _ _ _ _ (by omega) (by rw [ByteArray.size_append]; omega), be_left _ _ _ _ (by omega) (by omega)]
      exact be_put _ 4 g1 (by omega)
    have hex : s.extract (8 + i * 516) (520 + i * 516) = (l[i]).f1 := by
      rw [hs, ← app_assoc3, ← app_assoc3]
      exact ext_mid (pre ++ strOfNums (beB (l[i]).f0 4)) (l[i]).f1 _ _ _ (by rw [ByteArray.size_append]; omega) (by rw [ByteArray.size_append]; omega)
    have := ih (i + 1) (pre ++ (strOfNums (beB (l[i]).f0 4) ++ (l[i]).f1)) (by omega) (by rw [ByteArray.size_append, ByteArray.size_append]; omega) (by rw [hs]; exact (app_assoc3 _ _ _).symm)
    rw [splitL, hbe, if_neg (by omega), this, hex, hd]
    rfl

theorem split_writes (l : List T_api_Write) (h : (writesB l).2 = 0) : splitB (writesB l).1 = (l, 0) := by
  unfold writesB at h ⊢
  by_cases h1 : l.length > 80
  · rw [if_pos h1] at h; simp at h
  rw [if_neg h1] at h ⊢
  by_cases h2 : allW l
  · rw [if_pos h2]
    have s4 := size_beB (l.length : Int) 4
    have hb := bodyW_size l h2
    have hbe : be (strOfNums (beB (l.length : Int) 4) ++ bodyW l) 0 4 = (l.length : Int) := by
      rw [be_left _ _ _ _ (by omega) (by omega)]
      exact be_put _ 4 (by omega) (by omega)
    unfold splitB
    simp only
    rw [hbe, ByteArray.size_append, if_pos (by omega), if_neg (by omega), if_pos (by omega), Int.toNat_natCast, split_body l h2 _ (strOfNums (beB (l.length : Int) 4)) s4 l.length 0 (strOfNums (beB (l.length : Int) 4)) (by omega) (by omega) (by rw [List.drop_zero])]
    rfl
  · rw [if_neg h2] at h; simp at h
theorem writesB_size (l : List T_api_Write) : (writesB l).1.size ≤ 41284 := by
  unfold writesB
  split
  · rw [(size0 _).mp rfl]; omega
  · split
    · rename_i h1 h2
      have s4 := size_beB (l.length : Int) 4
      have hb := bodyW_size l h2
      simp only [ByteArray.size_append]
      omega
    · rw [(size0 _).mp rfl]; omega
theorem writesB_bad (l : List T_api_Write) (h : ¬ (writesB l).2 = 0) : (writesB l).1 = ⟨#[]⟩ := by
  unfold writesB at h ⊢
  split
  · rfl
  · rename_i h1
    rw [if_neg h1] at h
    split
    · rename_i h2; rw [if_pos h2] at h; exact absurd rfl h
    · rfl
end Go.Proofs.YtdcojinnjpihaaaDoor.F
