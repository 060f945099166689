/- headgate/inquiry.bytes, strings.Join, strings.Repeat, headgate/inquiry.page, headgate/inquiry.plain, headgate/fields.shifts, headgate/fields.put[uint64], headgate/fields.PutBig, headgate/inquiry.words, headgate/inquiry.Page, headgate/inquiry.Capacity, headgate/headgatelaw17.wakes: plain functions, and that the calls come to what they say. No condition. -/
import Derived.Test.YtccmdlbdpapigaaFT
import Derived.Test.YtccmdlbdpapigaaXShelf
namespace Go.Proofs.Ytccmdlbdpapigaa.F
open Go Go.RowKit Go.Proofs.Ytccmdlbdpapigaa.X
set_option linter.unusedVariables false
set_option linter.unusedSimpArgs false
/-! ### headgate/inquiry.bytes: function 22 -/
def inquiry_bytes.f (a0 : List Int) : Option ByteArray :=
  some (strOfNums a0)
set_option maxRecDepth 100000 in
set_option maxHeartbeats 4000000 in
theorem inquiry_bytes.calls (a0 : List Int) (A0_0 : Option Addr) (c0_0 : Nat) (r : ByteArray) (w : World) (hr0_0 : Rd 1 w (.slice A0_0 a0.length c0_0) a0.length (encs (encI .u8) a0)) (h : inquiry_bytes.f a0 = some r) :
    Calls Try.prog 22 #[.slice A0_0 a0.length c0_0] w (fun e W' => e = .returned (.string r) ∧ Wd w W' [] [] ) := by
  refine sxstart (n := 5) (l := [(0, .slice A0_0 a0.length c0_0)]) Try.func22 rfl rfl (Nat.le_of_ble_eq_true KR) (subsA_cons rfl (subsA_nil _)) ?_
  intro a ha
  have HW := Wd.refl w
  unfold inquiry_bytes.f at h
  refine wp_seq_k (fun K1 hK2 => ?_)
  refine wp_region_lit ?_
  refine stepp ha 2 (.string (⟨#[]⟩ : ByteArray)) KR KR ?_; clear ha a; intro a ha
  refine endl ?_
  refine thenN (hK2 _ _ ?_); clear hK2
  refine wp_seq_k (fun K3 hK4 => ?_)
  refine wp_region_lit ?_
  refine stepp ha 3 (.slice A0_0 a0.length c0_0) KR KR ?_; clear ha a; intro a ha
  refine stepbt ha 4 51 9 5 (.tmp 3) (v := .slice A0_0 a0.length c0_0) (xs := a0) ((HW.rd0 hr0_0)) rfl KR KR KR KR KR ?_; clear ha a; intro a ha
  refine stepp ha 2 (.string (strOfNums a0)) KR KR ?_; clear ha a; intro a ha
  refine endl ?_
  refine thenN (hK4 _ _ ?_); clear hK4
  refine wp_ret ?_
  obtain rfl := Option.some.inj h
  exact finv ha _ _ rfl (.tmp (v := .string (strOfNums a0)) KR .nil) (.string (strOfNums a0)) rfl ⟨rfl, HW.pick [] [] (by decide) (by decide) rfl KR⟩
/-! ### strings.Join: function 31, by the library's contract -/
def strings_Join.f (a0 : List ByteArray) (a1 : ByteArray) : Option ByteArray :=
  asrt (a0.length ≤ 140737488355328) (asrt ((Lib.join (a0.map (·.data.toList)) a1.data.toList).length ≤ 140737488355328) (some ⟨(Lib.join (a0.map (·.data.toList)) a1.data.toList).toArray⟩))
theorem strings_Join.calls (a0 : List ByteArray) (a1 : ByteArray) (A0_0 : Option Addr) (c0_0 : Nat) (r : ByteArray) (w : World) (hr0_0 : Rd 1 w (.slice A0_0 a0.length c0_0) a0.length (encs encS a0)) (h : strings_Join.f a0 a1 = some r) :
    Calls Try.prog 31 #[.slice A0_0 a0.length c0_0, .string a1] w (fun e W' => e = .returned (.string r) ∧ Wd w W' [] []) := by
  unfold strings_Join.f at h
  obtain ⟨h1, h⟩ := asrt_some h
  obtain ⟨h2, h⟩ := asrt_some h
  obtain rfl := Option.some.inj h
  rcases hr0_0.2 with ⟨hv, hn⟩ | ⟨b, off, cap, hv, hc, hcell⟩
  · simp only [Value.slice.injEq] at hv
    obtain ⟨rfl, _, rfl⟩ := hv
    have e0 := List.eq_nil_of_length_eq_zero hn
    subst e0
    exact (Try.strings_Join_none none 0 a1 w).mono fun e W' ⟨he, hb⟩ => ⟨he, hb ▸ Wd.refl w⟩
  · simp only [Value.slice.injEq] at hv
    obtain ⟨rfl, _, rfl⟩ := hv
    have hcs : ∀ (j : Nat) x, a0[j]? = some x → w.cell? ⟨b, off + j, none⟩ = some (.string x) := fun j x hx => hcell j (.string x) (by
      have key : ∀ l : List ByteArray, encs encS l = l.map Value.string := fun l => by
        induction l with
        | nil => rfl
        | cons x l ih => rw [List.map_cons, ← ih]; rfl
      rw [key]
      simp [hx])
    by_cases hz : a0.length = 0
    · have e0 := List.eq_nil_of_length_eq_zero hz
      subst e0
      exact (Try.strings_Join_none (some ⟨b, off, none⟩) c0_0 a1 w).mono fun e W' ⟨he, hb⟩ => ⟨he, hb ▸ Wd.refl w⟩
    · have hbk : b < w.heap.size := by
        obtain ⟨x, hx⟩ : ∃ x, a0[0]? = some x := ⟨a0[0]'(by omega), List.getElem?_eq_getElem (by omega)⟩
        exact block_lt_of_cell (hcs 0 x hx)
      exact (Try.strings_Join b off c0_0 a0 a1 w hcs hbk h1 hc h2).mono fun e W' ⟨he, hb⟩ => ⟨he, (Wd.refl w).call hb⟩
/-! ### strings.Repeat: function 32, by the library's contract -/
def strings_Repeat.f (a0 : ByteArray) (a1 : Int) : Option ByteArray :=
  asrt (0 ≤ a1) (asrt (a1 ≤ 9223372036854775807) (asrt (a0.size * a1.toNat ≤ 140737488355328) (some ⟨(Lib.repeatL a0.data.toList a1.toNat).toArray⟩)))
theorem strings_Repeat.calls (a0 : ByteArray) (a1 : Int)  (r : ByteArray) (w : World) (h : strings_Repeat.f a0 a1 = some r) :
    Calls Try.prog 32 #[.string a0, .int .i64 a1] w (fun e W' => e = .returned (.string r) ∧ Wd w W' [] []) := by
  unfold strings_Repeat.f at h
  obtain ⟨h0, h⟩ := asrt_some h
  obtain ⟨h1, h⟩ := asrt_some h
  obtain ⟨h2, h⟩ := asrt_some h
  obtain rfl := Option.some.inj h
  obtain ⟨c, rfl⟩ := Int.eq_ofNat_of_zero_le h0
  exact (Try.strings_Repeat a0 c w (by omega) h2).mono fun e W' ⟨he, hb⟩ => ⟨he, (Wd.refl w).call hb⟩
/-! ### headgate/inquiry.page: function 23 -/
def inquiry_page.f (a0 : Int) (a1 : List ByteArray) : Option ByteArray :=
  (strings_Join.f a1 (⟨#[]⟩ : ByteArray)).bind fun t58 => ((strings_Repeat.f (⟨#[0]⟩ : ByteArray) (mx (IntKind.wrap .i64 (a0 - (t58.size : Int))) 0)).bind fun t64 => (asrt (t58.size + t64.size ≤ 9223372036854775807) (some (t58 ++ t64))))
set_option maxRecDepth 100000 in
set_option maxHeartbeats 4000000 in
theorem inquiry_page.calls (a0 : Int) (a1 : List ByteArray) (A1_0 : Option Addr) (c1_0 : Nat) (r : ByteArray) (w : World) (hr1_0 : Rd 1 w (.slice A1_0 a1.length c1_0) a1.length (encs encS a1)) (h : inquiry_page.f a0 a1 = some r) :
    Calls Try.prog 23 #[.int .i64 a0, .slice A1_0 a1.length c1_0] w (fun e W' => e = .returned (.string r) ∧ Wd w W' [] [] ) := by
  refine sxstart (n := 16) (l := [(0, .int .i64 a0), (1, .slice A1_0 a1.length c1_0)]) Try.func23 rfl rfl (Nat.le_of_ble_eq_true KR) (subsA_cons rfl (subsA_cons rfl (subsA_nil _))) ?_
  intro a ha
  have HW := Wd.refl w
  unfold inquiry_page.f at h
  refine wp_seq_k (fun K54 hK55 => ?_)
  refine wp_region_lit ?_
  refine stepp ha 4 (.string (⟨#[]⟩ : ByteArray)) KR KR ?_; clear ha a; intro a ha
  refine endl ?_
  refine thenN (hK55 _ _ ?_); clear hK55
  refine wp_seq_k (fun K56 hK57 => ?_)
  refine wp_region_lit ?_
  refine stepp ha 6 (.slice A1_0 a1.length c1_0) KR KR ?_; clear ha a; intro a ha
  obtain ⟨t58, ht59, h_⟩ := bind_some' h; clear h; have h := h_; clear h_
  refine stepc ha 7 KR KR (strings_Join.calls a1 (⟨#[]⟩ : ByteArray) A1_0 c1_0 t58 _ ((HW.rd0 hr1_0)) ht59) ?_; clear ha a; rintro e W60 ⟨rfl, HX61⟩
  refine ⟨_, rfl, ?_⟩; intro a ha; replace HW := HW.callw HX61; clear HX61
  refine stepp ha 5 (.string t58) KR KR ?_; clear ha a; intro a ha
  refine endl ?_
  refine thenN (hK57 _ _ ?_); clear hK57
  refine wp_seq_k (fun K62 hK63 => ?_)
  refine wp_region_lit ?_
  refine stepp ha 8 (.string t58) KR KR ?_; clear ha a; intro a ha
  refine stepp ha 9 (.int .i64 a0) KR KR ?_; clear ha a; intro a ha
  refine stepp ha 10 (.string t58) KR KR ?_; clear ha a; intro a ha
  refine stepp ha 11 (.int .i64 (t58.size : Int)) KR KR ?_; clear ha a; intro a ha
  refine stepp ha 12 (.int .i64 (IntKind.wrap .i64 (a0 - (t58.size : Int)))) KR KR ?_; clear ha a; intro a ha
  refine stepmx ha 13 #[3, 3] (.tmp 12) (.const (.int .i64 0)) .i64 (IntKind.wrap .i64 (a0 - (t58.size : Int))) 0 rfl KR KR KR ?_; clear ha a; intro a ha
  obtain ⟨t64, ht65, h_⟩ := bind_some' h; clear h; have h := h_; clear h_
  refine stepc ha 14 KR KR (strings_Repeat.calls (⟨#[0]⟩ : ByteArray) (mx (IntKind.wrap .i64 (a0 - (t58.size : Int))) 0) t64 _ ht65) ?_; clear ha a; rintro e W66 ⟨rfl, HX67⟩
  refine ⟨_, rfl, ?_⟩; intro a ha; replace HW := HW.callw HX67; clear HX67
  obtain ⟨hA68, h_⟩ := asrt_some h; clear h; have h := h_; clear h_
  refine stepsa ha 15 9 9 (.tmp 8) (.tmp 14) t58 t64 rfl KR KR (show (t58).size + (t64).size ≤ 9223372036854775807 from hA68) KR ?_; clear ha a; intro a ha
  refine stepp ha 4 (.string (t58 ++ t64)) KR KR ?_; clear ha a; intro a ha
  refine endl ?_
  refine thenN (hK63 _ _ ?_); clear hK63
  refine wp_ret ?_
  obtain rfl := Option.some.inj h
  exact finv ha _ _ rfl (.tmp (v := .string (t58 ++ t64)) KR .nil) (.string (t58 ++ t64)) rfl ⟨rfl, HW.pick [] [] (by decide) (by decide) rfl KR⟩
/-! ### headgate/inquiry.plain: function 21 -/
def inquiry_plain.f (a0 : Int) : Option ByteArray :=
  (inquiry_bytes.f ([a0, 0, 6, 2, 31, 0, 0, 0] : List Int)).bind fun t76 => ((inquiry_page.f 36 ([t76, (⟨#[72, 69, 65, 68, 71, 65, 84, 69]⟩ : ByteArray), (⟨#[66, 76, 79, 67, 75, 32, 85, 78, 73, 84, 32, 32, 32, 32, 32, 32]⟩ : ByteArray), (⟨#[48, 48, 48, 49]⟩ : ByteArray)] : List ByteArray)).bind fun t83 => (some t83))
set_option maxRecDepth 100000 in
set_option maxHeartbeats 4000000 in
theorem inquiry_plain.calls (a0 : Int)  (r : ByteArray) (w : World)  (h : inquiry_plain.f a0 = some r) :
    Calls Try.prog 21 #[.int .u8 a0] w (fun e W' => e = .returned (.string r) ∧ Wd w W' [] [] ) := by
  refine sxstart (n := 8) (l := [(0, .int .u8 a0)]) Try.func21 rfl rfl (Nat.le_of_ble_eq_true KR) (subsA_cons rfl (subsA_nil _)) ?_
  intro a ha
  have HW := Wd.refl w
  unfold inquiry_plain.f at h
  refine wp_seq_k (fun K69 hK70 => ?_)
  refine wp_region_lit ?_
  refine stepp ha 2 (.string (⟨#[]⟩ : ByteArray)) KR KR ?_; clear ha a; intro a ha
  refine endl ?_
  refine thenN (hK70 _ _ ?_); clear hK70
  refine wp_seq_k (fun K71 hK72 => ?_)
  refine wp_region_lit ?_
  refine stepp ha 3 (.int .u8 a0) KR KR ?_; clear ha a; intro a ha
  refine stepbs ha HW 4 5 1 8 #[.int .u8 a0, .int .u8 0, .int .u8 6, .int .u8 2, .int .u8 31, .int .u8 0, .int .u8 0, .int .u8 0] [.int .u8 a0, .int .u8 0, .int .u8 6, .int .u8 2, .int .u8 31, .int .u8 0, .int .u8 0, .int .u8 0] (by decide) KR KR KR KR ?_; clear ha HW a; intro b73 a W74 HW ha
  replace HW : Wd w W74 [] [⟨5, 1, .slice (some ⟨b73, 0, none⟩) ([a0, 0, 6, 2, 31, 0, 0, 0] : List Int).length 8, ([a0, 0, 6, 2, 31, 0, 0, 0] : List Int).length, encs (encI .u8) ([a0, 0, 6, 2, 31, 0, 0, 0] : List Int)⟩] := HW
  replace ha := ha.turn 4 (v := .slice (some ⟨b73, 0, none⟩) ([a0, 0, 6, 2, 31, 0, 0, 0] : List Int).length 8) KR rfl
  obtain ⟨t76, ht77, h_⟩ := bind_some' h; clear h; have h := h_; clear h_
  refine stepc ha 5 KR KR (inquiry_bytes.calls ([a0, 0, 6, 2, 31, 0, 0, 0] : List Int) (some ⟨b73, 0, none⟩) 8 t76 _ (HW.rdo (i := 0) (q := ⟨5, 1, .slice (some ⟨b73, 0, none⟩) ([a0, 0, 6, 2, 31, 0, 0, 0] : List Int).length 8, ([a0, 0, 6, 2, 31, 0, 0, 0] : List Int).length, encs (encI .u8) ([a0, 0, 6, 2, 31, 0, 0, 0] : List Int)⟩) KR) ht77) ?_; clear ha a; rintro e W78 ⟨rfl, HX79⟩
  refine ⟨_, rfl, ?_⟩; intro a ha; replace HW := HW.callw HX79; clear HX79
  refine stepbs ha HW 6 9 1 4 #[.string t76, .string (⟨#[72, 69, 65, 68, 71, 65, 84, 69]⟩ : ByteArray), .string (⟨#[66, 76, 79, 67, 75, 32, 85, 78, 73, 84, 32, 32, 32, 32, 32, 32]⟩ : ByteArray), .string (⟨#[48, 48, 48, 49]⟩ : ByteArray)] [.string t76, .string (⟨#[72, 69, 65, 68, 71, 65, 84, 69]⟩ : ByteArray), .string (⟨#[66, 76, 79, 67, 75, 32, 85, 78, 73, 84, 32, 32, 32, 32, 32, 32]⟩ : ByteArray), .string (⟨#[48, 48, 48, 49]⟩ : ByteArray)] (by decide) KR KR KR KR ?_; clear ha HW a; intro b80 a W81 HW ha
  replace HW : Wd w W81 [] [⟨9, 1, .slice (some ⟨b80, 0, none⟩) ([t76, (⟨#[72, 69, 65, 68, 71, 65, 84, 69]⟩ : ByteArray), (⟨#[66, 76, 79, 67, 75, 32, 85, 78, 73, 84, 32, 32, 32, 32, 32, 32]⟩ : ByteArray), (⟨#[48, 48, 48, 49]⟩ : ByteArray)] : List ByteArray).length 4, ([t76, (⟨#[72, 69, 65, 68, 71, 65, 84, 69]⟩ : ByteArray), (⟨#[66, 76, 79, 67, 75, 32, 85, 78, 73, 84, 32, 32, 32, 32, 32, 32]⟩ : ByteArray), (⟨#[48, 48, 48, 49]⟩ : ByteArray)] : List ByteArray).length, encs encS ([t76, (⟨#[72, 69, 65, 68, 71, 65, 84, 69]⟩ : ByteArray), (⟨#[66, 76, 79, 67, 75, 32, 85, 78, 73, 84, 32, 32, 32, 32, 32, 32]⟩ : ByteArray), (⟨#[48, 48, 48, 49]⟩ : ByteArray)] : List ByteArray)⟩, ⟨5, 1, .slice (some ⟨b73, 0, none⟩) ([a0, 0, 6, 2, 31, 0, 0, 0] : List Int).length 8, ([a0, 0, 6, 2, 31, 0, 0, 0] : List Int).length, encs (encI .u8) ([a0, 0, 6, 2, 31, 0, 0, 0] : List Int)⟩] := HW
  replace ha := ha.turn 6 (v := .slice (some ⟨b80, 0, none⟩) ([t76, (⟨#[72, 69, 65, 68, 71, 65, 84, 69]⟩ : ByteArray), (⟨#[66, 76, 79, 67, 75, 32, 85, 78, 73, 84, 32, 32, 32, 32, 32, 32]⟩ : ByteArray), (⟨#[48, 48, 48, 49]⟩ : ByteArray)] : List ByteArray).length 4) KR rfl
  obtain ⟨t83, ht84, h_⟩ := bind_some' h; clear h; have h := h_; clear h_
  refine stepc ha 7 KR KR (inquiry_page.calls 36 ([t76, (⟨#[72, 69, 65, 68, 71, 65, 84, 69]⟩ : ByteArray), (⟨#[66, 76, 79, 67, 75, 32, 85, 78, 73, 84, 32, 32, 32, 32, 32, 32]⟩ : ByteArray), (⟨#[48, 48, 48, 49]⟩ : ByteArray)] : List ByteArray) (some ⟨b80, 0, none⟩) 4 t83 _ (HW.rdo (i := 0) (q := ⟨9, 1, .slice (some ⟨b80, 0, none⟩) ([t76, (⟨#[72, 69, 65, 68, 71, 65, 84, 69]⟩ : ByteArray), (⟨#[66, 76, 79, 67, 75, 32, 85, 78, 73, 84, 32, 32, 32, 32, 32, 32]⟩ : ByteArray), (⟨#[48, 48, 48, 49]⟩ : ByteArray)] : List ByteArray).length 4, ([t76, (⟨#[72, 69, 65, 68, 71, 65, 84, 69]⟩ : ByteArray), (⟨#[66, 76, 79, 67, 75, 32, 85, 78, 73, 84, 32, 32, 32, 32, 32, 32]⟩ : ByteArray), (⟨#[48, 48, 48, 49]⟩ : ByteArray)] : List ByteArray).length, encs encS ([t76, (⟨#[72, 69, 65, 68, 71, 65, 84, 69]⟩ : ByteArray), (⟨#[66, 76, 79, 67, 75, 32, 85, 78, 73, 84, 32, 32, 32, 32, 32, 32]⟩ : ByteArray), (⟨#[48, 48, 48, 49]⟩ : ByteArray)] : List ByteArray)⟩) KR) ht84) ?_; clear ha a; rintro e W85 ⟨rfl, HX86⟩
  refine ⟨_, rfl, ?_⟩; intro a ha; replace HW := HW.callw HX86; clear HX86
  refine stepp ha 2 (.string t83) KR KR ?_; clear ha a; intro a ha
  refine endl ?_
  refine thenN (hK72 _ _ ?_); clear hK72
  refine wp_ret ?_
  obtain rfl := Option.some.inj h
  exact finv ha _ _ rfl (.tmp (v := .string t83) KR .nil) (.string t83) rfl ⟨rfl, HW.pick [] [] (by decide) (by decide) rfl KR⟩
/-! ### headgate/fields.shifts: function 44 -/
def fields_shifts.b0 (K : Nat) (a0 : Int) (a1 : Bool) (again164 : (List Int) → Int → Option (List Int)) (x165 : List Int) (x169 : Int) : Option (List Int) :=
  if x169 < a0 then (if a1 = true then (asrt (x165.length + ([IntKind.wrap .i64 (8 * (IntKind.wrap .i64 ((IntKind.wrap .i64 (a0 - 1)) - x169)))] : List Int).length ≤ 17592186044416) (again164 (x165 ++ ([IntKind.wrap .i64 (8 * (IntKind.wrap .i64 ((IntKind.wrap .i64 (a0 - 1)) - x169)))] : List Int)) (IntKind.wrap .i64 (x169 + 1)))) else (asrt (x165.length + ([IntKind.wrap .i64 (8 * x169)] : List Int).length ≤ 17592186044416) (again164 (x165 ++ ([IntKind.wrap .i64 (8 * x169)] : List Int)) (IntKind.wrap .i64 (x169 + 1))))) else (some x165)
def fields_shifts.l0 (K : Nat) (a0 : Int) (a1 : Bool) : Nat → (List Int) → Int → Option (List Int)
  | 0, _, _ => none
  | k_ + 1, x165, x169 => fields_shifts.b0 K a0 a1 (fields_shifts.l0 K a0 a1 k_) x165 x169
def fields_shifts.f (K : Nat) (a0 : Int) (a1 : Bool) : Option (List Int) :=
  fields_shifts.l0 K a0 a1 K ([] : List Int) 0
set_option maxRecDepth 100000 in
set_option maxHeartbeats 4000000 in
theorem fields_shifts.calls (K : Nat) (a0 : Int) (a1 : Bool)  (r : List Int) (w : World)  (h : fields_shifts.f K a0 a1 = some r) :
    Calls Try.prog 44 #[.int .i64 a0, .bool a1] w (fun e W' => ∃ A_0 c_0, e = .returned (.slice A_0 r.length c_0) ∧ Wd w W' [] [⟨3, 1, .slice A_0 r.length c_0, r.length, encs (encI .i64) r⟩] ) := by
  refine sxstart (n := 27) (l := [(0, .int .i64 a0), (1, .bool a1)]) Try.func44 rfl rfl (Nat.le_of_ble_eq_true KR) (subsA_cons rfl (subsA_cons rfl (subsA_nil _))) ?_
  intro a ha
  have HW := Wd.refl w
  unfold fields_shifts.f at h
  refine wp_seq_k (fun K87 hK88 => ?_)
  refine wp_region_lit ?_
  refine stepp ha 4 (.slice none 0 0) KR KR ?_; clear ha a; intro a ha
  refine endl ?_
  refine thenN (hK88 _ _ ?_); clear hK88
  refine wp_seq_k (fun K89 hK90 => ?_)
  refine wp_region_lit ?_
  refine stepp ha 5 (.slice none 0 0) KR KR ?_; clear ha a; intro a ha
  refine endl ?_
  refine thenN (hK90 _ _ ?_); clear hK90
  refine wp_seq_k (fun K91 hK92 => ?_)
  refine wp_seq_k (fun K93 hK94 => ?_)
  refine wp_region_lit ?_
  refine stepp ha 7 (.int .i64 a0) KR KR ?_; clear ha a; intro a ha
  refine stepp ha 8 (.int .i64 0) KR KR ?_; clear ha a; intro a ha
  refine endl ?_
  refine thenN (hK94 _ _ ?_); clear hK94
  refine wp_block ?_
  refine loopk (fun k => fun a W170 => ∃ (x165 : List Int), ∃ A166, ∃ c167, ∃ (x169 : Int), fields_shifts.l0 K a0 a1 k x165 x169 = some r ∧ Has 27 [(0, .int .i64 a0), (1, .bool a1), (5, .slice A166 x165.length c167), (7, .int .i64 a0), (8, .int .i64 x169)] a ∧ Wd w W170 [] [⟨3, 1, .slice A166 x165.length c167, x165.length, encs (encI .i64) x165⟩]) K ?_ ?_
  · skip
    replace HW := HW.nilo 3 1
    exact ⟨([] : List Int), none, 0, 0, h, ha.sub (subs_cons KR (subs_cons KR (subs_cons KR (subs_cons KR (subs_cons KR (subs_nil _)))))), HW.pick [] [0] (by decide) (by decide) KR KR⟩
  · skip
    intro k a W170 hI
    obtain ⟨x165, A166, c167, x169, h, ha, HW⟩ := hI
    cases k with
    | zero => exact (none_some (show none = some r from h)).elim
    | succ k171 =>
      replace h : fields_shifts.b0 K a0 a1 (fields_shifts.l0 K a0 a1 k171) x165 x169 = some r := h
      obtain ⟨again164, hag172⟩ : ∃ g_, g_ = fields_shifts.l0 K a0 a1 k171 := ⟨_, rfl⟩
      rw [← hag172] at h
      unfold fields_shifts.b0 at h
      refine wp_seq_k (fun K173 hK174 => ?_)
      refine wp_region_lit ?_
      refine stepp ha 9 (.bool (decide (x169 < a0))) KR KR ?_; clear ha a; intro a ha
      refine endl ?_
      refine thenN (hK174 _ _ ?_); clear hK174
      refine wp_seq_k (fun K175 hK176 => ?_)
      by_cases hp177 : x169 < a0
      · skip
        replace h := ite_pos' h hp177
        refine condT ha KR KR (t := decide (x169 < a0)) (decide_eq_true hp177) ?_
        refine wp_skip ?_
        refine thenN (hK176 _ _ ?_); clear hK176
        refine wp_seq_k (fun K178 hK179 => ?_)
        refine wp_block ?_
        refine wp_seq_k (fun K180 hK181 => ?_)
        refine wp_region_lit ?_
        refine stepp ha 10 (.int .i64 x169) KR KR ?_; clear ha a; intro a ha
        refine stepp ha 6 (.int .i64 x169) KR KR ?_; clear ha a; intro a ha
        refine endl ?_
        refine thenN (hK181 _ _ ?_); clear hK181
        refine wp_seq_k (fun K182 hK183 => ?_)
        refine wp_region_lit ?_
        refine stepp ha 11 (.bool a1) KR KR ?_; clear ha a; intro a ha
        refine endl ?_
        refine thenN (hK183 _ _ ?_); clear hK183
        by_cases hp184 : a1 = true
        · skip
          replace h := ite_pos' h hp184
          refine condT ha KR KR (t := a1) (hp184) ?_
          refine wp_region_lit ?_
          refine stepp ha 12 (.slice A166 x165.length c167) KR KR ?_; clear ha a; intro a ha
          refine stepp ha 13 (.int .i64 a0) KR KR ?_; clear ha a; intro a ha
          refine stepp ha 14 (.int .i64 (IntKind.wrap .i64 (a0 - 1))) KR KR ?_; clear ha a; intro a ha
          refine stepp ha 15 (.int .i64 x169) KR KR ?_; clear ha a; intro a ha
          refine stepp ha 16 (.int .i64 (IntKind.wrap .i64 ((IntKind.wrap .i64 (a0 - 1)) - x169))) KR KR ?_; clear ha a; intro a ha
          refine stepp ha 17 (.int .i64 (IntKind.wrap .i64 (8 * (IntKind.wrap .i64 ((IntKind.wrap .i64 (a0 - 1)) - x169))))) KR KR ?_; clear ha a; intro a ha
          refine stepbs ha HW 18 3 1 1 #[.int .i64 (IntKind.wrap .i64 (8 * (IntKind.wrap .i64 ((IntKind.wrap .i64 (a0 - 1)) - x169))))] [.int .i64 (IntKind.wrap .i64 (8 * (IntKind.wrap .i64 ((IntKind.wrap .i64 (a0 - 1)) - x169))))] (by decide) KR KR KR KR ?_; clear ha HW a; intro b185 a W186 HW ha
          replace HW : Wd w W186 [] [⟨3, 1, .slice (some ⟨b185, 0, none⟩) ([IntKind.wrap .i64 (8 * (IntKind.wrap .i64 ((IntKind.wrap .i64 (a0 - 1)) - x169)))] : List Int).length 1, ([IntKind.wrap .i64 (8 * (IntKind.wrap .i64 ((IntKind.wrap .i64 (a0 - 1)) - x169)))] : List Int).length, encs (encI .i64) ([IntKind.wrap .i64 (8 * (IntKind.wrap .i64 ((IntKind.wrap .i64 (a0 - 1)) - x169)))] : List Int)⟩, ⟨3, 1, .slice A166 x165.length c167, x165.length, encs (encI .i64) x165⟩] := HW
          replace ha := ha.turn 18 (v := .slice (some ⟨b185, 0, none⟩) ([IntKind.wrap .i64 (8 * (IntKind.wrap .i64 ((IntKind.wrap .i64 (a0 - 1)) - x169)))] : List Int).length 1) KR rfl
          obtain ⟨hA188, h_⟩ := asrt_some h; clear h; have h := h_; clear h_
          refine stepape (encI .i64) ha HW 19 1 78 3 (.tmp 12) (.tmp 18) (.int .i64 0) 1 8 (.slice A166 x165.length c167) x165 (.slice (some ⟨b185, 0, none⟩) ([IntKind.wrap .i64 (8 * (IntKind.wrap .i64 ((IntKind.wrap .i64 (a0 - 1)) - x169)))] : List Int).length 1) ([IntKind.wrap .i64 (8 * (IntKind.wrap .i64 ((IntKind.wrap .i64 (a0 - 1)) - x169)))] : List Int) KR rfl KR KR (HW.rdo (i := 0) (q := ⟨3, 1, .slice (some ⟨b185, 0, none⟩) ([IntKind.wrap .i64 (8 * (IntKind.wrap .i64 ((IntKind.wrap .i64 (a0 - 1)) - x169)))] : List Int).length 1, ([IntKind.wrap .i64 (8 * (IntKind.wrap .i64 ((IntKind.wrap .i64 (a0 - 1)) - x169)))] : List Int).length, encs (encI .i64) ([IntKind.wrap .i64 (8 * (IntKind.wrap .i64 ((IntKind.wrap .i64 (a0 - 1)) - x169)))] : List Int)⟩) KR) (fun _ => rfl) KR KR KR (by decide) (by have := hA188; unfold maxLen; omega) (by have := hA188; omega) KR ?_; clear ha HW a; intro A189 c190 a W191 HW ha
          refine stepp ha 5 (.slice A189 (x165 ++ ([IntKind.wrap .i64 (8 * (IntKind.wrap .i64 ((IntKind.wrap .i64 (a0 - 1)) - x169)))] : List Int)).length c190) KR KR ?_; clear ha a; intro a ha
          refine endl ?_
          refine blkN ?_
          refine thenN (hK179 _ _ ?_); clear hK179
          refine wp_region_lit ?_
          refine stepp ha 25 (.int .i64 (IntKind.wrap .i64 (x169 + 1))) KR KR ?_; clear ha a; intro a ha
          refine stepp ha 8 (.int .i64 (IntKind.wrap .i64 (x169 + 1))) KR KR ?_; clear ha a; intro a ha
          refine endl ?_
          exact thenN ⟨k171, Nat.lt_succ_self k171, x165 ++ ([IntKind.wrap .i64 (8 * (IntKind.wrap .i64 ((IntKind.wrap .i64 (a0 - 1)) - x169)))] : List Int), A189, c190, IntKind.wrap .i64 (x169 + 1), (by rw [← hag172]; exact h), ha.sub (subs_cons KR (subs_cons KR (subs_cons KR (subs_cons KR (subs_cons KR (subs_nil _)))))), HW.pick [] [1] (by decide) (by decide) KR KR⟩
        · skip
          replace h := ite_neg' h hp184
          refine condF ha KR KR (t := a1) (bool_f hp184) ?_
          refine wp_region_lit ?_
          refine stepp ha 20 (.slice A166 x165.length c167) KR KR ?_; clear ha a; intro a ha
          refine stepp ha 21 (.int .i64 x169) KR KR ?_; clear ha a; intro a ha
          refine stepp ha 22 (.int .i64 (IntKind.wrap .i64 (8 * x169))) KR KR ?_; clear ha a; intro a ha
          refine stepbs ha HW 23 3 1 1 #[.int .i64 (IntKind.wrap .i64 (8 * x169))] [.int .i64 (IntKind.wrap .i64 (8 * x169))] (by decide) KR KR KR KR ?_; clear ha HW a; intro b194 a W195 HW ha
          replace HW : Wd w W195 [] [⟨3, 1, .slice (some ⟨b194, 0, none⟩) ([IntKind.wrap .i64 (8 * x169)] : List Int).length 1, ([IntKind.wrap .i64 (8 * x169)] : List Int).length, encs (encI .i64) ([IntKind.wrap .i64 (8 * x169)] : List Int)⟩, ⟨3, 1, .slice A166 x165.length c167, x165.length, encs (encI .i64) x165⟩] := HW
          replace ha := ha.turn 23 (v := .slice (some ⟨b194, 0, none⟩) ([IntKind.wrap .i64 (8 * x169)] : List Int).length 1) KR rfl
          obtain ⟨hA197, h_⟩ := asrt_some h; clear h; have h := h_; clear h_
          refine stepape (encI .i64) ha HW 24 1 78 3 (.tmp 20) (.tmp 23) (.int .i64 0) 1 8 (.slice A166 x165.length c167) x165 (.slice (some ⟨b194, 0, none⟩) ([IntKind.wrap .i64 (8 * x169)] : List Int).length 1) ([IntKind.wrap .i64 (8 * x169)] : List Int) KR rfl KR KR (HW.rdo (i := 0) (q := ⟨3, 1, .slice (some ⟨b194, 0, none⟩) ([IntKind.wrap .i64 (8 * x169)] : List Int).length 1, ([IntKind.wrap .i64 (8 * x169)] : List Int).length, encs (encI .i64) ([IntKind.wrap .i64 (8 * x169)] : List Int)⟩) KR) (fun _ => rfl) KR KR KR (by decide) (by have := hA197; unfold maxLen; omega) (by have := hA197; omega) KR ?_; clear ha HW a; intro A198 c199 a W200 HW ha
          refine stepp ha 5 (.slice A198 (x165 ++ ([IntKind.wrap .i64 (8 * x169)] : List Int)).length c199) KR KR ?_; clear ha a; intro a ha
          refine endl ?_
          refine blkN ?_
          refine thenN (hK179 _ _ ?_); clear hK179
          refine wp_region_lit ?_
          refine stepp ha 25 (.int .i64 (IntKind.wrap .i64 (x169 + 1))) KR KR ?_; clear ha a; intro a ha
          refine stepp ha 8 (.int .i64 (IntKind.wrap .i64 (x169 + 1))) KR KR ?_; clear ha a; intro a ha
          refine endl ?_
          exact thenN ⟨k171, Nat.lt_succ_self k171, x165 ++ ([IntKind.wrap .i64 (8 * x169)] : List Int), A198, c199, IntKind.wrap .i64 (x169 + 1), (by rw [← hag172]; exact h), ha.sub (subs_cons KR (subs_cons KR (subs_cons KR (subs_cons KR (subs_cons KR (subs_nil _)))))), HW.pick [] [1] (by decide) (by decide) KR KR⟩
      · skip
        replace h := ite_neg' h hp177
        refine condF ha KR KR (t := decide (x169 < a0)) (decide_eq_false hp177) ?_
        refine wp_exit ?_
        refine thenE ?_
        refine thenE ?_
        refine inBlk ?_
        refine thenN (hK92 _ _ ?_); clear hK92
        refine wp_seq_k (fun K203 hK204 => ?_)
        refine wp_region_lit ?_
        refine stepp ha 26 (.slice A166 x165.length c167) KR KR ?_; clear ha a; intro a ha
        refine stepp ha 4 (.slice A166 x165.length c167) KR KR ?_; clear ha a; intro a ha
        refine endl ?_
        refine thenN (hK204 _ _ ?_); clear hK204
        refine wp_ret ?_
        obtain rfl := Option.some.inj h
        exact finv ha _ _ rfl (.tmp (v := .slice A166 x165.length c167) KR .nil) (.slice A166 x165.length c167) rfl ⟨A166, c167, rfl, HW.pick [] [0] (by decide) (by decide) rfl KR⟩
/-! ### headgate/fields.put[uint64]: function 34 -/
def fields_put_uint64.b0 (K : Nat) (a0 : Int) (t223 : List Int) (again284 : (List Int) → Int → Option ByteArray) (x285 : List Int) (x289 : Int) : Option ByteArray :=
  if x289 < (t223.length : Int) then (asrt (0 ≤ x289) (asrt (0 ≤ (rdL (0 : Int) t223 x289)) (asrt (x285.length + ([IntKind.wrap .u8 (sshr .u64 a0 (rdL (0 : Int) t223 x289))] : List Int).length ≤ 140737488355328) (again284 (x285 ++ ([IntKind.wrap .u8 (sshr .u64 a0 (rdL (0 : Int) t223 x289))] : List Int)) (IntKind.wrap .i64 (x289 + 1)))))) else (some (strOfNums x285))
def fields_put_uint64.l0 (K : Nat) (a0 : Int) (t223 : List Int) : Nat → (List Int) → Int → Option ByteArray
  | 0, _, _ => none
  | k_ + 1, x285, x289 => fields_put_uint64.b0 K a0 t223 (fields_put_uint64.l0 K a0 t223 k_) x285 x289
def fields_put_uint64.f (K : Nat) (a0 : Int) (a1 : Int) (a2 : Bool) : Option ByteArray :=
  if a1 < 1 then (some (⟨#[]⟩ : ByteArray)) else (if a1 > 8 then (some (⟨#[]⟩ : ByteArray)) else ((fields_shifts.f K a1 a2).bind fun t223 => (fields_put_uint64.l0 K a0 t223 K ([] : List Int) 0)))
set_option maxRecDepth 100000 in
set_option maxHeartbeats 4000000 in
theorem fields_put_uint64.calls (K : Nat) (a0 : Int) (a1 : Int) (a2 : Bool)  (r : ByteArray) (w : World)  (h : fields_put_uint64.f K a0 a1 a2 = some r) :
    Calls Try.prog 34 #[.int .u64 a0, .int .i64 a1, .bool a2] w (fun e W' => e = .returned (.string r) ∧ Wd w W' [] [] ) := by
  refine sxstart (n := 34) (l := [(0, .int .u64 a0), (1, .int .i64 a1), (2, .bool a2)]) Try.func34 rfl rfl (Nat.le_of_ble_eq_true KR) (subsA_cons rfl (subsA_cons rfl (subsA_cons rfl (subsA_nil _)))) ?_
  intro a ha
  have HW := Wd.refl w
  unfold fields_put_uint64.f at h
  refine wp_seq_k (fun K205 hK206 => ?_)
  refine wp_region_lit ?_
  refine stepp ha 6 (.string (⟨#[]⟩ : ByteArray)) KR KR ?_; clear ha a; intro a ha
  refine endl ?_
  refine thenN (hK206 _ _ ?_); clear hK206
  refine wp_seq_k (fun K207 hK208 => ?_)
  refine wp_seq_k (fun K209 hK210 => ?_)
  refine wp_region_lit ?_
  refine stepp ha 10 (.int .i64 a1) KR KR ?_; clear ha a; intro a ha
  refine stepp ha 11 (.bool (decide (a1 < 1))) KR KR ?_; clear ha a; intro a ha
  refine stepp ha 12 (.bool (decide (a1 < 1))) KR KR ?_; clear ha a; intro a ha
  by_cases hp211 : a1 < 1
  · skip
    replace h := ite_pos' h hp211
    replace ha := ha.bool 12 KR (decide_eq_true hp211)
    refine stepo ha 13 KR ?_; clear ha a; intro a ha
    refine stepo ha 14 KR ?_; clear ha a; intro a ha
    refine stepp ha 15 (.bool true) KR KR ?_; clear ha a; intro a ha
    refine endl ?_
    refine thenN (hK210 _ _ ?_); clear hK210
    refine condT ha KR KR (t := true) (rfl) ?_
    refine wp_seq_k (fun K212 hK213 => ?_)
    refine wp_region_lit ?_
    refine stepp ha 6 (.string (⟨#[]⟩ : ByteArray)) KR KR ?_; clear ha a; intro a ha
    refine endl ?_
    refine thenN (hK213 _ _ ?_); clear hK213
    refine wp_ret ?_
    refine thenR ?_
    obtain rfl := Option.some.inj h
    exact finv ha _ _ rfl (.tmp (v := .string (⟨#[]⟩ : ByteArray)) KR .nil) (.string (⟨#[]⟩ : ByteArray)) rfl ⟨rfl, HW.pick [] [] (by decide) (by decide) rfl KR⟩
  · skip
    replace h := ite_neg' h hp211
    replace ha := ha.bool 12 KR (decide_eq_false hp211)
    refine stepp ha 13 (.int .i64 a1) KR KR ?_; clear ha a; intro a ha
    refine stepp ha 14 (.bool (decide (a1 > 8))) KR KR ?_; clear ha a; intro a ha
    refine stepp ha 15 (.bool (decide (a1 > 8))) KR KR ?_; clear ha a; intro a ha
    refine endl ?_
    refine thenN (hK210 _ _ ?_); clear hK210
    by_cases hp214 : a1 > 8
    · skip
      replace h := ite_pos' h hp214
      refine condT ha KR KR (t := decide (a1 > 8)) (decide_eq_true hp214) ?_
      refine wp_seq_k (fun K215 hK216 => ?_)
      refine wp_region_lit ?_
      refine stepp ha 6 (.string (⟨#[]⟩ : ByteArray)) KR KR ?_; clear ha a; intro a ha
      refine endl ?_
      refine thenN (hK216 _ _ ?_); clear hK216
      refine wp_ret ?_
      refine thenR ?_
      obtain rfl := Option.some.inj h
      exact finv ha _ _ rfl (.tmp (v := .string (⟨#[]⟩ : ByteArray)) KR .nil) (.string (⟨#[]⟩ : ByteArray)) rfl ⟨rfl, HW.pick [] [] (by decide) (by decide) rfl KR⟩
    · skip
      replace h := ite_neg' h hp214
      refine condF ha KR KR (t := decide (a1 > 8)) (decide_eq_false hp214) ?_
      refine wp_skip ?_
      refine thenN (hK208 _ _ ?_); clear hK208
      refine wp_seq_k (fun K217 hK218 => ?_)
      refine wp_region_lit ?_
      refine stepp ha 7 (.slice none 0 0) KR KR ?_; clear ha a; intro a ha
      refine endl ?_
      refine thenN (hK218 _ _ ?_); clear hK218
      refine wp_seq_k (fun K219 hK220 => ?_)
      refine wp_seq_k (fun K221 hK222 => ?_)
      refine wp_region_lit ?_
      refine stepp ha 16 (.int .i64 a1) KR KR ?_; clear ha a; intro a ha
      refine stepp ha 17 (.bool a2) KR KR ?_; clear ha a; intro a ha
      obtain ⟨t223, ht224, h_⟩ := bind_some' h; clear h; have h := h_; clear h_
      refine stepc ha 18 KR KR (fields_shifts.calls K a1 a2 t223 _ ht224) ?_; clear ha a; rintro e W228 ⟨A225, c226, rfl, HX229⟩
      refine ⟨_, rfl, ?_⟩; intro a ha; replace HW := HW.callw HX229; clear HX229
      refine stepp ha 19 (.int .i64 (t223.length : Int)) KR KR ?_; clear ha a; intro a ha
      refine stepp ha 20 (.int .i64 0) KR KR ?_; clear ha a; intro a ha
      refine endl ?_
      refine thenN (hK222 _ _ ?_); clear hK222
      refine wp_block ?_
      refine loopk (fun k => fun a W290 => ∃ (x285 : List Int), ∃ A286, ∃ c287, ∃ (x289 : Int), fields_put_uint64.l0 K a0 t223 k x285 x289 = some r ∧ Has 34 [(0, .int .u64 a0), (7, .slice A286 x285.length c287), (18, .slice A225 t223.length c226), (19, .int .i64 (t223.length : Int)), (20, .int .i64 x289)] a ∧ Wd w W290 [] [⟨5, 1, .slice A286 x285.length c287, x285.length, encs (encI .u8) x285⟩, ⟨3, 1, .slice A225 t223.length c226, t223.length, encs (encI .i64) t223⟩]) K ?_ ?_
      · skip
        replace HW := HW.nilo 5 1
        exact ⟨([] : List Int), none, 0, 0, h, ha.sub (subs_cons KR (subs_cons KR (subs_cons KR (subs_cons KR (subs_cons KR (subs_nil _)))))), HW.pick [] [0, 1] (by decide) (by decide) KR KR⟩
      · skip
        intro k a W290 hI
        obtain ⟨x285, A286, c287, x289, h, ha, HW⟩ := hI
        cases k with
        | zero => exact (none_some (show none = some r from h)).elim
        | succ k291 =>
          replace h : fields_put_uint64.b0 K a0 t223 (fields_put_uint64.l0 K a0 t223 k291) x285 x289 = some r := h
          obtain ⟨again284, hag292⟩ : ∃ g_, g_ = fields_put_uint64.l0 K a0 t223 k291 := ⟨_, rfl⟩
          rw [← hag292] at h
          unfold fields_put_uint64.b0 at h
          refine wp_seq_k (fun K293 hK294 => ?_)
          refine wp_region_lit ?_
          refine stepp ha 21 (.bool (decide (x289 < (t223.length : Int)))) KR KR ?_; clear ha a; intro a ha
          refine endl ?_
          refine thenN (hK294 _ _ ?_); clear hK294
          refine wp_seq_k (fun K295 hK296 => ?_)
          by_cases hp297 : x289 < (t223.length : Int)
          · skip
            replace h := ite_pos' h hp297
            refine condT ha KR KR (t := decide (x289 < (t223.length : Int))) (decide_eq_true hp297) ?_
            refine wp_skip ?_
            refine thenN (hK296 _ _ ?_); clear hK296
            refine wp_seq_k (fun K298 hK299 => ?_)
            refine wp_block ?_
            refine wp_seq_k (fun K300 hK301 => ?_)
            refine wp_region_lit ?_
            obtain ⟨hA302, h_⟩ := asrt_some h; clear h; have h := h_; clear h_
            refine stepie (encI .i64) (0 : Int) ha 22 (fun _ => rfl) (v := .slice A225 t223.length c226) (xs := t223) (HW.rdo (i := 1) (q := ⟨3, 1, .slice A225 t223.length c226, t223.length, encs (encI .i64) t223⟩) KR) 78 3 (.tmp 18) (.tmp 20) .i64 x289 rfl KR KR KR KR hA302 (show (x289 : Int) < ((t223).length : Int) from hp297) KR ?_; clear ha a; intro b303 off304 a hC305 ha
            refine stepl ha 23 hC305 3 0 (.tmp 22) (.int .i64 (rdL (0 : Int) t223 x289)) rfl KR KR KR ?_; clear ha a; intro a ha
            refine stepp ha 9 (.int .i64 (rdL (0 : Int) t223 x289)) KR KR ?_; clear ha a; intro a ha
            refine endl ?_
            refine thenN (hK301 _ _ ?_); clear hK301
            refine wp_region_lit ?_
            refine stepp ha 24 (.slice A286 x285.length c287) KR KR ?_; clear ha a; intro a ha
            refine stepp ha 25 (.int .u64 a0) KR KR ?_; clear ha a; intro a ha
            refine stepp ha 26 (.int .i64 (rdL (0 : Int) t223 x289)) KR KR ?_; clear ha a; intro a ha
            obtain ⟨hA306, h_⟩ := asrt_some h; clear h; have h := h_; clear h_
            refine stepshr ha 27 49 3 (.tmp 25) (.tmp 26) .u64 .i64 a0 (rdL (0 : Int) t223 x289) rfl KR KR hA306 KR ?_; clear ha a; intro a ha
            refine stepp ha 28 (.int .u8 (IntKind.wrap .u8 (sshr .u64 a0 (rdL (0 : Int) t223 x289)))) KR KR ?_; clear ha a; intro a ha
            refine stepbs ha HW 29 5 1 1 #[.int .u8 (IntKind.wrap .u8 (sshr .u64 a0 (rdL (0 : Int) t223 x289)))] [.int .u8 (IntKind.wrap .u8 (sshr .u64 a0 (rdL (0 : Int) t223 x289)))] (by decide) KR KR KR KR ?_; clear ha HW a; intro b307 a W308 HW ha
            replace HW : Wd w W308 [] [⟨5, 1, .slice (some ⟨b307, 0, none⟩) ([IntKind.wrap .u8 (sshr .u64 a0 (rdL (0 : Int) t223 x289))] : List Int).length 1, ([IntKind.wrap .u8 (sshr .u64 a0 (rdL (0 : Int) t223 x289))] : List Int).length, encs (encI .u8) ([IntKind.wrap .u8 (sshr .u64 a0 (rdL (0 : Int) t223 x289))] : List Int)⟩, ⟨5, 1, .slice A286 x285.length c287, x285.length, encs (encI .u8) x285⟩, ⟨3, 1, .slice A225 t223.length c226, t223.length, encs (encI .i64) t223⟩] := HW
            replace ha := ha.turn 29 (v := .slice (some ⟨b307, 0, none⟩) ([IntKind.wrap .u8 (sshr .u64 a0 (rdL (0 : Int) t223 x289))] : List Int).length 1) KR rfl
            obtain ⟨hA310, h_⟩ := asrt_some h; clear h; have h := h_; clear h_
            refine stepape (encI .u8) ha HW 30 1 51 5 (.tmp 24) (.tmp 29) (.int .u8 0) 1 1 (.slice A286 x285.length c287) x285 (.slice (some ⟨b307, 0, none⟩) ([IntKind.wrap .u8 (sshr .u64 a0 (rdL (0 : Int) t223 x289))] : List Int).length 1) ([IntKind.wrap .u8 (sshr .u64 a0 (rdL (0 : Int) t223 x289))] : List Int) KR rfl KR KR (HW.rdo (i := 0) (q := ⟨5, 1, .slice (some ⟨b307, 0, none⟩) ([IntKind.wrap .u8 (sshr .u64 a0 (rdL (0 : Int) t223 x289))] : List Int).length 1, ([IntKind.wrap .u8 (sshr .u64 a0 (rdL (0 : Int) t223 x289))] : List Int).length, encs (encI .u8) ([IntKind.wrap .u8 (sshr .u64 a0 (rdL (0 : Int) t223 x289))] : List Int)⟩) KR) (fun _ => rfl) KR KR KR (by decide) (by have := hA310; unfold maxLen; omega) (by have := hA310; omega) KR ?_; clear ha HW a; intro A311 c312 a W313 HW ha
            refine stepp ha 7 (.slice A311 (x285 ++ ([IntKind.wrap .u8 (sshr .u64 a0 (rdL (0 : Int) t223 x289))] : List Int)).length c312) KR KR ?_; clear ha a; intro a ha
            refine endl ?_
            refine blkN ?_
            refine thenN (hK299 _ _ ?_); clear hK299
            refine wp_region_lit ?_
            refine stepp ha 31 (.int .i64 (IntKind.wrap .i64 (x289 + 1))) KR KR ?_; clear ha a; intro a ha
            refine stepp ha 20 (.int .i64 (IntKind.wrap .i64 (x289 + 1))) KR KR ?_; clear ha a; intro a ha
            refine endl ?_
            exact thenN ⟨k291, Nat.lt_succ_self k291, x285 ++ ([IntKind.wrap .u8 (sshr .u64 a0 (rdL (0 : Int) t223 x289))] : List Int), A311, c312, IntKind.wrap .i64 (x289 + 1), (by rw [← hag292]; exact h), ha.sub (subs_cons KR (subs_cons KR (subs_cons KR (subs_cons KR (subs_cons KR (subs_nil _)))))), HW.pick [] [1, 2] (by decide) (by decide) KR KR⟩
          · skip
            replace h := ite_neg' h hp297
            refine condF ha KR KR (t := decide (x289 < (t223.length : Int))) (decide_eq_false hp297) ?_
            refine wp_exit ?_
            refine thenE ?_
            refine thenE ?_
            refine inBlk ?_
            refine thenN (hK220 _ _ ?_); clear hK220
            refine wp_seq_k (fun K316 hK317 => ?_)
            refine wp_region_lit ?_
            refine stepp ha 32 (.slice A286 x285.length c287) KR KR ?_; clear ha a; intro a ha
            refine stepbt ha 33 51 9 5 (.tmp 32) (v := .slice A286 x285.length c287) (xs := x285) (HW.rdo (i := 0) (q := ⟨5, 1, .slice A286 x285.length c287, x285.length, encs (encI .u8) x285⟩) KR) rfl KR KR KR KR KR ?_; clear ha a; intro a ha
            refine stepp ha 6 (.string (strOfNums x285)) KR KR ?_; clear ha a; intro a ha
            refine endl ?_
            refine thenN (hK317 _ _ ?_); clear hK317
            refine wp_ret ?_
            obtain rfl := Option.some.inj h
            exact finv ha _ _ rfl (.tmp (v := .string (strOfNums x285)) KR .nil) (.string (strOfNums x285)) rfl ⟨rfl, HW.pick [] [] (by decide) (by decide) rfl KR⟩
/-! ### headgate/fields.PutBig: function 28 -/
def fields_PutBig.f (K : Nat) (a0 : Int) (a1 : Int) : Option ByteArray :=
  (fields_put_uint64.f K a0 a1 true).bind fun t322 => (some t322)
set_option maxRecDepth 100000 in
set_option maxHeartbeats 4000000 in
theorem fields_PutBig.calls (K : Nat) (a0 : Int) (a1 : Int)  (r : ByteArray) (w : World)  (h : fields_PutBig.f K a0 a1 = some r) :
    Calls Try.prog 28 #[.int .u64 a0, .int .i64 a1] w (fun e W' => e = .returned (.string r) ∧ Wd w W' [] [] ) := by
  refine sxstart (n := 8) (l := [(0, .int .u64 a0), (1, .int .i64 a1)]) Try.func28 rfl rfl (Nat.le_of_ble_eq_true KR) (subsA_cons rfl (subsA_cons rfl (subsA_nil _))) ?_
  intro a ha
  have HW := Wd.refl w
  unfold fields_PutBig.f at h
  refine wp_seq_k (fun K318 hK319 => ?_)
  refine wp_region_lit ?_
  refine stepp ha 4 (.string (⟨#[]⟩ : ByteArray)) KR KR ?_; clear ha a; intro a ha
  refine endl ?_
  refine thenN (hK319 _ _ ?_); clear hK319
  refine wp_seq_k (fun K320 hK321 => ?_)
  refine wp_region_lit ?_
  refine stepp ha 5 (.int .u64 a0) KR KR ?_; clear ha a; intro a ha
  refine stepp ha 6 (.int .i64 a1) KR KR ?_; clear ha a; intro a ha
  obtain ⟨t322, ht323, h_⟩ := bind_some' h; clear h; have h := h_; clear h_
  refine stepc ha 7 KR KR (fields_put_uint64.calls K a0 a1 true t322 _ ht323) ?_; clear ha a; rintro e W324 ⟨rfl, HX325⟩
  refine ⟨_, rfl, ?_⟩; intro a ha; replace HW := HW.callw HX325; clear HX325
  refine stepp ha 4 (.string t322) KR KR ?_; clear ha a; intro a ha
  refine endl ?_
  refine thenN (hK321 _ _ ?_); clear hK321
  refine wp_ret ?_
  obtain rfl := Option.some.inj h
  exact finv ha _ _ rfl (.tmp (v := .string t322) KR .nil) (.string t322) rfl ⟨rfl, HW.pick [] [] (by decide) (by decide) rfl KR⟩
/-! ### headgate/inquiry.words: function 24 -/
def inquiry_words.f (K : Nat) (a0 : Int) : Option ByteArray :=
  (fields_PutBig.f K (IntKind.wrap .u64 a0) 4).bind fun t330 => (some t330)
set_option maxRecDepth 100000 in
set_option maxHeartbeats 4000000 in
theorem inquiry_words.calls (K : Nat) (a0 : Int)  (r : ByteArray) (w : World)  (h : inquiry_words.f K a0 = some r) :
    Calls Try.prog 24 #[.int .i64 a0] w (fun e W' => e = .returned (.string r) ∧ Wd w W' [] [] ) := by
  refine sxstart (n := 6) (l := [(0, .int .i64 a0)]) Try.func24 rfl rfl (Nat.le_of_ble_eq_true KR) (subsA_cons rfl (subsA_nil _)) ?_
  intro a ha
  have HW := Wd.refl w
  unfold inquiry_words.f at h
  refine wp_seq_k (fun K326 hK327 => ?_)
  refine wp_region_lit ?_
  refine stepp ha 2 (.string (⟨#[]⟩ : ByteArray)) KR KR ?_; clear ha a; intro a ha
  refine endl ?_
  refine thenN (hK327 _ _ ?_); clear hK327
  refine wp_seq_k (fun K328 hK329 => ?_)
  refine wp_region_lit ?_
  refine stepp ha 3 (.int .i64 a0) KR KR ?_; clear ha a; intro a ha
  refine stepp ha 4 (.int .u64 (IntKind.wrap .u64 a0)) KR KR ?_; clear ha a; intro a ha
  obtain ⟨t330, ht331, h_⟩ := bind_some' h; clear h; have h := h_; clear h_
  refine stepc ha 5 KR KR (fields_PutBig.calls K (IntKind.wrap .u64 a0) 4 t330 _ ht331) ?_; clear ha a; rintro e W332 ⟨rfl, HX333⟩
  refine ⟨_, rfl, ?_⟩; intro a ha; replace HW := HW.callw HX333; clear HX333
  refine stepp ha 2 (.string t330) KR KR ?_; clear ha a; intro a ha
  refine endl ?_
  refine thenN (hK329 _ _ ?_); clear hK329
  refine wp_ret ?_
  obtain rfl := Option.some.inj h
  exact finv ha _ _ rfl (.tmp (v := .string t330) KR .nil) (.string t330) rfl ⟨rfl, HW.pick [] [] (by decide) (by decide) rfl KR⟩
/-! ### headgate/inquiry.Page: function 9 -/
def inquiry_Page.j1 (K : Nat) (a0 : T_api_Unit) (a2 : Int) (x379 : Bool) : Option (ByteArray × Int) :=
  if x379 = true then ((inquiry_bytes.f ([0, 131, 0, 20, 1, 1, 0, 16] : List Int)).bind fun t388 => ((inquiry_page.f 0 ([t388, a0.f1] : List ByteArray)).bind fun t396 => (some (t396, 0)))) else (if a2 = 432 then ((inquiry_bytes.f ([0, 176, 0, 60, 0, 32, 0, 0] : List Int)).bind fun t409 => ((inquiry_words.f K 64).bind fun t413 => ((inquiry_words.f K 0).bind fun t417 => ((inquiry_words.f K 0).bind fun t421 => ((inquiry_words.f K 4096).bind fun t425 => ((inquiry_words.f K 16).bind fun t429 => ((inquiry_page.f 64 ([t409, t413, t417, t421, t425, t429] : List ByteArray)).bind fun t436 => (some (t436, 0))))))))) else (some ((⟨#[]⟩ : ByteArray), 180)))
def inquiry_Page.j0 (K : Nat) (a0 : T_api_Unit) (a1 : Bool) (a2 : Int) (x343 : Bool) : Option (ByteArray × Int) :=
  if x343 = true then ((inquiry_plain.f 0).bind fun t348 => (some (t348, 0))) else (if a2 = 0 then ((inquiry_plain.f 127).bind fun t357 => (some (t357, 0))) else (if a1 = true then (if a2 = 256 then ((inquiry_bytes.f ([0, 0, 0, 3, 0, 131, 176] : List Int)).bind fun t372 => (some (t372, 0))) else (if a2 = 387 then (inquiry_Page.j1 K a0 a2 ((a0.f1.size : Int) == 16)) else (inquiry_Page.j1 K a0 a2 false))) else (some ((⟨#[]⟩ : ByteArray), 180))))
def inquiry_Page.f (K : Nat) (a0 : T_api_Unit) (a1 : Bool) (a2 : Int) : Option (ByteArray × Int) :=
  if a2 = 0 then (inquiry_Page.j0 K a0 a1 a2 a1) else (inquiry_Page.j0 K a0 a1 a2 false)
set_option maxRecDepth 100000 in
set_option maxHeartbeats 4000000 in
theorem inquiry_Page.calls (K : Nat) (a0 : T_api_Unit) (a1 : Bool) (a2 : Int)  (r : ByteArray × Int) (w : World)  (h : inquiry_Page.f K a0 a1 a2 = some r) :
    Calls Try.prog 9 #[.agg #[.int .i64 a0.f0, .string a0.f1], .bool a1, .int .i64 a2] w (fun e W' => e = .returned (.tuple #[.string r.1, .int .i64 r.2]) ∧ Wd w W' [] [] ) := by
  refine sxstart (n := 54) (l := [(0, .agg #[.int .i64 a0.f0, .string a0.f1]), (1, .bool a1), (2, .int .i64 a2)]) Try.func9 rfl rfl (Nat.le_of_ble_eq_true KR) (subsA_cons rfl (subsA_cons rfl (subsA_cons rfl (subsA_nil _)))) ?_
  intro a ha
  have HW := Wd.refl w
  unfold inquiry_Page.f at h
  refine wp_seq_k (fun K334 hK335 => ?_)
  refine wp_region_lit ?_
  refine stepnew ha HW 3 #[.int .i64 a0.f0, .string a0.f1] 23 KR KR ?_; clear ha HW a; intro b336 a W337 HW ha
  refine stepp ha 6 (.string (⟨#[]⟩ : ByteArray)) KR KR ?_; clear ha a; intro a ha
  refine stepp ha 7 (.int .i64 0) KR KR ?_; clear ha a; intro a ha
  refine endl ?_
  refine thenN (hK335 _ _ ?_); clear hK335
  refine wp_seq_k (fun K338 hK339 => ?_)
  refine wp_block ?_
  refine wp_seq_k (fun K340 hK341 => ?_)
  refine cutn (fun a W344 => ∃ (x343 : Bool), inquiry_Page.j0 K a0 a1 a2 x343 = some r ∧ Has 54 [(1, .bool a1), (2, .int .i64 a2), (3, .pointer (some ⟨b336, 0, none⟩)), (8, .bool x343)] a ∧ Wd w W344 [(b336, .cells #[.int .i64 a0.f0, .string a0.f1] 23 (0, 0))] []) ?_ ?_
  · skip
    refine wp_region_lit ?_
    refine stepp ha 9 (.int .i64 a2) KR KR ?_; clear ha a; intro a ha
    refine stepp ha 10 (.bool (a2 == 0)) KR KR ?_; clear ha a; intro a ha
    refine stepp ha 11 (.bool (a2 == 0)) KR KR ?_; clear ha a; intro a ha
    by_cases hp342 : a2 = 0
    · skip
      replace h := ite_pos' h hp342
      replace ha := ha.bool 11 KR (ieq_t hp342)
      refine stepp ha 12 (.bool a1) KR KR ?_; clear ha a; intro a ha
      refine stepp ha 13 (.bool a1) KR KR ?_; clear ha a; intro a ha
      refine stepp ha 8 (.bool a1) KR KR ?_; clear ha a; intro a ha
      refine endl ?_
      exact thenN ⟨a1, h, ha.sub (subs_cons KR (subs_cons KR (subs_cons KR (subs_cons KR (subs_nil _))))), HW.pick [0] [] (by decide) (by decide) KR KR⟩
    · skip
      replace h := ite_neg' h hp342
      replace ha := ha.bool 11 KR (ieq_f hp342)
      refine stepo ha 12 KR ?_; clear ha a; intro a ha
      refine stepp ha 13 (.bool false) KR KR ?_; clear ha a; intro a ha
      refine stepp ha 8 (.bool false) KR KR ?_; clear ha a; intro a ha
      refine endl ?_
      exact thenN ⟨false, h, ha.sub (subs_cons KR (subs_cons KR (subs_cons KR (subs_cons KR (subs_nil _))))), HW.pick [0] [] (by decide) (by decide) KR KR⟩
  · skip
    intro a W344 hJ
    obtain ⟨x343, h, ha, HW⟩ := hJ
    replace h : inquiry_Page.j0 K a0 a1 a2 x343 = some r := h
    unfold inquiry_Page.j0 at h
    refine hK341 _ _ ?_; clear hK341
    by_cases hp345 : x343 = true
    · skip
      replace h := ite_pos' h hp345
      refine condT ha KR KR (t := x343) (hp345) ?_
      refine wp_seq_k (fun K346 hK347 => ?_)
      refine wp_region_lit ?_
      obtain ⟨t348, ht349, h_⟩ := bind_some' h; clear h; have h := h_; clear h_
      refine stepc ha 14 KR KR (inquiry_plain.calls 0 t348 _ ht349) ?_; clear ha a; rintro e W350 ⟨rfl, HX351⟩
      refine ⟨_, rfl, ?_⟩; intro a ha; replace HW := HW.callw HX351; clear HX351
      refine stepp ha 6 (.string t348) KR KR ?_; clear ha a; intro a ha
      refine stepp ha 7 (.int .i64 0) KR KR ?_; clear ha a; intro a ha
      refine endl ?_
      refine thenN (hK347 _ _ ?_); clear hK347
      refine wp_ret ?_
      refine blkR ?_
      refine thenR ?_
      obtain rfl := Option.some.inj h
      exact finv ha _ _ rfl (.tmp (v := .string t348) KR (.tmp (v := .int .i64 0) KR .nil)) (.tuple #[.string t348, .int .i64 0]) rfl ⟨rfl, HW.pick [] [] (by decide) (by decide) rfl KR⟩
    · skip
      replace h := ite_neg' h hp345
      refine condF ha KR KR (t := x343) (bool_f hp345) ?_
      refine wp_seq_k (fun K352 hK353 => ?_)
      refine wp_region_lit ?_
      refine stepp ha 16 (.int .i64 a2) KR KR ?_; clear ha a; intro a ha
      refine stepp ha 17 (.bool (a2 == 0)) KR KR ?_; clear ha a; intro a ha
      refine stepp ha 15 (.bool (a2 == 0)) KR KR ?_; clear ha a; intro a ha
      refine endl ?_
      refine thenN (hK353 _ _ ?_); clear hK353
      by_cases hp354 : a2 = 0
      · skip
        replace h := ite_pos' h hp354
        refine condT ha KR KR (t := (a2 == 0)) (ieq_t hp354) ?_
        refine wp_seq_k (fun K355 hK356 => ?_)
        refine wp_region_lit ?_
        obtain ⟨t357, ht358, h_⟩ := bind_some' h; clear h; have h := h_; clear h_
        refine stepc ha 18 KR KR (inquiry_plain.calls 127 t357 _ ht358) ?_; clear ha a; rintro e W359 ⟨rfl, HX360⟩
        refine ⟨_, rfl, ?_⟩; intro a ha; replace HW := HW.callw HX360; clear HX360
        refine stepp ha 6 (.string t357) KR KR ?_; clear ha a; intro a ha
        refine stepp ha 7 (.int .i64 0) KR KR ?_; clear ha a; intro a ha
        refine endl ?_
        refine thenN (hK356 _ _ ?_); clear hK356
        refine wp_ret ?_
        refine blkR ?_
        refine thenR ?_
        obtain rfl := Option.some.inj h
        exact finv ha _ _ rfl (.tmp (v := .string t357) KR (.tmp (v := .int .i64 0) KR .nil)) (.tuple #[.string t357, .int .i64 0]) rfl ⟨rfl, HW.pick [] [] (by decide) (by decide) rfl KR⟩
      · skip
        replace h := ite_neg' h hp354
        refine condF ha KR KR (t := (a2 == 0)) (ieq_f hp354) ?_
        refine wp_seq_k (fun K361 hK362 => ?_)
        refine wp_region_lit ?_
        refine stepp ha 20 (.bool a1) KR KR ?_; clear ha a; intro a ha
        refine stepp ha 21 (.bool (!a1)) KR KR ?_; clear ha a; intro a ha
        refine stepp ha 19 (.bool (!a1)) KR KR ?_; clear ha a; intro a ha
        refine endl ?_
        refine thenN (hK362 _ _ ?_); clear hK362
        by_cases hp363 : a1 = true
        · skip
          replace h := ite_pos' h hp363
          refine condF ha KR KR (t := (!a1)) (not_f (hp363)) ?_
          refine wp_seq_k (fun K364 hK365 => ?_)
          refine wp_region_lit ?_
          refine stepp ha 23 (.int .i64 a2) KR KR ?_; clear ha a; intro a ha
          refine stepp ha 24 (.bool (a2 == 256)) KR KR ?_; clear ha a; intro a ha
          refine stepp ha 22 (.bool (a2 == 256)) KR KR ?_; clear ha a; intro a ha
          refine endl ?_
          refine thenN (hK365 _ _ ?_); clear hK365
          by_cases hp366 : a2 = 256
          · skip
            replace h := ite_pos' h hp366
            refine condT ha KR KR (t := (a2 == 256)) (ieq_t hp366) ?_
            refine wp_seq_k (fun K367 hK368 => ?_)
            refine wp_region_lit ?_
            refine stepbs ha HW 25 5 1 7 #[.int .u8 0, .int .u8 0, .int .u8 0, .int .u8 3, .int .u8 0, .int .u8 131, .int .u8 176] [.int .u8 0, .int .u8 0, .int .u8 0, .int .u8 3, .int .u8 0, .int .u8 131, .int .u8 176] (by decide) KR KR KR KR ?_; clear ha HW a; intro b369 a W370 HW ha
            replace HW : Wd w W370 [(b336, .cells #[.int .i64 a0.f0, .string a0.f1] 23 (0, 0))] [⟨5, 1, .slice (some ⟨b369, 0, none⟩) ([0, 0, 0, 3, 0, 131, 176] : List Int).length 7, ([0, 0, 0, 3, 0, 131, 176] : List Int).length, encs (encI .u8) ([0, 0, 0, 3, 0, 131, 176] : List Int)⟩] := HW
            replace ha := ha.turn 25 (v := .slice (some ⟨b369, 0, none⟩) ([0, 0, 0, 3, 0, 131, 176] : List Int).length 7) KR rfl
            obtain ⟨t372, ht373, h_⟩ := bind_some' h; clear h; have h := h_; clear h_
            refine stepc ha 26 KR KR (inquiry_bytes.calls ([0, 0, 0, 3, 0, 131, 176] : List Int) (some ⟨b369, 0, none⟩) 7 t372 _ (HW.rdo (i := 0) (q := ⟨5, 1, .slice (some ⟨b369, 0, none⟩) ([0, 0, 0, 3, 0, 131, 176] : List Int).length 7, ([0, 0, 0, 3, 0, 131, 176] : List Int).length, encs (encI .u8) ([0, 0, 0, 3, 0, 131, 176] : List Int)⟩) KR) ht373) ?_; clear ha a; rintro e W374 ⟨rfl, HX375⟩
            refine ⟨_, rfl, ?_⟩; intro a ha; replace HW := HW.callw HX375; clear HX375
            refine stepp ha 6 (.string t372) KR KR ?_; clear ha a; intro a ha
            refine stepp ha 7 (.int .i64 0) KR KR ?_; clear ha a; intro a ha
            refine endl ?_
            refine thenN (hK368 _ _ ?_); clear hK368
            refine wp_ret ?_
            refine blkR ?_
            refine thenR ?_
            obtain rfl := Option.some.inj h
            exact finv ha _ _ rfl (.tmp (v := .string t372) KR (.tmp (v := .int .i64 0) KR .nil)) (.tuple #[.string t372, .int .i64 0]) rfl ⟨rfl, HW.pick [] [] (by decide) (by decide) rfl KR⟩
          · skip
            replace h := ite_neg' h hp366
            refine condF ha KR KR (t := (a2 == 256)) (ieq_f hp366) ?_
            refine wp_seq_k (fun K376 hK377 => ?_)
            refine cutn (fun a W380 => ∃ (x379 : Bool), inquiry_Page.j1 K a0 a2 x379 = some r ∧ Has 54 [(2, .int .i64 a2), (3, .pointer (some ⟨b336, 0, none⟩)), (27, .bool x379)] a ∧ Wd w W380 [(b336, .cells #[.int .i64 a0.f0, .string a0.f1] 23 (0, 0))] []) ?_ ?_
            · skip
              refine wp_region_lit ?_
              refine stepp ha 28 (.int .i64 a2) KR KR ?_; clear ha a; intro a ha
              refine stepp ha 29 (.bool (a2 == 387)) KR KR ?_; clear ha a; intro a ha
              refine stepp ha 30 (.bool (a2 == 387)) KR KR ?_; clear ha a; intro a ha
              by_cases hp378 : a2 = 387
              · skip
                replace h := ite_pos' h hp378
                replace ha := ha.bool 30 KR (ieq_t hp378)
                refine stepp ha 31 (.pointer (some ⟨b336, 1, none⟩)) KR KR ?_; clear ha a; intro a ha
                refine stepl ha 32 (HW.ca (i := 0) (b := b336) (C := #[.int .i64 a0.f0, .string a0.f1]) (T := 23) (fr := (0, 0)) KR) 9 1 (.tmp 31) (.string a0.f1) rfl KR KR KR ?_; clear ha a; intro a ha
                refine stepp ha 33 (.int .i64 (a0.f1.size : Int)) KR KR ?_; clear ha a; intro a ha
                refine stepp ha 34 (.bool ((a0.f1.size : Int) == 16)) KR KR ?_; clear ha a; intro a ha
                refine stepp ha 35 (.bool ((a0.f1.size : Int) == 16)) KR KR ?_; clear ha a; intro a ha
                refine stepp ha 27 (.bool ((a0.f1.size : Int) == 16)) KR KR ?_; clear ha a; intro a ha
                refine endl ?_
                exact thenN ⟨((a0.f1.size : Int) == 16), h, ha.sub (subs_cons KR (subs_cons KR (subs_cons KR (subs_nil _)))), HW.pick [0] [] (by decide) (by decide) KR KR⟩
              · skip
                replace h := ite_neg' h hp378
                replace ha := ha.bool 30 KR (ieq_f hp378)
                refine stepo ha 31 KR ?_; clear ha a; intro a ha
                refine stepo ha 32 KR ?_; clear ha a; intro a ha
                refine stepo ha 33 KR ?_; clear ha a; intro a ha
                refine stepo ha 34 KR ?_; clear ha a; intro a ha
                refine stepp ha 35 (.bool false) KR KR ?_; clear ha a; intro a ha
                refine stepp ha 27 (.bool false) KR KR ?_; clear ha a; intro a ha
                refine endl ?_
                exact thenN ⟨false, h, ha.sub (subs_cons KR (subs_cons KR (subs_cons KR (subs_nil _)))), HW.pick [0] [] (by decide) (by decide) KR KR⟩
            · skip
              intro a W380 hJ
              obtain ⟨x379, h, ha, HW⟩ := hJ
              replace h : inquiry_Page.j1 K a0 a2 x379 = some r := h
              unfold inquiry_Page.j1 at h
              refine hK377 _ _ ?_; clear hK377
              by_cases hp381 : x379 = true
              · skip
                replace h := ite_pos' h hp381
                refine condT ha KR KR (t := x379) (hp381) ?_
                refine wp_seq_k (fun K382 hK383 => ?_)
                obtain ⟨t388, ht389, h_⟩ := bind_some' h; clear h; have h := h_; clear h_
                obtain ⟨t396, ht397, h_⟩ := bind_some' h; clear h; have h := h_; clear h_
                refine regionG 6 KR KR ha HW [.lit w 5 ([0, 131, 0, 20, 1, 1, 0, 16] : List Int).length #[.int .u8 0, .int .u8 131, .int .u8 0, .int .u8 20, .int .u8 1, .int .u8 1, .int .u8 0, .int .u8 16] [(b336, .cells #[.int .i64 a0.f0, .string a0.f1] 23 (0, 0))] [], .fix (.string t388), .fix (.pointer (some ⟨b336, 1, none⟩)), .fix (.string a0.f1), .lit w 9 ([t388, a0.f1] : List ByteArray).length #[.string t388, .string a0.f1] [(b336, .cells #[.int .i64 a0.f0, .string a0.f1] 23 (0, 0))] [], .fix (.string t396)] ?_ ?_
                · skip
                  refine ⟨?_, ?_, ?_, ?_, ?_, ?_, trivial⟩
                  · skip
                    intro a wr hn hd HW hs; have ha := hasNil hn hd
                    refine yStep ha 36 KR ?_; intro l_ ha HK
                    refine stepbk ha (Wd.refl wr) 36 5 8 #[.int .u8 0, .int .u8 131, .int .u8 0, .int .u8 20, .int .u8 1, .int .u8 1, .int .u8 0, .int .u8 16] KR KR ?_; intro b384 ax W385 HV hax
                    exact HK _ _ _ hax ⟨b384, rfl, HW.callw HV⟩ HV.below
                  · skip
                    intro a wr hn hd HW hs; have ha := hasNil hn hd
                    obtain ⟨b384, he_, hR387⟩ := seeL (enc := (encI .u8)) hs 36 0 1 5 #[.int .u8 0, .int .u8 131, .int .u8 0, .int .u8 20, .int .u8 1, .int .u8 1, .int .u8 0, .int .u8 16] ([0, 131, 0, 20, 1, 1, 0, 16] : List Int) (w1 := w) (bs1 := [(b336, .cells #[.int .i64 a0.f0, .string a0.f1] 23 (0, 0))]) (os1 := []) KR KR (fun _ => rfl) rfl; have ha := ha.add he_
                    refine yStep ha 37 KR ?_; intro l_ ha HK
                    refine stepc ha 37 KR KR (inquiry_bytes.calls ([0, 131, 0, 20, 1, 1, 0, 16] : List Int) (some ⟨b384, 0, none⟩) (([0, 131, 0, 20, 1, 1, 0, 16] : List Int).length) t388 _ hR387 ht389) ?_; rintro e W390 ⟨rfl, HX391⟩
                    refine ⟨_, rfl, ?_⟩; intro ax hax; exact HK _ _ _ hax rfl HX391.below
                  · skip
                    intro a wr hn hd HW hs; have ha := hasNil hn hd
                    have ha := ha.add (seeE hs 3 (.pointer (some ⟨b336, 0, none⟩)) KR KR)
                    refine yStep ha 38 KR ?_; intro l_ ha HK
                    refine stepp ha 38 (.pointer (some ⟨b336, 1, none⟩)) KR KR ?_; intro ax hax; exact HK _ _ _ hax rfl (Below.refl _ _)
                  · skip
                    intro a wr hn hd HW hs; have ha := hasNil hn hd
                    have ha := ha.add (seeF hs 38 2 (.pointer (some ⟨b336, 1, none⟩)) KR KR)
                    refine yStep ha 39 KR ?_; intro l_ ha HK
                    refine stepl ha 39 (HW.ca (i := 0) (b := b336) (C := #[.int .i64 a0.f0, .string a0.f1]) (T := 23) (fr := (0, 0)) KR) 9 1 (.tmp 38) (.string a0.f1) rfl KR KR KR ?_; intro ax hax; exact HK _ _ _ hax rfl (Below.refl _ _)
                  · skip
                    intro a wr hn hd HW hs; have ha := hasNil hn hd
                    have ha := ha.add (seeF hs 37 1 (.string t388) KR KR)
                    have ha := ha.add (seeF hs 39 3 (.string a0.f1) KR KR)
                    refine yStep ha 40 KR ?_; intro l_ ha HK
                    refine stepbk ha (Wd.refl wr) 40 9 2 #[.string t388, .string a0.f1] KR KR ?_; intro b392 ax W393 HV hax
                    exact HK _ _ _ hax ⟨b392, rfl, HW.callw HV⟩ HV.below
                  · skip
                    intro a wr hn hd HW hs; have ha := hasNil hn hd
                    obtain ⟨b392, he_, hR395⟩ := seeL (enc := encS) hs 40 4 1 9 #[.string t388, .string a0.f1] ([t388, a0.f1] : List ByteArray) (w1 := w) (bs1 := [(b336, .cells #[.int .i64 a0.f0, .string a0.f1] 23 (0, 0))]) (os1 := []) KR KR (fun _ => rfl) rfl; have ha := ha.add he_
                    refine yStep ha 41 KR ?_; intro l_ ha HK
                    refine stepc ha 41 KR KR (inquiry_page.calls 0 ([t388, a0.f1] : List ByteArray) (some ⟨b392, 0, none⟩) (([t388, a0.f1] : List ByteArray).length) t396 _ hR395 ht397) ?_; rintro e W398 ⟨rfl, HX399⟩
                    refine ⟨_, rfl, ?_⟩; intro ax hax; exact HK _ _ _ hax rfl HX399.below
                · skip
                  intro a W400 ha HW he hf
                  replace ha := ha.add (gotF (m := 6) (j := 5) (d := 41) (v := .string t396) hf KR KR KR)
                  clear he hf
                  refine stepp ha 6 (.string t396) KR KR ?_; clear ha a; intro a ha
                  refine stepp ha 7 (.int .i64 0) KR KR ?_; clear ha a; intro a ha
                  refine endl ?_
                  refine thenN (hK383 _ _ ?_); clear hK383
                  refine wp_ret ?_
                  refine blkR ?_
                  refine thenR ?_
                  obtain rfl := Option.some.inj h
                  exact finv ha _ _ rfl (.tmp (v := .string t396) KR (.tmp (v := .int .i64 0) KR .nil)) (.tuple #[.string t396, .int .i64 0]) rfl ⟨rfl, HW.pick [] [] (by decide) (by decide) rfl KR⟩
              · skip
                replace h := ite_neg' h hp381
                refine condF ha KR KR (t := x379) (bool_f hp381) ?_
                refine wp_seq_k (fun K401 hK402 => ?_)
                refine wp_region_lit ?_
                refine stepp ha 43 (.int .i64 a2) KR KR ?_; clear ha a; intro a ha
                refine stepp ha 44 (.bool (a2 == 432)) KR KR ?_; clear ha a; intro a ha
                refine stepp ha 42 (.bool (a2 == 432)) KR KR ?_; clear ha a; intro a ha
                refine endl ?_
                refine thenN (hK402 _ _ ?_); clear hK402
                by_cases hp403 : a2 = 432
                · skip
                  replace h := ite_pos' h hp403
                  refine condT ha KR KR (t := (a2 == 432)) (ieq_t hp403) ?_
                  refine wp_seq_k (fun K404 hK405 => ?_)
                  refine wp_region_lit ?_
                  refine stepbs ha HW 45 5 1 8 #[.int .u8 0, .int .u8 176, .int .u8 0, .int .u8 60, .int .u8 0, .int .u8 32, .int .u8 0, .int .u8 0] [.int .u8 0, .int .u8 176, .int .u8 0, .int .u8 60, .int .u8 0, .int .u8 32, .int .u8 0, .int .u8 0] (by decide) KR KR KR KR ?_; clear ha HW a; intro b406 a W407 HW ha
                  replace HW : Wd w W407 [(b336, .cells #[.int .i64 a0.f0, .string a0.f1] 23 (0, 0))] [⟨5, 1, .slice (some ⟨b406, 0, none⟩) ([0, 176, 0, 60, 0, 32, 0, 0] : List Int).length 8, ([0, 176, 0, 60, 0, 32, 0, 0] : List Int).length, encs (encI .u8) ([0, 176, 0, 60, 0, 32, 0, 0] : List Int)⟩] := HW
                  replace ha := ha.turn 45 (v := .slice (some ⟨b406, 0, none⟩) ([0, 176, 0, 60, 0, 32, 0, 0] : List Int).length 8) KR rfl
                  obtain ⟨t409, ht410, h_⟩ := bind_some' h; clear h; have h := h_; clear h_
                  refine stepc ha 46 KR KR (inquiry_bytes.calls ([0, 176, 0, 60, 0, 32, 0, 0] : List Int) (some ⟨b406, 0, none⟩) 8 t409 _ (HW.rdo (i := 0) (q := ⟨5, 1, .slice (some ⟨b406, 0, none⟩) ([0, 176, 0, 60, 0, 32, 0, 0] : List Int).length 8, ([0, 176, 0, 60, 0, 32, 0, 0] : List Int).length, encs (encI .u8) ([0, 176, 0, 60, 0, 32, 0, 0] : List Int)⟩) KR) ht410) ?_; clear ha a; rintro e W411 ⟨rfl, HX412⟩
                  refine ⟨_, rfl, ?_⟩; intro a ha; replace HW := HW.callw HX412; clear HX412
                  obtain ⟨t413, ht414, h_⟩ := bind_some' h; clear h; have h := h_; clear h_
                  refine stepc ha 47 KR KR (inquiry_words.calls K 64 t413 _ ht414) ?_; clear ha a; rintro e W415 ⟨rfl, HX416⟩
                  refine ⟨_, rfl, ?_⟩; intro a ha; replace HW := HW.callw HX416; clear HX416
                  obtain ⟨t417, ht418, h_⟩ := bind_some' h; clear h; have h := h_; clear h_
                  refine stepc ha 48 KR KR (inquiry_words.calls K 0 t417 _ ht418) ?_; clear ha a; rintro e W419 ⟨rfl, HX420⟩
                  refine ⟨_, rfl, ?_⟩; intro a ha; replace HW := HW.callw HX420; clear HX420
                  obtain ⟨t421, ht422, h_⟩ := bind_some' h; clear h; have h := h_; clear h_
                  refine stepc ha 49 KR KR (inquiry_words.calls K 0 t421 _ ht422) ?_; clear ha a; rintro e W423 ⟨rfl, HX424⟩
                  refine ⟨_, rfl, ?_⟩; intro a ha; replace HW := HW.callw HX424; clear HX424
                  obtain ⟨t425, ht426, h_⟩ := bind_some' h; clear h; have h := h_; clear h_
                  refine stepc ha 50 KR KR (inquiry_words.calls K 4096 t425 _ ht426) ?_; clear ha a; rintro e W427 ⟨rfl, HX428⟩
                  refine ⟨_, rfl, ?_⟩; intro a ha; replace HW := HW.callw HX428; clear HX428
                  obtain ⟨t429, ht430, h_⟩ := bind_some' h; clear h; have h := h_; clear h_
                  refine stepc ha 51 KR KR (inquiry_words.calls K 16 t429 _ ht430) ?_; clear ha a; rintro e W431 ⟨rfl, HX432⟩
                  refine ⟨_, rfl, ?_⟩; intro a ha; replace HW := HW.callw HX432; clear HX432
                  refine stepbs ha HW 52 9 1 6 #[.string t409, .string t413, .string t417, .string t421, .string t425, .string t429] [.string t409, .string t413, .string t417, .string t421, .string t425, .string t429] (by decide) KR KR KR KR ?_; clear ha HW a; intro b433 a W434 HW ha
                  replace HW : Wd w W434 [(b336, .cells #[.int .i64 a0.f0, .string a0.f1] 23 (0, 0))] [⟨9, 1, .slice (some ⟨b433, 0, none⟩) ([t409, t413, t417, t421, t425, t429] : List ByteArray).length 6, ([t409, t413, t417, t421, t425, t429] : List ByteArray).length, encs encS ([t409, t413, t417, t421, t425, t429] : List ByteArray)⟩, ⟨5, 1, .slice (some ⟨b406, 0, none⟩) ([0, 176, 0, 60, 0, 32, 0, 0] : List Int).length 8, ([0, 176, 0, 60, 0, 32, 0, 0] : List Int).length, encs (encI .u8) ([0, 176, 0, 60, 0, 32, 0, 0] : List Int)⟩] := HW
                  replace ha := ha.turn 52 (v := .slice (some ⟨b433, 0, none⟩) ([t409, t413, t417, t421, t425, t429] : List ByteArray).length 6) KR rfl
                  obtain ⟨t436, ht437, h_⟩ := bind_some' h; clear h; have h := h_; clear h_
                  refine stepc ha 53 KR KR (inquiry_page.calls 64 ([t409, t413, t417, t421, t425, t429] : List ByteArray) (some ⟨b433, 0, none⟩) 6 t436 _ (HW.rdo (i := 0) (q := ⟨9, 1, .slice (some ⟨b433, 0, none⟩) ([t409, t413, t417, t421, t425, t429] : List ByteArray).length 6, ([t409, t413, t417, t421, t425, t429] : List ByteArray).length, encs encS ([t409, t413, t417, t421, t425, t429] : List ByteArray)⟩) KR) ht437) ?_; clear ha a; rintro e W438 ⟨rfl, HX439⟩
                  refine ⟨_, rfl, ?_⟩; intro a ha; replace HW := HW.callw HX439; clear HX439
                  refine stepp ha 6 (.string t436) KR KR ?_; clear ha a; intro a ha
                  refine stepp ha 7 (.int .i64 0) KR KR ?_; clear ha a; intro a ha
                  refine endl ?_
                  refine thenN (hK405 _ _ ?_); clear hK405
                  refine wp_ret ?_
                  refine blkR ?_
                  refine thenR ?_
                  obtain rfl := Option.some.inj h
                  exact finv ha _ _ rfl (.tmp (v := .string t436) KR (.tmp (v := .int .i64 0) KR .nil)) (.tuple #[.string t436, .int .i64 0]) rfl ⟨rfl, HW.pick [] [] (by decide) (by decide) rfl KR⟩
                · skip
                  replace h := ite_neg' h hp403
                  refine condF ha KR KR (t := (a2 == 432)) (ieq_f hp403) ?_
                  refine wp_skip ?_
                  refine blkN ?_
                  refine thenN (hK339 _ _ ?_); clear hK339
                  refine wp_seq_k (fun K440 hK441 => ?_)
                  refine wp_region_lit ?_
                  refine stepp ha 6 (.string (⟨#[]⟩ : ByteArray)) KR KR ?_; clear ha a; intro a ha
                  refine stepp ha 7 (.int .i64 180) KR KR ?_; clear ha a; intro a ha
                  refine endl ?_
                  refine thenN (hK441 _ _ ?_); clear hK441
                  refine wp_ret ?_
                  obtain rfl := Option.some.inj h
                  exact finv ha _ _ rfl (.tmp (v := .string (⟨#[]⟩ : ByteArray)) KR (.tmp (v := .int .i64 180) KR .nil)) (.tuple #[.string (⟨#[]⟩ : ByteArray), .int .i64 180]) rfl ⟨rfl, HW.pick [] [] (by decide) (by decide) rfl KR⟩
        · skip
          replace h := ite_neg' h hp363
          refine condT ha KR KR (t := (!a1)) (not_t (bool_f hp363)) ?_
          refine wp_skip ?_
          refine blkN ?_
          refine thenN (hK339 _ _ ?_); clear hK339
          refine wp_seq_k (fun K442 hK443 => ?_)
          refine wp_region_lit ?_
          refine stepp ha 6 (.string (⟨#[]⟩ : ByteArray)) KR KR ?_; clear ha a; intro a ha
          refine stepp ha 7 (.int .i64 180) KR KR ?_; clear ha a; intro a ha
          refine endl ?_
          refine thenN (hK443 _ _ ?_); clear hK443
          refine wp_ret ?_
          obtain rfl := Option.some.inj h
          exact finv ha _ _ rfl (.tmp (v := .string (⟨#[]⟩ : ByteArray)) KR (.tmp (v := .int .i64 180) KR .nil)) (.tuple #[.string (⟨#[]⟩ : ByteArray), .int .i64 180]) rfl ⟨rfl, HW.pick [] [] (by decide) (by decide) rfl KR⟩
/-! ### headgate/inquiry.Capacity: function 11 -/
def inquiry_Capacity.j0 (K : Nat) (x452 : Int) : Option ByteArray :=
  (inquiry_words.f K (IntKind.wrap .i64 (x452 - 1))).bind fun t456 => ((inquiry_words.f K 512).bind fun t460 => ((inquiry_page.f 0 ([t456, t460] : List ByteArray)).bind fun t467 => (some t467)))
def inquiry_Capacity.f (K : Nat) (a0 : Int) : Option ByteArray :=
  if a0 < 1 then (inquiry_Capacity.j0 K  1) else (if a0 ≥ 4294967296 then (inquiry_Capacity.j0 K  1) else (inquiry_Capacity.j0 K  a0))
set_option maxRecDepth 100000 in
set_option maxHeartbeats 4000000 in
theorem inquiry_Capacity.calls (K : Nat) (a0 : Int)  (r : ByteArray) (w : World)  (h : inquiry_Capacity.f K a0 = some r) :
    Calls Try.prog 11 #[.int .i64 a0] w (fun e W' => e = .returned (.string r) ∧ Wd w W' [] [] ) := by
  refine sxstart (n := 15) (l := [(0, .int .i64 a0)]) Try.func11 rfl rfl (Nat.le_of_ble_eq_true KR) (subsA_cons rfl (subsA_nil _)) ?_
  intro a ha
  have HW := Wd.refl w
  unfold inquiry_Capacity.f at h
  refine wp_seq_k (fun K444 hK445 => ?_)
  refine wp_region_lit ?_
  refine stepp ha 2 (.string (⟨#[]⟩ : ByteArray)) KR KR ?_; clear ha a; intro a ha
  refine endl ?_
  refine thenN (hK445 _ _ ?_); clear hK445
  refine wp_seq_k (fun K446 hK447 => ?_)
  refine cutn (fun a W453 => ∃ (x452 : Int), inquiry_Capacity.j0 K  x452 = some r ∧ Has 15 [(0, .int .i64 x452)] a ∧ Wd w W453 [] []) ?_ ?_
  · skip
    refine wp_seq_k (fun K448 hK449 => ?_)
    refine wp_region_lit ?_
    refine stepp ha 3 (.int .i64 a0) KR KR ?_; clear ha a; intro a ha
    refine stepp ha 4 (.bool (decide (a0 < 1))) KR KR ?_; clear ha a; intro a ha
    refine stepp ha 5 (.bool (decide (a0 < 1))) KR KR ?_; clear ha a; intro a ha
    by_cases hp450 : a0 < 1
    · skip
      replace h := ite_pos' h hp450
      replace ha := ha.bool 5 KR (decide_eq_true hp450)
      refine stepo ha 6 KR ?_; clear ha a; intro a ha
      refine stepo ha 7 KR ?_; clear ha a; intro a ha
      refine stepp ha 8 (.bool true) KR KR ?_; clear ha a; intro a ha
      refine endl ?_
      refine thenN (hK449 _ _ ?_); clear hK449
      refine condT ha KR KR (t := true) (rfl) ?_
      refine wp_region_lit ?_
      refine stepp ha 0 (.int .i64 1) KR KR ?_; clear ha a; intro a ha
      refine endl ?_
      exact thenN ⟨1, h, ha.sub (subs_cons KR (subs_nil _)), HW.pick [] [] (by decide) (by decide) KR KR⟩
    · skip
      replace h := ite_neg' h hp450
      replace ha := ha.bool 5 KR (decide_eq_false hp450)
      refine stepp ha 6 (.int .i64 a0) KR KR ?_; clear ha a; intro a ha
      refine stepp ha 7 (.bool (decide (a0 ≥ 4294967296))) KR KR ?_; clear ha a; intro a ha
      refine stepp ha 8 (.bool (decide (a0 ≥ 4294967296))) KR KR ?_; clear ha a; intro a ha
      refine endl ?_
      refine thenN (hK449 _ _ ?_); clear hK449
      by_cases hp451 : a0 ≥ 4294967296
      · skip
        replace h := ite_pos' h hp451
        refine condT ha KR KR (t := decide (a0 ≥ 4294967296)) (decide_eq_true hp451) ?_
        refine wp_region_lit ?_
        refine stepp ha 0 (.int .i64 1) KR KR ?_; clear ha a; intro a ha
        refine endl ?_
        exact thenN ⟨1, h, ha.sub (subs_cons KR (subs_nil _)), HW.pick [] [] (by decide) (by decide) KR KR⟩
      · skip
        replace h := ite_neg' h hp451
        refine condF ha KR KR (t := decide (a0 ≥ 4294967296)) (decide_eq_false hp451) ?_
        refine wp_skip ?_
        exact thenN ⟨a0, h, ha.sub (subs_cons KR (subs_nil _)), HW.pick [] [] (by decide) (by decide) KR KR⟩
  · skip
    intro a W453 hJ
    obtain ⟨x452, h, ha, HW⟩ := hJ
    replace h : inquiry_Capacity.j0 K  x452 = some r := h
    unfold inquiry_Capacity.j0 at h
    refine hK447 _ _ ?_; clear hK447
    refine wp_seq_k (fun K454 hK455 => ?_)
    refine wp_region_lit ?_
    refine stepp ha 9 (.int .i64 x452) KR KR ?_; clear ha a; intro a ha
    refine stepp ha 10 (.int .i64 (IntKind.wrap .i64 (x452 - 1))) KR KR ?_; clear ha a; intro a ha
    obtain ⟨t456, ht457, h_⟩ := bind_some' h; clear h; have h := h_; clear h_
    refine stepc ha 11 KR KR (inquiry_words.calls K (IntKind.wrap .i64 (x452 - 1)) t456 _ ht457) ?_; clear ha a; rintro e W458 ⟨rfl, HX459⟩
    refine ⟨_, rfl, ?_⟩; intro a ha; replace HW := HW.callw HX459; clear HX459
    obtain ⟨t460, ht461, h_⟩ := bind_some' h; clear h; have h := h_; clear h_
    refine stepc ha 12 KR KR (inquiry_words.calls K 512 t460 _ ht461) ?_; clear ha a; rintro e W462 ⟨rfl, HX463⟩
    refine ⟨_, rfl, ?_⟩; intro a ha; replace HW := HW.callw HX463; clear HX463
    refine stepbs ha HW 13 9 1 2 #[.string t456, .string t460] [.string t456, .string t460] (by decide) KR KR KR KR ?_; clear ha HW a; intro b464 a W465 HW ha
    replace HW : Wd w W465 [] [⟨9, 1, .slice (some ⟨b464, 0, none⟩) ([t456, t460] : List ByteArray).length 2, ([t456, t460] : List ByteArray).length, encs encS ([t456, t460] : List ByteArray)⟩] := HW
    replace ha := ha.turn 13 (v := .slice (some ⟨b464, 0, none⟩) ([t456, t460] : List ByteArray).length 2) KR rfl
    obtain ⟨t467, ht468, h_⟩ := bind_some' h; clear h; have h := h_; clear h_
    refine stepc ha 14 KR KR (inquiry_page.calls 0 ([t456, t460] : List ByteArray) (some ⟨b464, 0, none⟩) 2 t467 _ (HW.rdo (i := 0) (q := ⟨9, 1, .slice (some ⟨b464, 0, none⟩) ([t456, t460] : List ByteArray).length 2, ([t456, t460] : List ByteArray).length, encs encS ([t456, t460] : List ByteArray)⟩) KR) ht468) ?_; clear ha a; rintro e W469 ⟨rfl, HX470⟩
    refine ⟨_, rfl, ?_⟩; intro a ha; replace HW := HW.callw HX470; clear HX470
    refine stepp ha 2 (.string t467) KR KR ?_; clear ha a; intro a ha
    refine endl ?_
    refine thenN (hK455 _ _ ?_); clear hK455
    refine wp_ret ?_
    obtain rfl := Option.some.inj h
    exact finv ha _ _ rfl (.tmp (v := .string t467) KR .nil) (.string t467) rfl ⟨rfl, HW.pick [] [] (by decide) (by decide) rfl KR⟩
/-! ### headgate/headgatelaw17.wakes: function 8 -/
def headgatelaw17_wakes.f (K : Nat)  : Option Bool :=
  (inquiry_Page.f K (⟨0, (⟨#[]⟩ : ByteArray)⟩ : T_api_Unit) false 0).bind fun t475 => ((inquiry_Capacity.f K 8).bind fun t481 => (if t481 = (⟨#[0, 0, 0, 7, 0, 0, 2, 0]⟩ : ByteArray) then (if t475.2 = 0 then (if (t475.1.size : Int) = 36 then (asrt (0 < (t475.1.size : Int)) (if (bt t475.1 0) = 127 then (asrt (16 ≤ (t475.1.size : Int)) (if (t475.1.extract (8 : Int).toNat (16 : Int).toNat) = (⟨#[72, 69, 65, 68, 71, 65, 84, 69]⟩ : ByteArray) then (asrt (32 ≤ (t475.1.size : Int)) (some ((t475.1.extract (16 : Int).toNat (32 : Int).toNat).toList == (⟨#[66, 76, 79, 67, 75, 32, 85, 78, 73, 84, 32, 32, 32, 32, 32, 32]⟩ : ByteArray).toList))) else (some false))) else (some false))) else (some false)) else (some false)) else (some false)))
set_option maxRecDepth 100000 in
set_option maxHeartbeats 4000000 in
theorem headgatelaw17_wakes.calls (K : Nat)   (r : Bool) (w : World)  (h : headgatelaw17_wakes.f K  = some r) :
    Calls Try.prog 8 #[] w (fun e W' => e = .returned (.bool r) ∧ Wd w W' [] [] ) := by
  refine sxstart (n := 34) (l := []) Try.func8 rfl rfl (Nat.le_of_ble_eq_true KR) (subsA_nil _) ?_
  intro a ha
  have HW := Wd.refl w
  unfold headgatelaw17_wakes.f at h
  refine wp_seq_k (fun K471 hK472 => ?_)
  refine wp_region_lit ?_
  refine stepp ha 0 (.bool false) KR KR ?_; clear ha a; intro a ha
  refine endl ?_
  refine thenN (hK472 _ _ ?_); clear hK472
  refine wp_seq_k (fun K473 hK474 => ?_)
  refine wp_region_lit ?_
  refine stepp ha 4 (.agg #[.int .i64 0, .string (⟨#[]⟩ : ByteArray)]) KR KR ?_; clear ha a; intro a ha
  obtain ⟨t475, ht476, h_⟩ := bind_some' h; clear h; have h := h_; clear h_
  refine stepc ha 5 KR KR (inquiry_Page.calls K (⟨0, (⟨#[]⟩ : ByteArray)⟩ : T_api_Unit) false 0 t475 _ ht476) ?_; clear ha a; rintro e W477 ⟨rfl, HX478⟩
  refine ⟨_, rfl, ?_⟩; intro a ha; replace HW := HW.callw HX478; clear HX478
  refine stepp ha 3 (.tuple #[.string t475.1, .int .i64 t475.2]) KR KR ?_; clear ha a; intro a ha
  refine stepp ha 6 (.string t475.1) KR KR ?_; clear ha a; intro a ha
  refine stepp ha 7 (.int .i64 t475.2) KR KR ?_; clear ha a; intro a ha
  refine stepp ha 1 (.string t475.1) KR KR ?_; clear ha a; intro a ha
  refine stepp ha 2 (.int .i64 t475.2) KR KR ?_; clear ha a; intro a ha
  refine endl ?_
  refine thenN (hK474 _ _ ?_); clear hK474
  refine wp_seq_k (fun K479 hK480 => ?_)
  refine wp_region_lit ?_
  obtain ⟨t481, ht482, h_⟩ := bind_some' h; clear h; have h := h_; clear h_
  refine stepc ha 8 KR KR (inquiry_Capacity.calls K 8 t481 _ ht482) ?_; clear ha a; rintro e W483 ⟨rfl, HX484⟩
  refine ⟨_, rfl, ?_⟩; intro a ha; replace HW := HW.callw HX484; clear HX484
  refine stepp ha 9 (.bool (t481.toList == (⟨#[0, 0, 0, 7, 0, 0, 2, 0]⟩ : ByteArray).toList)) KR KR ?_; clear ha a; intro a ha
  refine stepp ha 10 (.bool (t481.toList == (⟨#[0, 0, 0, 7, 0, 0, 2, 0]⟩ : ByteArray).toList)) KR KR ?_; clear ha a; intro a ha
  by_cases hp485 : t481 = (⟨#[0, 0, 0, 7, 0, 0, 2, 0]⟩ : ByteArray)
  · skip
    replace h := ite_pos' h hp485
    replace ha := ha.bool 10 KR (str_eq_t hp485)
    refine stepp ha 11 (.int .i64 t475.2) KR KR ?_; clear ha a; intro a ha
    refine stepp ha 12 (.bool (t475.2 == 0)) KR KR ?_; clear ha a; intro a ha
    refine stepp ha 13 (.bool (t475.2 == 0)) KR KR ?_; clear ha a; intro a ha
    refine stepp ha 14 (.bool (t475.2 == 0)) KR KR ?_; clear ha a; intro a ha
    by_cases hp486 : t475.2 = 0
    · skip
      replace h := ite_pos' h hp486
      replace ha := ha.bool 14 KR (ieq_t hp486)
      refine stepp ha 15 (.string t475.1) KR KR ?_; clear ha a; intro a ha
      refine stepp ha 16 (.int .i64 (t475.1.size : Int)) KR KR ?_; clear ha a; intro a ha
      refine stepp ha 17 (.bool ((t475.1.size : Int) == 36)) KR KR ?_; clear ha a; intro a ha
      refine stepp ha 18 (.bool ((t475.1.size : Int) == 36)) KR KR ?_; clear ha a; intro a ha
      refine stepp ha 19 (.bool ((t475.1.size : Int) == 36)) KR KR ?_; clear ha a; intro a ha
      by_cases hp487 : (t475.1.size : Int) = 36
      · skip
        replace h := ite_pos' h hp487
        replace ha := ha.bool 19 KR (ieq_t hp487)
        refine stepp ha 20 (.string t475.1) KR KR ?_; clear ha a; intro a ha
        obtain ⟨hA488, h_⟩ := asrt_some h; clear h; have h := h_; clear h_
        refine stepsi ha 21 9 (.tmp 20) (.const (.int .i64 0)) t475.1 .i64 0 rfl KR KR KR (by decide) (show (0 : Int) < ((t475.1).size : Int) from hA488) KR ?_; clear ha a; intro a ha
        refine stepp ha 22 (.bool ((bt t475.1 0) == 127)) KR KR ?_; clear ha a; intro a ha
        refine stepp ha 23 (.bool ((bt t475.1 0) == 127)) KR KR ?_; clear ha a; intro a ha
        refine stepp ha 24 (.bool ((bt t475.1 0) == 127)) KR KR ?_; clear ha a; intro a ha
        by_cases hp489 : (bt t475.1 0) = 127
        · skip
          replace h := ite_pos' h hp489
          replace ha := ha.bool 24 KR (ieq_t hp489)
          refine stepp ha 25 (.string t475.1) KR KR ?_; clear ha a; intro a ha
          obtain ⟨hA490, h_⟩ := asrt_some h; clear h; have h := h_; clear h_
          refine stepss ha 26 9 (.tmp 25) (.const (.int .i64 8)) (.const (.int .i64 16)) t475.1 .i64 .i64 8 16 rfl KR KR KR KR (by decide) (by decide) (show (16 : Int) ≤ ((t475.1).size : Int) from hA490) KR ?_; clear ha a; intro a ha
          refine stepp ha 27 (.bool ((t475.1.extract (8 : Int).toNat (16 : Int).toNat).toList == (⟨#[72, 69, 65, 68, 71, 65, 84, 69]⟩ : ByteArray).toList)) KR KR ?_; clear ha a; intro a ha
          refine stepp ha 28 (.bool ((t475.1.extract (8 : Int).toNat (16 : Int).toNat).toList == (⟨#[72, 69, 65, 68, 71, 65, 84, 69]⟩ : ByteArray).toList)) KR KR ?_; clear ha a; intro a ha
          refine stepp ha 29 (.bool ((t475.1.extract (8 : Int).toNat (16 : Int).toNat).toList == (⟨#[72, 69, 65, 68, 71, 65, 84, 69]⟩ : ByteArray).toList)) KR KR ?_; clear ha a; intro a ha
          by_cases hp491 : (t475.1.extract (8 : Int).toNat (16 : Int).toNat) = (⟨#[72, 69, 65, 68, 71, 65, 84, 69]⟩ : ByteArray)
          · skip
            replace h := ite_pos' h hp491
            replace ha := ha.bool 29 KR (str_eq_t hp491)
            refine stepp ha 30 (.string t475.1) KR KR ?_; clear ha a; intro a ha
            obtain ⟨hA492, h_⟩ := asrt_some h; clear h; have h := h_; clear h_
            refine stepss ha 31 9 (.tmp 30) (.const (.int .i64 16)) (.const (.int .i64 32)) t475.1 .i64 .i64 16 32 rfl KR KR KR KR (by decide) (by decide) (show (32 : Int) ≤ ((t475.1).size : Int) from hA492) KR ?_; clear ha a; intro a ha
            refine stepp ha 32 (.bool ((t475.1.extract (16 : Int).toNat (32 : Int).toNat).toList == (⟨#[66, 76, 79, 67, 75, 32, 85, 78, 73, 84, 32, 32, 32, 32, 32, 32]⟩ : ByteArray).toList)) KR KR ?_; clear ha a; intro a ha
            refine stepp ha 33 (.bool ((t475.1.extract (16 : Int).toNat (32 : Int).toNat).toList == (⟨#[66, 76, 79, 67, 75, 32, 85, 78, 73, 84, 32, 32, 32, 32, 32, 32]⟩ : ByteArray).toList)) KR KR ?_; clear ha a; intro a ha
            refine stepp ha 0 (.bool ((t475.1.extract (16 : Int).toNat (32 : Int).toNat).toList == (⟨#[66, 76, 79, 67, 75, 32, 85, 78, 73, 84, 32, 32, 32, 32, 32, 32]⟩ : ByteArray).toList)) KR KR ?_; clear ha a; intro a ha
            refine endl ?_
            refine thenN (hK480 _ _ ?_); clear hK480
            refine wp_ret ?_
            obtain rfl := Option.some.inj h
            exact finv ha _ _ rfl (.tmp (v := .bool ((t475.1.extract (16 : Int).toNat (32 : Int).toNat).toList == (⟨#[66, 76, 79, 67, 75, 32, 85, 78, 73, 84, 32, 32, 32, 32, 32, 32]⟩ : ByteArray).toList)) KR .nil) (.bool ((t475.1.extract (16 : Int).toNat (32 : Int).toNat).toList == (⟨#[66, 76, 79, 67, 75, 32, 85, 78, 73, 84, 32, 32, 32, 32, 32, 32]⟩ : ByteArray).toList)) rfl ⟨rfl, HW.pick [] [] (by decide) (by decide) rfl KR⟩
          · skip
            replace h := ite_neg' h hp491
            replace ha := ha.bool 29 KR (str_eq_f hp491)
            refine stepo ha 30 KR ?_; clear ha a; intro a ha
            refine stepo ha 31 KR ?_; clear ha a; intro a ha
            refine stepo ha 32 KR ?_; clear ha a; intro a ha
            refine stepp ha 33 (.bool false) KR KR ?_; clear ha a; intro a ha
            refine stepp ha 0 (.bool false) KR KR ?_; clear ha a; intro a ha
            refine endl ?_
            refine thenN (hK480 _ _ ?_); clear hK480
            refine wp_ret ?_
            obtain rfl := Option.some.inj h
            exact finv ha _ _ rfl (.tmp (v := .bool false) KR .nil) (.bool false) rfl ⟨rfl, HW.pick [] [] (by decide) (by decide) rfl KR⟩
        · skip
          replace h := ite_neg' h hp489
          replace ha := ha.bool 24 KR (ieq_f hp489)
          refine stepo ha 25 KR ?_; clear ha a; intro a ha
          refine stepo ha 26 KR ?_; clear ha a; intro a ha
          refine stepo ha 27 KR ?_; clear ha a; intro a ha
          refine stepp ha 28 (.bool false) KR KR ?_; clear ha a; intro a ha
          refine stepp ha 29 (.bool false) KR KR ?_; clear ha a; intro a ha
          refine stepo ha 30 KR ?_; clear ha a; intro a ha
          refine stepo ha 31 KR ?_; clear ha a; intro a ha
          refine stepo ha 32 KR ?_; clear ha a; intro a ha
          refine stepp ha 33 (.bool false) KR KR ?_; clear ha a; intro a ha
          refine stepp ha 0 (.bool false) KR KR ?_; clear ha a; intro a ha
          refine endl ?_
          refine thenN (hK480 _ _ ?_); clear hK480
          refine wp_ret ?_
          obtain rfl := Option.some.inj h
          exact finv ha _ _ rfl (.tmp (v := .bool false) KR .nil) (.bool false) rfl ⟨rfl, HW.pick [] [] (by decide) (by decide) rfl KR⟩
      · skip
        replace h := ite_neg' h hp487
        replace ha := ha.bool 19 KR (ieq_f hp487)
        refine stepo ha 20 KR ?_; clear ha a; intro a ha
        refine stepo ha 21 KR ?_; clear ha a; intro a ha
        refine stepo ha 22 KR ?_; clear ha a; intro a ha
        refine stepp ha 23 (.bool false) KR KR ?_; clear ha a; intro a ha
        refine stepp ha 24 (.bool false) KR KR ?_; clear ha a; intro a ha
        refine stepo ha 25 KR ?_; clear ha a; intro a ha
        refine stepo ha 26 KR ?_; clear ha a; intro a ha
        refine stepo ha 27 KR ?_; clear ha a; intro a ha
        refine stepp ha 28 (.bool false) KR KR ?_; clear ha a; intro a ha
        refine stepp ha 29 (.bool false) KR KR ?_; clear ha a; intro a ha
        refine stepo ha 30 KR ?_; clear ha a; intro a ha
        refine stepo ha 31 KR ?_; clear ha a; intro a ha
        refine stepo ha 32 KR ?_; clear ha a; intro a ha
        refine stepp ha 33 (.bool false) KR KR ?_; clear ha a; intro a ha
        refine stepp ha 0 (.bool false) KR KR ?_; clear ha a; intro a ha
        refine endl ?_
        refine thenN (hK480 _ _ ?_); clear hK480
        refine wp_ret ?_
        obtain rfl := Option.some.inj h
        exact finv ha _ _ rfl (.tmp (v := .bool false) KR .nil) (.bool false) rfl ⟨rfl, HW.pick [] [] (by decide) (by decide) rfl KR⟩
    · skip
      replace h := ite_neg' h hp486
      replace ha := ha.bool 14 KR (ieq_f hp486)
      refine stepo ha 15 KR ?_; clear ha a; intro a ha
      refine stepo ha 16 KR ?_; clear ha a; intro a ha
      refine stepo ha 17 KR ?_; clear ha a; intro a ha
      refine stepp ha 18 (.bool false) KR KR ?_; clear ha a; intro a ha
      refine stepp ha 19 (.bool false) KR KR ?_; clear ha a; intro a ha
      refine stepo ha 20 KR ?_; clear ha a; intro a ha
      refine stepo ha 21 KR ?_; clear ha a; intro a ha
      refine stepo ha 22 KR ?_; clear ha a; intro a ha
      refine stepp ha 23 (.bool false) KR KR ?_; clear ha a; intro a ha
      refine stepp ha 24 (.bool false) KR KR ?_; clear ha a; intro a ha
      refine stepo ha 25 KR ?_; clear ha a; intro a ha
      refine stepo ha 26 KR ?_; clear ha a; intro a ha
      refine stepo ha 27 KR ?_; clear ha a; intro a ha
      refine stepp ha 28 (.bool false) KR KR ?_; clear ha a; intro a ha
      refine stepp ha 29 (.bool false) KR KR ?_; clear ha a; intro a ha
      refine stepo ha 30 KR ?_; clear ha a; intro a ha
      refine stepo ha 31 KR ?_; clear ha a; intro a ha
      refine stepo ha 32 KR ?_; clear ha a; intro a ha
      refine stepp ha 33 (.bool false) KR KR ?_; clear ha a; intro a ha
      refine stepp ha 0 (.bool false) KR KR ?_; clear ha a; intro a ha
      refine endl ?_
      refine thenN (hK480 _ _ ?_); clear hK480
      refine wp_ret ?_
      obtain rfl := Option.some.inj h
      exact finv ha _ _ rfl (.tmp (v := .bool false) KR .nil) (.bool false) rfl ⟨rfl, HW.pick [] [] (by decide) (by decide) rfl KR⟩
  · skip
    replace h := ite_neg' h hp485
    replace ha := ha.bool 10 KR (str_eq_f hp485)
    refine stepo ha 11 KR ?_; clear ha a; intro a ha
    refine stepo ha 12 KR ?_; clear ha a; intro a ha
    refine stepp ha 13 (.bool false) KR KR ?_; clear ha a; intro a ha
    refine stepp ha 14 (.bool false) KR KR ?_; clear ha a; intro a ha
    refine stepo ha 15 KR ?_; clear ha a; intro a ha
    refine stepo ha 16 KR ?_; clear ha a; intro a ha
    refine stepo ha 17 KR ?_; clear ha a; intro a ha
    refine stepp ha 18 (.bool false) KR KR ?_; clear ha a; intro a ha
    refine stepp ha 19 (.bool false) KR KR ?_; clear ha a; intro a ha
    refine stepo ha 20 KR ?_; clear ha a; intro a ha
    refine stepo ha 21 KR ?_; clear ha a; intro a ha
    refine stepo ha 22 KR ?_; clear ha a; intro a ha
    refine stepp ha 23 (.bool false) KR KR ?_; clear ha a; intro a ha
    refine stepp ha 24 (.bool false) KR KR ?_; clear ha a; intro a ha
    refine stepo ha 25 KR ?_; clear ha a; intro a ha
    refine stepo ha 26 KR ?_; clear ha a; intro a ha
    refine stepo ha 27 KR ?_; clear ha a; intro a ha
    refine stepp ha 28 (.bool false) KR KR ?_; clear ha a; intro a ha
    refine stepp ha 29 (.bool false) KR KR ?_; clear ha a; intro a ha
    refine stepo ha 30 KR ?_; clear ha a; intro a ha
    refine stepo ha 31 KR ?_; clear ha a; intro a ha
    refine stepo ha 32 KR ?_; clear ha a; intro a ha
    refine stepp ha 33 (.bool false) KR KR ?_; clear ha a; intro a ha
    refine stepp ha 0 (.bool false) KR KR ?_; clear ha a; intro a ha
    refine endl ?_
    refine thenN (hK480 _ _ ?_); clear hK480
    refine wp_ret ?_
    obtain rfl := Option.some.inj h
    exact finv ha _ _ rfl (.tmp (v := .bool false) KR .nil) (.bool false) rfl ⟨rfl, HW.pick [] [] (by decide) (by decide) rfl KR⟩
end Go.Proofs.Ytccmdlbdpapigaa.F
