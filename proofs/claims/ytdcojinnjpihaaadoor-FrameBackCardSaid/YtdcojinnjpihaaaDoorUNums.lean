/- Texts as lists of numbers. No condition. -/
import Derived.Test.YtdcojinnjpihaaaDoorXPure
namespace Go.Proofs.YtdcojinnjpihaaaDoor.F
open Go Go.RowKit Go.Proofs.YtdcojinnjpihaaaDoor.X
set_option linter.unusedVariables false
set_option linter.unusedSimpArgs false

def inB (l : List Int) : Prop := ∀ y ∈ l, 0 ≤ y ∧ y ≤ 255
theorem inB_append {l m : List Int} (h : inB l) (h' : inB m) : inB (l ++ m) := fun y hy => (List.mem_append.1 hy).elim (h y) (h' y)
theorem inB_zero (n : Nat) : inB (List.replicate n 0) := fun y hy => by
  obtain rfl := List.eq_of_mem_replicate hy
  omega
theorem inB_nil : inB [] := fun y hy => by simp at hy
theorem inB_cons {a : Int} {l : List Int} (h : 0 ≤ a ∧ a ≤ 255) (h' : inB l) : inB (a :: l) := fun y hy => by
  rcases List.mem_cons.1 hy with rfl | hy
  · exact h
  · exact h' y hy
theorem inB_cons' {a : Int} {l : List Int} : inB (a :: l) ↔ (0 ≤ a ∧ a ≤ 255) ∧ inB l :=
  ⟨fun h => ⟨h a (by simp), fun y hy => h y (by simp [hy])⟩, fun h => inB_cons h.1 h.2⟩
theorem inB_append' {l m : List Int} : inB (l ++ m) ↔ inB l ∧ inB m :=
  ⟨fun h => ⟨fun y hy => h y (by simp [hy]), fun y hy => h y (by simp [hy])⟩, fun h => inB_append h.1 h.2⟩
theorem inB_take {l : List Int} (h : inB l) (n : Nat) : inB (l.take n) := fun y hy => h y (List.mem_of_mem_take hy)
theorem inB_drop {l : List Int} (h : inB l) (n : Nat) : inB (l.drop n) := fun y hy => h y (List.mem_of_mem_drop hy)
theorem inB_getD {l : List Int} (h : inB l) (n : Nat) : 0 ≤ l.getD n 0 ∧ l.getD n 0 ≤ 255 := by
  rw [List.getD_eq_getElem?_getD]
  cases e : l[n]? with
  | none => simp
  | some x => exact h x (List.mem_of_getElem? e)

theorem nums_append (l m : List Int) : strOfNums l ++ strOfNums m = strOfNums (l ++ m) := by
  apply ByteArray.ext
  simp [strOfNums, ByteArray.data_append]
theorem nums_extract (l : List Int) (n m : Nat) : (strOfNums l).extract n m = strOfNums ((l.take m).drop n) := by
  apply ByteArray.ext
  simp [strOfNums, ByteArray.data_extract, List.map_drop, List.map_take, List.drop_take]
theorem nums_left (l : List Int) (n : Nat) : (strOfNums l).extract 0 n = strOfNums (l.take n) := by rw [nums_extract]; rfl
theorem bt_of (l : List Int) (h : inB l) (i : Int) : bt (strOfNums l) i = l.getD i.toNat 0 := by
  unfold bt
  rw [strOfNums_data, List.getD_eq_getElem?_getD, List.getD_eq_getElem?_getD, List.getElem?_map]
  cases e : l[i.toNat]? with
  | none => rfl
  | some x =>
    have := h x (List.mem_of_getElem? e)
    simp only [Option.map_some, Option.getD_some, UInt8.toNat_ofNat']
    omega

/-- A text's bytes, as numbers. -/
def numsOf (s : ByteArray) : List Int := s.data.toList.map fun b => (b.toNat : Int)
theorem numsOf_length (s : ByteArray) : (numsOf s).length = s.size := by unfold numsOf; rw [List.length_map]; rfl
theorem numsOf_in (s : ByteArray) : inB (numsOf s) := fun y hy => by
  obtain ⟨b, _, rfl⟩ := List.mem_map.1 hy
  have := b.toNat_lt
  omega
theorem nums_numsOf (s : ByteArray) : strOfNums (numsOf s) = s := by
  apply ByteArray.ext
  unfold strOfNums numsOf
  rw [List.map_map]
  have : ((fun n : Int => UInt8.ofNat n.toNat) ∘ fun b : UInt8 => ((b.toNat : Nat) : Int)) = id := by
    funext b
    simp
  rw [this]
  simp
theorem numsOf_nums (l : List Int) (h : inB l) : numsOf (strOfNums l) = l := by
  unfold numsOf
  rw [strOfNums_data, List.map_map]
  conv => rhs; rw [← List.map_id l]
  apply List.map_congr_left
  intro x hx
  have := h x hx
  simp only [Function.comp, UInt8.toNat_ofNat', id]
  omega
theorem nums_inj {l m : List Int} (h : inB l) (h' : inB m) : strOfNums l = strOfNums m ↔ l = m :=
  ⟨fun e => by rw [← numsOf_nums l h, e, numsOf_nums m h'], fun e => by rw [e]⟩
theorem numsOf_append (s t : ByteArray) : numsOf (s ++ t) = numsOf s ++ numsOf t := by
  simp [numsOf, ByteArray.data_append]
theorem bt_numsOf (s : ByteArray) (i : Int) : bt s i = (numsOf s).getD i.toNat 0 := by
  conv => lhs; rw [← nums_numsOf s]
  exact bt_of _ (numsOf_in s) i
/-- Two texts of one length are the same where all bytes are. -/
theorem text_ext {s t : ByteArray} (hs : s.size = t.size) (h : ∀ i : Nat, i < s.size → bt s i = bt t i) : s = t := by
  rw [← nums_numsOf s, ← nums_numsOf t]
  congr 1
  apply List.ext_getElem
  · rw [numsOf_length, numsOf_length, hs]
  · intro i h1 h2
    have := h i (by rw [numsOf_length] at h1; exact h1)
    rw [bt_numsOf, bt_numsOf, Int.toNat_natCast, List.getD_eq_getElem?_getD, List.getD_eq_getElem?_getD, List.getElem?_eq_getElem h1, List.getElem?_eq_getElem h2] at this
    exact this
theorem text_eq {s t : ByteArray} : s = t ↔ s.size = t.size ∧ ∀ i : Nat, i < s.size → bt s i = bt t i :=
  ⟨fun h => by subst h; exact ⟨rfl, fun _ _ => rfl⟩, fun h => text_ext h.1 h.2⟩
theorem bt_left (s t : ByteArray) (i : Int) (h : i.toNat < s.size) : bt (s ++ t) i = bt s i := by
  unfold bt
  rw [ByteArray.data_append, Array.toList_append, List.getD_eq_getElem?_getD, List.getD_eq_getElem?_getD, List.getElem?_append_left (by simpa using h)]
theorem bt_right (s t : ByteArray) (i : Int) (h : s.size ≤ i.toNat) : bt (s ++ t) i = bt t (i - s.size) := by
  unfold bt
  rw [ByteArray.data_append, Array.toList_append, List.getD_eq_getElem?_getD, List.getD_eq_getElem?_getD, List.getElem?_append_right (by simpa using h)]
  have : (i - (s.size : Int)).toNat = i.toNat - s.size := by omega
  rw [this]; rfl
theorem bt_extract (s : ByteArray) (n m : Nat) (i : Int) (h0 : 0 ≤ i) (h : n + i.toNat < m) (hm : m ≤ s.size) : bt (s.extract n m) i = bt s (n + i) := by
  conv => lhs; rw [← nums_numsOf s, nums_extract]
  rw [bt_of _ (inB_drop (inB_take (numsOf_in s) _) _), bt_numsOf]
  rw [List.getD_eq_getElem?_getD, List.getD_eq_getElem?_getD, List.getElem?_drop, List.getElem?_take, if_pos h, show ((n : Int) + i).toNat = n + i.toNat by omega]
theorem extract_size (s : ByteArray) (n m : Nat) (h : n ≤ m) (hm : m ≤ s.size) : (s.extract n m).size = m - n := by
  rw [ByteArray.size_extract]; omega
theorem bt_beyond (s : ByteArray) (i : Int) (h : s.size ≤ i.toNat) : bt s i = 0 := by
  rw [bt_numsOf, List.getD_eq_getElem?_getD, List.getElem?_eq_none (by rw [numsOf_length]; exact h)]; rfl
theorem empty_nums : (⟨#[]⟩ : ByteArray) = strOfNums [] := rfl
theorem size0 (s : ByteArray) : s = ⟨#[]⟩ ↔ s.size = 0 := by
  constructor
  · intro h; rw [h]; rfl
  · intro h
    exact text_ext (by rw [h]; rfl) (fun i hi => by omega)

end Go.Proofs.YtdcojinnjpihaaaDoor.F
