/- What the plain run of law 06 is told of functions that it does not enter. No condition. -/
import Derived.Test.YtokdiacjcbolfaaDoorXAbsLib
import Derived.Test.YtokdiacjcbolfaaDoorXLaid
import Derived.Test.YtokdiacjcbolfaaDoorXShelf
import Derived.Test.YtokdiacjcbolfaaDoorF23
import Derived.Test.YtokdiacjcbolfaaDoorF74
namespace Go.Proofs.YtokdiacjcbolfaaDoor.F
open Go Go.RowKit Go.Proofs.YtokdiacjcbolfaaDoor.X

def gPutBig : LibF := fun args H => match args with
  | [.int .u64 a, .int .i64 n] => match fields_PutBig.f 200 a n with
    | some r => some (.string r, H)
    | none => none
  | _ => none

theorem gPutBig_ok {ng : Nat} {args : List Value} {H H' : Heap} {v : Value} (h : gPutBig args H = some (v, H')) : CallOk Tryd.prog ng 47 args H v H' := by
  unfold gPutBig at h
  split at h
  · rename_i a n
    split at h
    · rename_i r hr
      cases h
      refine callOk_below (by kernel_rfl) rfl rfl fun W => ?_
      refine (fields_PutBig.calls 200 a n r W hr).mono ?_
      rintro e W' ⟨rfl, hw⟩
      exact ⟨rfl, hw.below⟩
    · cases h
  · cases h

def gBig : LibF := fun args H => match args with
  | [.string s, .int .i64 a, .int .i64 n] => match fields_Big.f 200 s a n with
    | some r => some (.tuple #[.int .u64 r.1, .bool r.2], H)
    | none => none
  | _ => none

theorem gBig_ok {ng : Nat} {args : List Value} {H H' : Heap} {v : Value} (h : gBig args H = some (v, H')) : CallOk Tryd.prog ng 49 args H v H' := by
  unfold gBig at h
  split at h
  · rename_i s a n
    split at h
    · rename_i r hr
      cases h
      refine callOk_below (by kernel_rfl) rfl rfl fun W => ?_
      refine (fields_Big.calls 200 s a n r W hr).mono ?_
      rintro e W' ⟨rfl, hw⟩
      exact ⟨rfl, hw.below⟩
    · cases h
  · cases h

def crcTab : List Value := encs (encI .u32) G_crc_steps

def gPut : LibF := fun args H => match args with
  | [.int .u64 a, .string s] => match H.get 1 with
    | some (.ro c _) => match valsEq c crcTab with
      | false => none
      | true => match frame_Put.f 70000 a s with
        | some r => some (.tuple #[.string r.1, .int .i64 r.2], H)
        | none => none
    | _ => none
  | _ => none

theorem gPut_ok {args : List Value} {H H' : Heap} {v : Value} (h : gPut args H = some (v, H')) : CallOk Tryd.prog 4 46 args H v H' := by
  unfold gPut at h
  split at h
  · rename_i a s
    split at h
    · rename_i c e hk
      split at h
      · cases h
      · rename_i hc
        obtain rfl := valsEq_eq hc
        split at h
        · rename_i r hr
          cases h
          refine callOk_belowT (by kernel_rfl) rfl rfl hk (by omega) (by kernel_rfl) fun W hW => ?_
          refine (frame_Put.calls 70000 a s r W hW hr).mono ?_
          rintro e W' ⟨rfl, hw⟩
          exact ⟨rfl, hw.below⟩
        · cases h
    · cases h
  · cases h

def gRight : LibF := fun args H => match args with
  | [.string s, .string d] => match H.get 1 with
    | some (.ro c _) => match valsEq c crcTab with
      | false => none
      | true => match crc_Right.f 70000 s d with
        | some r => some (.bool r, H)
        | none => none
    | _ => none
  | _ => none

theorem gRight_ok {args : List Value} {H H' : Heap} {v : Value} (h : gRight args H = some (v, H')) : CallOk Tryd.prog 4 65 args H v H' := by
  unfold gRight at h
  split at h
  · rename_i s d
    split at h
    · rename_i c e hk
      split at h
      · cases h
      · rename_i hc
        obtain rfl := valsEq_eq hc
        split at h
        · rename_i r hr
          cases h
          refine callOk_belowT (by kernel_rfl) rfl rfl hk (by omega) (by kernel_rfl) fun W hW => ?_
          refine (crc_Right.calls 70000 s d r W hW hr).mono ?_
          rintro e W' ⟨rfl, hw⟩
          exact ⟨rfl, hw.below⟩
        · cases h
    · cases h
  · cases h

def gTrim (f : Nat → ByteArray → Int → Option ByteArray) : LibF := fun args H => match args with
  | [.string s, .int .u8 n] => match f 70000 s n with
    | some r => some (.string r, H)
    | none => none
  | _ => none

theorem gTrimL_ok {ng : Nat} {args : List Value} {H H' : Heap} {v : Value} (h : gTrim strings_trimLeftByte.f args H = some (v, H')) : CallOk Tryd.prog ng 73 args H v H' := by
  unfold gTrim at h
  split at h
  · rename_i s n
    split at h
    · rename_i r hr
      cases h
      refine callOk_below (by kernel_rfl) rfl rfl fun W => ?_
      refine (strings_trimLeftByte.calls 70000 s n r W hr).mono ?_
      rintro e W' ⟨rfl, hw⟩
      exact ⟨rfl, hw.below⟩
    · cases h
  · cases h

/-- A text without the bytes of one kind at its end. -/
def trimR (a : Int) (l : List UInt8) : List UInt8 := (l.reverse.dropWhile fun b => decide ((b.toNat : Int) = a)).reverse

theorem trimR_go (K : Nat) (a : Int) : ∀ (n : Nat) (l : List UInt8) (k : Nat), l.length = n → n < k → n < 1000000 → strings_trimRightByte.l0 K a k ⟨⟨l⟩⟩ = some ⟨⟨trimR a l⟩⟩ := by
  intro n
  induction n with
  | zero =>
    intro l k hl hk _
    obtain ⟨k, rfl⟩ : ∃ j, k = j + 1 := ⟨k - 1, by omega⟩
    obtain rfl := List.eq_nil_of_length_eq_zero hl
    rfl
  | succ n ih =>
    intro l k hl hk hn
    obtain ⟨k, rfl⟩ : ∃ j, k = j + 1 := ⟨k - 1, by omega⟩
    obtain ⟨r, b, rfl⟩ : ∃ r b, l = r ++ [b] := by
      rcases List.eq_nil_or_concat l with rfl | ⟨r, b, h⟩
      · simp at hl
      · exact ⟨r, b, by simpa using h⟩
    have hr : r.length = n := by simpa using hl
    have hs : (ByteArray.mk ⟨r ++ [b]⟩).size = n + 1 := by
      show (r ++ [b]).length = n + 1
      exact hl
    have hw : IntKind.wrap .i64 (((n + 1 : Nat) : Int) - 1) = (n : Int) := by
      simp [IntKind.wrap, IntKind.bits, IntKind.signed]; omega
    have hb : bt (ByteArray.mk ⟨r ++ [b]⟩) (n : Int) = (b.toNat : Int) := by
      unfold bt
      have : ((n : Int)).toNat = r.length := by omega
      rw [this]
      simp
    have hx : (ByteArray.mk ⟨r ++ [b]⟩).extract 0 ((n : Int)).toNat = ⟨⟨r⟩⟩ := by
      apply ba_eq
      rw [ByteArray.data_extract]
      simp [← hr]
    rw [strings_trimRightByte.l0, strings_trimRightByte.b0, hs, if_pos (by omega), hw, asrt, if_pos (by omega), asrt, if_pos (by omega), hb]
    by_cases e : (b.toNat : Int) = a
    · rw [if_pos e, asrt, if_pos (by omega), hx, ih r k hr (by omega) (by omega)]
      simp [trimR, e]
    · rw [if_neg e]
      simp [trimR, e]

def gTrimR : LibF := fun args H => match args with
  | [.string s, .int .u8 n] => match Nat.ble s.data.toList.length 60000 with
    | true => some (.string ⟨⟨trimR n s.data.toList⟩⟩, H)
    | false => none
  | _ => none

theorem gTrimR_ok {ng : Nat} {args : List Value} {H H' : Heap} {v : Value} (h : gTrimR args H = some (v, H')) : CallOk Tryd.prog ng 74 args H v H' := by
  unfold gTrimR at h
  split at h
  · rename_i s n
    split at h
    · rename_i hb
      have hb := Nat.le_of_ble_eq_true hb
      cases h
      refine callOk_below (by kernel_rfl) rfl rfl fun W => ?_
      refine (strings_trimRightByte.calls 70000 s n _ W (trimR_go 70000 n s.data.toList.length s.data.toList 70000 rfl (by omega) (by omega))).mono ?_
      rintro e W' ⟨rfl, hw⟩
      exact ⟨rfl, hw.below⟩
    · cases h
  · cases h

noncomputable def lib0 : List (Nat × LibF) := [(25, gRepeat), (47, gPutBig), (49, gBig), (46, gPut), (65, gRight), (73, gTrim strings_trimLeftByte.f), (74, gTrimR), (68, gSame), (67, gAdd .i64), (59, gLoad .i64), (50, gStore)]

theorem lib0_all : ∀ p ∈ lib0, ∀ args H v H', p.2 args H = some (v, H') → CallOk Tryd.prog 4 p.1 args H v H' := by
  intro p hp args H v H' h
  simp only [lib0, List.mem_cons, List.not_mem_nil, or_false] at hp
  rcases hp with rfl | rfl | rfl | rfl | rfl | rfl | rfl | rfl | rfl | rfl | rfl
  · exact gRepeat_ok (by kernel_rfl) (fun s c w h1 h2 => Tryd.strings_Repeat s c w h1 h2) h
  · exact gPutBig_ok h
  · exact gBig_ok h
  · exact gPut_ok h
  · exact gRight_ok h
  · exact gTrimL_ok h
  · exact gTrimR_ok h
  · exact gSame_ok Tryd.func68 (by kernel_rfl) (by kernel_rfl) (by kernel_rfl) (by kernel_rfl) h
  · exact gAdd_ok .i64 Tryd.func67 (by kernel_rfl) (by kernel_rfl) (by kernel_rfl) (by kernel_rfl) h
  · exact gLoad_ok .i64 Tryd.func59 (by kernel_rfl) (by kernel_rfl) (by kernel_rfl) (by kernel_rfl) h
  · exact gStore_ok Tryd.func50 (by kernel_rfl) (by kernel_rfl) (by kernel_rfl) (by kernel_rfl) h

theorem lib0_ok : LibOk Tryd.prog 4 (libOf lib0) := libOf_ok lib0_all

theorem noNum : noNumB Tryd.prog = true := by kernel_rfl
theorem mixed : Tryd.prog.follows .mixedOrders = true := by kernel_rfl

noncomputable def gGet : LibF := runTF Tryd.prog 4 (libOf lib0) 100000 34

theorem gGet_ok {args : List Value} {H H' : Heap} {v : Value} (h : gGet args H = some (v, H')) : CallOk Tryd.prog 4 34 args H v H' :=
  runTF_ok (noNum_of noNum) mixed lib0_ok 100000 34 args H v H' h

noncomputable def lib1 : List (Nat × LibF) := (34, gGet) :: lib0

theorem lib1_ok : LibOk Tryd.prog 4 (libOf lib1) := by
  refine libOf_ok ?_
  rintro ⟨g, x⟩ hp args H v H' h
  rw [lib1, List.mem_cons, Prod.mk.injEq] at hp
  rcases hp with ⟨rfl, rfl⟩ | hp
  · dsimp only at h
    exact gGet_ok (args := args) (H := H) (H' := H') (v := v) h
  · exact lib0_all _ hp args H v H' h
end Go.Proofs.YtokdiacjcbolfaaDoor.F
