/- What the plain run of law 19 is told of functions that it does not enter. No condition. -/
import Derived.Test.YteilejfncdacfaaGreatDoorXAbsLib
import Derived.Test.YteilejfncdacfaaGreatDoorXLaid
import Derived.Test.YteilejfncdacfaaGreatDoorXShelf
import Derived.Test.YteilejfncdacfaaGreatDoorF242
import Derived.Test.YteilejfncdacfaaGreatDoorF243
namespace Go.Proofs.YteilejfncdacfaaGreatDoor.F
open Go Go.RowKit Go.Proofs.YteilejfncdacfaaGreatDoor.X
set_option linter.unusedVariables false
set_option linter.unusedSimpArgs false

theorem block_go (K : Nat) (a : Int) (N : Nat) (hN : N ≤ 1000) : ∀ (m i k : Nat), i + m = N → m < k → headgatekeep_Block.l0 K a k (List.replicate i a ++ List.replicate m 0) (i : Int) = some (strOfNums (List.replicate N a)) := by
  intro m
  induction m with
  | zero =>
    intro i k hi hk
    obtain ⟨k, rfl⟩ : ∃ j, k = j + 1 := ⟨k - 1, by omega⟩
    have : i = N := by omega
    subst this
    simp [headgatekeep_Block.l0, headgatekeep_Block.b0]
  | succ m ih =>
    intro i k hi hk
    obtain ⟨k, rfl⟩ : ∃ j, k = j + 1 := ⟨k - 1, by omega⟩
    have hset : (List.replicate i a ++ List.replicate (m + 1) (0 : Int)).set i a = List.replicate (i + 1) a ++ List.replicate m 0 := by
      rw [List.set_append, if_neg (by simp), List.replicate_succ' (n := i), List.append_assoc]
      simp [List.replicate_succ]
    have hw : IntKind.wrap .i64 ((i : Int) + 1) = ((i + 1 : Nat) : Int) := by
      simp [IntKind.wrap, IntKind.bits, IntKind.signed]; omega
    have hlt : (i : Int) < ((List.replicate i a ++ List.replicate (m + 1) (0 : Int)).length : Int) := by simp; omega
    have hn : ((i : Int)).toNat = i := by simp
    rw [headgatekeep_Block.l0, headgatekeep_Block.b0, if_pos hlt, asrt, if_pos (by omega), hn, hset, hw]
    exact ih (i + 1) k (by omega) (by omega)

theorem block_is (a : Nat) : headgatekeep_Block.f 600 (a : Int) = some (strOfNums (List.replicate 512 (a : Int))) :=
  block_go 600 (a : Int) 512 (by omega) 512 0 600 (by omega) (by omega)

theorem block_str (n b : Nat) : strOfNums (List.replicate n (b : Int)) = ⟨⟨List.replicate n (UInt8.ofNat b)⟩⟩ := by
  simp [strOfNums]

def gBlock : LibF := fun args H => match args with
  | [.int .u8 (.ofNat b)] => some (.string ⟨⟨List.replicate 512 (UInt8.ofNat b)⟩⟩, H)
  | _ => none

theorem gBlock_ok {ng : Nat} {args : List Value} {H H' : Heap} {v : Value} (h : gBlock args H = some (v, H')) : CallOk Tryz.prog ng 38 args H v H' := by
  unfold gBlock at h
  split at h
  · rename_i b
    cases h
    refine callOk_below (by kernel_rfl) rfl rfl fun W => ?_
    refine (headgatekeep_Block.calls 600 (b : Int) _ W (block_is b)).mono ?_
    rintro e W' ⟨rfl, hw⟩
    exact ⟨by rw [block_str], hw.below⟩
  · cases h

def gPutBig : LibF := fun args H => match args with
  | [.int .u64 a, .int .i64 n] => match fields_PutBig.f 200 a n with
    | some r => some (.string r, H)
    | none => none
  | _ => none

theorem gPutBig_ok {ng : Nat} {args : List Value} {H H' : Heap} {v : Value} (h : gPutBig args H = some (v, H')) : CallOk Tryz.prog ng 179 args H v H' := by
  unfold gPutBig at h
  split at h
  · rename_i a n
    split at h
    · rename_i r hr
      cases h
      refine callOk_below (by kernel_rfl) rfl rfl fun W => ?_
      refine (fields_PutBig.calls 200 a n r W hr).mono ?_
      rintro e W' ⟨rfl, hw⟩
      exact ⟨rfl, hw.below⟩
    · cases h
  · cases h

def gBig : LibF := fun args H => match args with
  | [.string s, .int .i64 a, .int .i64 n] => match fields_Big.f 200 s a n with
    | some r => some (.tuple #[.int .u64 r.1, .bool r.2], H)
    | none => none
  | _ => none

theorem gBig_ok {ng : Nat} {args : List Value} {H H' : Heap} {v : Value} (h : gBig args H = some (v, H')) : CallOk Tryz.prog ng 93 args H v H' := by
  unfold gBig at h
  split at h
  · rename_i s a n
    split at h
    · rename_i r hr
      cases h
      refine callOk_below (by kernel_rfl) rfl rfl fun W => ?_
      refine (fields_Big.calls 200 s a n r W hr).mono ?_
      rintro e W' ⟨rfl, hw⟩
      exact ⟨rfl, hw.below⟩
    · cases h
  · cases h

def crcTab : List Value := encs (encIK .u32) G_crc_steps

def gPut : LibF := fun args H => match args with
  | [.int .u64 a, .string s] => match H.get 4 with
    | some (.ro c _) => match valsEq c crcTab with
      | false => none
      | true => match frame_Put.f 70000 a s with
        | some r => some (.tuple #[.string r.1, .int .i64 r.2], H)
        | none => none
    | _ => none
  | _ => none

theorem gPut_ok {args : List Value} {H H' : Heap} {v : Value} (h : gPut args H = some (v, H')) : CallOk Tryz.prog 6 308 args H v H' := by
  unfold gPut at h
  split at h
  · rename_i a s
    split at h
    · rename_i c e hk
      split at h
      · cases h
      · rename_i hc
        obtain rfl := valsEq_eq hc
        split at h
        · rename_i r hr
          cases h
          refine callOk_belowT (by kernel_rfl) rfl rfl hk (by omega) (by kernel_rfl) fun W hW => ?_
          refine (frame_Put.calls 70000 a s r W hW hr).mono ?_
          rintro e W' ⟨rfl, hw⟩
          exact ⟨rfl, hw.below⟩
        · cases h
    · cases h
  · cases h

noncomputable def lib0 : List (Nat × LibF) := [(211, gRepeat), (38, gBlock), (179, gPutBig), (93, gBig), (308, gPut), (280, gSame), (227, gAdd .i64), (347, gLoad .i64), (349, gStore), (228, gLoad .u32), (285, gStore), (325, gMark0), (327, gMark0), (328, gMark1), (330, gMark1), (326, gCas .i32), (331, gAdd .i32)]
theorem lib0_all : ∀ p ∈ lib0, ∀ args H v H', p.2 args H = some (v, H') → CallOk Tryz.prog 6 p.1 args H v H' := by
  intro p hp args H v H' h
  simp only [lib0, List.mem_cons, List.not_mem_nil, or_false] at hp
  rcases hp with rfl | rfl | rfl | rfl | rfl | rfl | rfl | rfl | rfl | rfl | rfl | rfl | rfl | rfl | rfl | rfl | rfl
  · exact gRepeat_ok (by kernel_rfl) (fun s c w h1 h2 => Tryz.strings_Repeat s c w h1 h2) h
  · exact gBlock_ok h
  · exact gPutBig_ok h
  · exact gBig_ok h
  · exact gPut_ok h
  · exact gSame_ok Tryz.func280 (by kernel_rfl) (by kernel_rfl) (by kernel_rfl) (by kernel_rfl) h
  · exact gAdd_ok .i64 Tryz.func227 (by kernel_rfl) (by kernel_rfl) (by kernel_rfl) (by kernel_rfl) h
  · exact gLoad_ok .i64 Tryz.func347 (by kernel_rfl) (by kernel_rfl) (by kernel_rfl) (by kernel_rfl) h
  · exact gStore_ok Tryz.func349 (by kernel_rfl) (by kernel_rfl) (by kernel_rfl) (by kernel_rfl) h
  · exact gLoad_ok .u32 Tryz.func228 (by kernel_rfl) (by kernel_rfl) (by kernel_rfl) (by kernel_rfl) h
  · exact gStore_ok Tryz.func285 (by kernel_rfl) (by kernel_rfl) (by kernel_rfl) (by kernel_rfl) h
  · exact gMark0_ok .disable Tryz.func325 (by kernel_rfl) (by kernel_rfl) (by kernel_rfl) (by kernel_rfl) h
  · exact gMark0_ok .enable Tryz.func327 (by kernel_rfl) (by kernel_rfl) (by kernel_rfl) (by kernel_rfl) h
  · exact gMark1_ok .acquire Tryz.func328 (by kernel_rfl) (by kernel_rfl) (by kernel_rfl) (by kernel_rfl) h
  · exact gMark1_ok .releaseMerge Tryz.func330 (by kernel_rfl) (by kernel_rfl) (by kernel_rfl) (by kernel_rfl) h
  · exact gCas_ok .i32 Tryz.func326 (by kernel_rfl) (by kernel_rfl) (by kernel_rfl) (by kernel_rfl) h
  · exact gAdd_ok .i32 Tryz.func331 (by kernel_rfl) (by kernel_rfl) (by kernel_rfl) (by kernel_rfl) h

theorem lib0_ok : LibOk Tryz.prog 6 (libOf lib0) := libOf_ok lib0_all

theorem noNum : noNumB Tryz.prog = true := by kernel_rfl
theorem mixed : Tryz.prog.follows .mixedOrders = true := by kernel_rfl

noncomputable def gOnce : LibF := runTF Tryz.prog 6 (libOf lib0) 100000 159

theorem gOnce_ok {args : List Value} {H H' : Heap} {v : Value} (h : gOnce args H = some (v, H')) : CallOk Tryz.prog 6 159 args H v H' :=
  runTF_ok (noNum_of noNum) mixed lib0_ok 100000 159 args H v H' h

noncomputable def lib1 : List (Nat × LibF) := (159, gOnce) :: lib0

theorem lib1_ok : LibOk Tryz.prog 6 (libOf lib1) := by
  refine libOf_ok ?_
  rintro ⟨g, x⟩ hp args H v H' h
  rw [lib1, List.mem_cons, Prod.mk.injEq] at hp
  rcases hp with ⟨rfl, rfl⟩ | hp
  · dsimp only at h
    exact gOnce_ok (args := args) (H := H) (H' := H') (v := v) h
  · exact lib0_all _ hp args H v H' h
end Go.Proofs.YteilejfncdacfaaGreatDoor.F
