/- More of what the plain run of law 06 is told: the length of a text left free, Mod's value left free, the law's own awakening. No condition. -/
import Derived.Test.YtokdiacjcbolfaaDoorXLib
import Derived.Test.YtokdiacjcbolfaaDoorXAbsSplit
namespace Go.Proofs.YtokdiacjcbolfaaDoor.F
open Go Go.RowKit Go.Proofs.YtokdiacjcbolfaaDoor.X

set_option maxRecDepth 1000000 in
theorem wakes_run : told (runF Tryd.prog 4 (libOf lib1) 100000 7 [] (heapL 4 [(1, 127, crcTab)])) true = true := by kernel_rfl

theorem wakes_calls (W : World) (hG : CA W 1 0 crcTab.toArray) : Calls Tryd.prog 7 #[] W fun e W' => e = .returned (.bool true) ∧ Below W.heap.size W W' :=
  calls_of_runL (fun _ => 16) noNum mixed lib1_ok (by kernel_rfl) rfl (by kernel_rfl) wakes_run W (by
    intro p hp m u hu
    simp only [List.mem_cons, List.not_mem_nil, or_false] at hp
    subst hp
    have := hG m u (by simpa using hu)
    rwa [Nat.zero_add] at this)

def gWakes : LibF := fun args H => match args with
  | [] => match H.get 1 with
    | some (.ro c _) => match valsEq c crcTab with
      | false => none
      | true => some (.bool true, H)
    | _ => none
  | _ => none

theorem gWakes_ok {args : List Value} {H H' : Heap} {v : Value} (h : gWakes args H = some (v, H')) : CallOk Tryd.prog 4 7 args H v H' := by
  unfold gWakes at h
  split at h
  · split at h
    · rename_i c e hk
      split at h
      · cases h
      · rename_i hc
        obtain rfl := valsEq_eq hc
        cases h
        exact callOk_belowT (by kernel_rfl) rfl rfl hk (by omega) (by kernel_rfl) fun W hW => wakes_calls W hW
    · cases h
  · cases h

def secV (a : Int) : Int := (frame_Sectors.f a).getD 0
theorem secV_is (a : Int) : frame_Sectors.f a = some (secV a) := by
  unfold secV frame_Sectors.f
  split
  · rfl
  · split <;> rfl

def gSectors : LibF := fun args H => match args with
  | [.int .i64 a] => some (.int .i64 (secV a), H)
  | _ => none

theorem gSectors_ok {ng : Nat} {args : List Value} {H H' : Heap} {v : Value} (h : gSectors args H = some (v, H')) : CallOk Tryd.prog ng 23 args H v H' := by
  unfold gSectors at h
  split at h
  · rename_i a
    cases h
    refine callOk_below (by kernel_rfl) rfl rfl fun W => ?_
    refine (frame_Sectors.calls a _ W (secV_is a)).mono ?_
    rintro e W' ⟨rfl, hw⟩
    exact ⟨rfl, hw.below⟩
  · cases h

def modV (k : Int) : Int := Int.tmod (IntKind.wrap .i64 (Int.tmod k 100 + 100)) 100
theorem modV_is (k : Int) : headgatekeep_Mod.f k 100 = some (modV k) := by
  unfold headgatekeep_Mod.f modV
  rw [if_neg (by omega), asrt, if_pos (by omega)]

theorem modV_range (k : Int) : 0 ≤ modV k ∧ modV k < 100 := by
  have h1 := Int.tmod_lt_of_pos k (b := 100) (by omega)
  have h2 : -100 < Int.tmod k 100 := Int.lt_tmod_of_pos k (by omega)
  have hw : IntKind.wrap .i64 (Int.tmod k 100 + 100) = Int.tmod k 100 + 100 := by
    simp [IntKind.wrap, IntKind.bits, IntKind.signed]; omega
  unfold modV
  rw [hw]
  exact ⟨Int.tmod_nonneg _ (by omega), Int.tmod_lt_of_pos _ (by omega)⟩

def gMod (M : Int → Int) : LibF := fun args H => match args with
  | [.int .i64 k, .int .i64 (.ofNat d)] => match Nat.beq d 100 with
    | true => some (.int .i64 (M k), H)
    | false => none
  | _ => none

theorem gMod_ok {ng : Nat} {args : List Value} {H H' : Heap} {v : Value} (h : gMod modV args H = some (v, H')) : CallOk Tryd.prog ng 10 args H v H' := by
  unfold gMod at h
  split at h
  · rename_i k d
    split at h
    · rename_i hd
      obtain rfl := Nat.eq_of_beq_eq_true hd
      cases h
      refine callOk_below (by kernel_rfl) rfl rfl fun W => ?_
      refine (headgatekeep_Mod.calls k 100 _ W (modV_is k)).mono ?_
      rintro e W' ⟨rfl, hw⟩
      exact ⟨rfl, hw.below⟩
    · cases h
  · cases h

noncomputable def lib2 (M : Int → Int) : List (Nat × LibF) := (10, gMod M) :: (23, gSectors) :: (7, gWakes) :: lib1

theorem lib1_all : ∀ p ∈ lib1, ∀ args H v H', p.2 args H = some (v, H') → CallOk Tryd.prog 4 p.1 args H v H' := by
  rintro ⟨g, x⟩ hp args H v H' h
  rw [lib1, List.mem_cons, Prod.mk.injEq] at hp
  rcases hp with ⟨rfl, rfl⟩ | hp
  · dsimp only at h
    exact gGet_ok (args := args) (H := H) (H' := H') (v := v) h
  · exact lib0_all _ hp args H v H' h

theorem lib2_ok : LibOk Tryd.prog 4 (libOf (lib2 modV)) := by
  refine libOf_ok ?_
  rintro ⟨g, x⟩ hp args H v H' h
  rw [lib2, List.mem_cons, List.mem_cons, List.mem_cons, Prod.mk.injEq, Prod.mk.injEq, Prod.mk.injEq] at hp
  rcases hp with ⟨rfl, rfl⟩ | ⟨rfl, rfl⟩ | ⟨rfl, rfl⟩ | hp
  · dsimp only at h
    exact gMod_ok h
  · dsimp only at h
    exact gSectors_ok h
  · dsimp only at h
    exact gWakes_ok h
  · exact lib1_all _ hp args H v H' h
end Go.Proofs.YtokdiacjcbolfaaDoor.F
