/- headgate/frame.Sectors, math/bits.Mul32, math/bits.Mul64, math/bits.Mul, internal/stringslite.HasPrefix, strings.HasPrefix, headgate/fields.shifts, headgate/fields.put[uint64], headgate/fields.PutBig, headgate/fields.Pad, headgate/fields.PutLittle, headgate/crc.More, headgate/crc.Sum, headgate/crc.Digest, headgate/frame.Put, headgate/fields.get[uint64], headgate/fields.Big, headgate/crc.Right, strings.trimLeftByte: plain functions, and that the calls come to what they say. No condition. -/
import Derived.Test.YtokdiacjcbolfaaDoorFT
namespace Go.Proofs.YtokdiacjcbolfaaDoor.F
open Go Go.RowKit Go.Proofs.YtokdiacjcbolfaaDoor.X
set_option linter.unusedVariables false
set_option linter.unusedSimpArgs false
/-! ### headgate/frame.Sectors: function 23 -/
def frame_Sectors.f (a0 : Int) : Option Int :=
  if a0 < 0 then (some 0) else (if a0 > 65536 then (some 0) else (some (IntKind.wrap .i64 (Int.tdiv (IntKind.wrap .i64 ((IntKind.wrap .i64 ((IntKind.wrap .i64 (a0 + 24)) + 512)) - 1)) 512))))
set_option maxRecDepth 100000 in
set_option maxHeartbeats 4000000 in
theorem frame_Sectors.calls (a0 : Int)  (r : Int) (w : World)  (h : frame_Sectors.f a0 = some r) :
    Calls Tryd.prog 23 #[.int .i64 a0] w (fun e W' => e = .returned (.int .i64 r) ∧ Wd w W' [] [] ) := by
  refine sxstart (n := 14) (l := [(0, .int .i64 a0)]) Tryd.func23 rfl rfl (Nat.le_of_ble_eq_true KR) (subsA_cons rfl (subsA_nil _)) ?_
  intro a ha
  have HW := Wd.refl w
  unfold frame_Sectors.f at h
  refine wp_seq_k (fun K1 hK2 => ?_)
  refine wp_region_lit ?_
  refine stepp ha 2 (.int .i64 0) KR KR ?_; clear ha a; intro a ha
  refine endl ?_
  refine thenN (hK2 _ _ ?_); clear hK2
  refine wp_seq_k (fun K3 hK4 => ?_)
  refine wp_seq_k (fun K5 hK6 => ?_)
  refine wp_region_lit ?_
  refine stepp ha 3 (.int .i64 a0) KR KR ?_; clear ha a; intro a ha
  refine stepp ha 4 (.bool (decide (a0 < 0))) KR KR ?_; clear ha a; intro a ha
  refine stepp ha 5 (.bool (decide (a0 < 0))) KR KR ?_; clear ha a; intro a ha
  by_cases hp7 : a0 < 0
  · skip
    replace h := ite_pos' h hp7
    replace ha := ha.bool 5 KR (decide_eq_true hp7)
    refine stepo ha 6 KR ?_; clear ha a; intro a ha
    refine stepo ha 7 KR ?_; clear ha a; intro a ha
    refine stepp ha 8 (.bool true) KR KR ?_; clear ha a; intro a ha
    refine endl ?_
    refine thenN (hK6 _ _ ?_); clear hK6
    refine condT ha KR KR (t := true) (rfl) ?_
    refine wp_seq_k (fun K8 hK9 => ?_)
    refine wp_region_lit ?_
    refine stepp ha 2 (.int .i64 0) KR KR ?_; clear ha a; intro a ha
    refine endl ?_
    refine thenN (hK9 _ _ ?_); clear hK9
    refine wp_ret ?_
    refine thenR ?_
    obtain rfl := Option.some.inj h
    exact finv ha _ _ rfl (.tmp (v := .int .i64 0) KR .nil) (.int .i64 0) rfl ⟨rfl, HW.pick [] [] (by decide) (by decide) rfl KR⟩
  · skip
    replace h := ite_neg' h hp7
    replace ha := ha.bool 5 KR (decide_eq_false hp7)
    refine stepp ha 6 (.int .i64 a0) KR KR ?_; clear ha a; intro a ha
    refine stepp ha 7 (.bool (decide (a0 > 65536))) KR KR ?_; clear ha a; intro a ha
    refine stepp ha 8 (.bool (decide (a0 > 65536))) KR KR ?_; clear ha a; intro a ha
    refine endl ?_
    refine thenN (hK6 _ _ ?_); clear hK6
    by_cases hp10 : a0 > 65536
    · skip
      replace h := ite_pos' h hp10
      refine condT ha KR KR (t := decide (a0 > 65536)) (decide_eq_true hp10) ?_
      refine wp_seq_k (fun K11 hK12 => ?_)
      refine wp_region_lit ?_
      refine stepp ha 2 (.int .i64 0) KR KR ?_; clear ha a; intro a ha
      refine endl ?_
      refine thenN (hK12 _ _ ?_); clear hK12
      refine wp_ret ?_
      refine thenR ?_
      obtain rfl := Option.some.inj h
      exact finv ha _ _ rfl (.tmp (v := .int .i64 0) KR .nil) (.int .i64 0) rfl ⟨rfl, HW.pick [] [] (by decide) (by decide) rfl KR⟩
    · skip
      replace h := ite_neg' h hp10
      refine condF ha KR KR (t := decide (a0 > 65536)) (decide_eq_false hp10) ?_
      refine wp_skip ?_
      refine thenN (hK4 _ _ ?_); clear hK4
      refine wp_seq_k (fun K13 hK14 => ?_)
      refine wp_region_lit ?_
      refine stepp ha 9 (.int .i64 a0) KR KR ?_; clear ha a; intro a ha
      refine stepp ha 10 (.int .i64 (IntKind.wrap .i64 (a0 + 24))) KR KR ?_; clear ha a; intro a ha
      refine stepp ha 11 (.int .i64 (IntKind.wrap .i64 ((IntKind.wrap .i64 (a0 + 24)) + 512))) KR KR ?_; clear ha a; intro a ha
      refine stepp ha 12 (.int .i64 (IntKind.wrap .i64 ((IntKind.wrap .i64 ((IntKind.wrap .i64 (a0 + 24)) + 512)) - 1))) KR KR ?_; clear ha a; intro a ha
      refine stepp ha 13 (.int .i64 (IntKind.wrap .i64 (Int.tdiv (IntKind.wrap .i64 ((IntKind.wrap .i64 ((IntKind.wrap .i64 (a0 + 24)) + 512)) - 1)) 512))) KR KR ?_; clear ha a; intro a ha
      refine stepp ha 2 (.int .i64 (IntKind.wrap .i64 (Int.tdiv (IntKind.wrap .i64 ((IntKind.wrap .i64 ((IntKind.wrap .i64 (a0 + 24)) + 512)) - 1)) 512))) KR KR ?_; clear ha a; intro a ha
      refine endl ?_
      refine thenN (hK14 _ _ ?_); clear hK14
      refine wp_ret ?_
      obtain rfl := Option.some.inj h
      exact finv ha _ _ rfl (.tmp (v := .int .i64 (IntKind.wrap .i64 (Int.tdiv (IntKind.wrap .i64 ((IntKind.wrap .i64 ((IntKind.wrap .i64 (a0 + 24)) + 512)) - 1)) 512))) KR .nil) (.int .i64 (IntKind.wrap .i64 (Int.tdiv (IntKind.wrap .i64 ((IntKind.wrap .i64 ((IntKind.wrap .i64 (a0 + 24)) + 512)) - 1)) 512))) rfl ⟨rfl, HW.pick [] [] (by decide) (by decide) rfl KR⟩
/-! ### math/bits.Mul32: function 54 -/
def bits_Mul32.f (a0 : Int) (a1 : Int) : Option (Int × Int) :=
  some (IntKind.wrap .u32 ((IntKind.wrap .u64 ((IntKind.wrap .u64 a0) * (IntKind.wrap .u64 a1))).fdiv 4294967296), IntKind.wrap .u32 (IntKind.wrap .u64 ((IntKind.wrap .u64 a0) * (IntKind.wrap .u64 a1))))
set_option maxRecDepth 100000 in
set_option maxHeartbeats 4000000 in
theorem bits_Mul32.calls (a0 : Int) (a1 : Int)  (r : Int × Int) (w : World)  (h : bits_Mul32.f a0 a1 = some r) :
    Calls Tryd.prog 54 #[.int .u32 a0, .int .u32 a1] w (fun e W' => e = .returned (.tuple #[.int .u32 r.1, .int .u32 r.2]) ∧ Wd w W' [] [] ) := by
  refine sxstart (n := 17) (l := [(0, .int .u32 a0), (1, .int .u32 a1)]) Tryd.func54 rfl rfl (Nat.le_of_ble_eq_true KR) (subsA_cons rfl (subsA_cons rfl (subsA_nil _))) ?_
  intro a ha
  have HW := Wd.refl w
  unfold bits_Mul32.f at h
  refine wp_seq_k (fun K15 hK16 => ?_)
  refine wp_region_lit ?_
  refine stepp ha 4 (.int .u32 0) KR KR ?_; clear ha a; intro a ha
  refine stepp ha 5 (.int .u32 0) KR KR ?_; clear ha a; intro a ha
  refine endl ?_
  refine thenN (hK16 _ _ ?_); clear hK16
  refine wp_seq_k (fun K17 hK18 => ?_)
  refine wp_region_lit ?_
  refine stepp ha 7 (.int .u32 a0) KR KR ?_; clear ha a; intro a ha
  refine stepp ha 8 (.int .u64 (IntKind.wrap .u64 a0)) KR KR ?_; clear ha a; intro a ha
  refine stepp ha 9 (.int .u32 a1) KR KR ?_; clear ha a; intro a ha
  refine stepp ha 10 (.int .u64 (IntKind.wrap .u64 a1)) KR KR ?_; clear ha a; intro a ha
  refine stepp ha 11 (.int .u64 (IntKind.wrap .u64 ((IntKind.wrap .u64 a0) * (IntKind.wrap .u64 a1)))) KR KR ?_; clear ha a; intro a ha
  refine stepp ha 6 (.int .u64 (IntKind.wrap .u64 ((IntKind.wrap .u64 a0) * (IntKind.wrap .u64 a1)))) KR KR ?_; clear ha a; intro a ha
  refine endl ?_
  refine thenN (hK18 _ _ ?_); clear hK18
  refine wp_seq_k (fun K19 hK20 => ?_)
  refine wp_region_lit ?_
  refine stepp ha 12 (.int .u64 (IntKind.wrap .u64 ((IntKind.wrap .u64 a0) * (IntKind.wrap .u64 a1)))) KR KR ?_; clear ha a; intro a ha
  refine stepp ha 13 (.int .u64 ((IntKind.wrap .u64 ((IntKind.wrap .u64 a0) * (IntKind.wrap .u64 a1))).fdiv 4294967296)) KR KR ?_; clear ha a; intro a ha
  refine stepp ha 14 (.int .u32 (IntKind.wrap .u32 ((IntKind.wrap .u64 ((IntKind.wrap .u64 a0) * (IntKind.wrap .u64 a1))).fdiv 4294967296))) KR KR ?_; clear ha a; intro a ha
  refine stepp ha 15 (.int .u64 (IntKind.wrap .u64 ((IntKind.wrap .u64 a0) * (IntKind.wrap .u64 a1)))) KR KR ?_; clear ha a; intro a ha
  refine stepp ha 16 (.int .u32 (IntKind.wrap .u32 (IntKind.wrap .u64 ((IntKind.wrap .u64 a0) * (IntKind.wrap .u64 a1))))) KR KR ?_; clear ha a; intro a ha
  refine stepp ha 4 (.int .u32 (IntKind.wrap .u32 ((IntKind.wrap .u64 ((IntKind.wrap .u64 a0) * (IntKind.wrap .u64 a1))).fdiv 4294967296))) KR KR ?_; clear ha a; intro a ha
  refine stepp ha 5 (.int .u32 (IntKind.wrap .u32 (IntKind.wrap .u64 ((IntKind.wrap .u64 a0) * (IntKind.wrap .u64 a1))))) KR KR ?_; clear ha a; intro a ha
  refine endl ?_
  refine thenN (hK20 _ _ ?_); clear hK20
  refine wp_ret ?_
  obtain rfl := Option.some.inj h
  exact finv ha _ _ rfl (.tmp (v := .int .u32 (IntKind.wrap .u32 ((IntKind.wrap .u64 ((IntKind.wrap .u64 a0) * (IntKind.wrap .u64 a1))).fdiv 4294967296))) KR (.tmp (v := .int .u32 (IntKind.wrap .u32 (IntKind.wrap .u64 ((IntKind.wrap .u64 a0) * (IntKind.wrap .u64 a1))))) KR .nil)) (.tuple #[.int .u32 (IntKind.wrap .u32 ((IntKind.wrap .u64 ((IntKind.wrap .u64 a0) * (IntKind.wrap .u64 a1))).fdiv 4294967296)), .int .u32 (IntKind.wrap .u32 (IntKind.wrap .u64 ((IntKind.wrap .u64 a0) * (IntKind.wrap .u64 a1))))]) rfl ⟨rfl, HW.pick [] [] (by decide) (by decide) rfl KR⟩
/-! ### math/bits.Mul64: function 55 -/
def bits_Mul64.f (a0 : Int) (a1 : Int) : Option (Int × Int) :=
  some (IntKind.wrap .u64 ((IntKind.wrap .u64 ((IntKind.wrap .u64 ((a0.fdiv 4294967296) * (a1.fdiv 4294967296))) + ((IntKind.wrap .u64 ((IntKind.wrap .u64 ((a0.fdiv 4294967296) * (band .u64 a1 4294967295))) + ((IntKind.wrap .u64 ((band .u64 a0 4294967295) * (band .u64 a1 4294967295))).fdiv 4294967296))).fdiv 4294967296))) + ((IntKind.wrap .u64 ((band .u64 (IntKind.wrap .u64 ((IntKind.wrap .u64 ((a0.fdiv 4294967296) * (band .u64 a1 4294967295))) + ((IntKind.wrap .u64 ((band .u64 a0 4294967295) * (band .u64 a1 4294967295))).fdiv 4294967296))) 4294967295) + (IntKind.wrap .u64 ((band .u64 a0 4294967295) * (a1.fdiv 4294967296))))).fdiv 4294967296)), IntKind.wrap .u64 (a0 * a1))
set_option maxRecDepth 100000 in
set_option maxHeartbeats 4000000 in
theorem bits_Mul64.calls (a0 : Int) (a1 : Int)  (r : Int × Int) (w : World)  (h : bits_Mul64.f a0 a1 = some r) :
    Calls Tryd.prog 55 #[.int .u64 a0, .int .u64 a1] w (fun e W' => e = .returned (.tuple #[.int .u64 r.1, .int .u64 r.2]) ∧ Wd w W' [] [] ) := by
  refine sxstart (n := 51) (l := [(0, .int .u64 a0), (1, .int .u64 a1)]) Tryd.func55 rfl rfl (Nat.le_of_ble_eq_true KR) (subsA_cons rfl (subsA_cons rfl (subsA_nil _))) ?_
  intro a ha
  have HW := Wd.refl w
  unfold bits_Mul64.f at h
  refine wp_seq_k (fun K21 hK22 => ?_)
  refine wp_region_lit ?_
  refine stepp ha 4 (.int .u64 0) KR KR ?_; clear ha a; intro a ha
  refine stepp ha 5 (.int .u64 0) KR KR ?_; clear ha a; intro a ha
  refine endl ?_
  refine thenN (hK22 _ _ ?_); clear hK22
  refine wp_seq_k (fun K23 hK24 => ?_)
  refine wp_region_lit ?_
  refine stepp ha 14 (.int .u64 a0) KR KR ?_; clear ha a; intro a ha
  refine stepp ha 15 (.int .u64 (band .u64 a0 4294967295)) KR KR ?_; clear ha a; intro a ha
  refine stepp ha 6 (.int .u64 (band .u64 a0 4294967295)) KR KR ?_; clear ha a; intro a ha
  refine endl ?_
  refine thenN (hK24 _ _ ?_); clear hK24
  refine wp_seq_k (fun K25 hK26 => ?_)
  refine wp_region_lit ?_
  refine stepp ha 16 (.int .u64 a0) KR KR ?_; clear ha a; intro a ha
  refine stepp ha 17 (.int .u64 (a0.fdiv 4294967296)) KR KR ?_; clear ha a; intro a ha
  refine stepp ha 7 (.int .u64 (a0.fdiv 4294967296)) KR KR ?_; clear ha a; intro a ha
  refine endl ?_
  refine thenN (hK26 _ _ ?_); clear hK26
  refine wp_seq_k (fun K27 hK28 => ?_)
  refine wp_region_lit ?_
  refine stepp ha 18 (.int .u64 a1) KR KR ?_; clear ha a; intro a ha
  refine stepp ha 19 (.int .u64 (band .u64 a1 4294967295)) KR KR ?_; clear ha a; intro a ha
  refine stepp ha 8 (.int .u64 (band .u64 a1 4294967295)) KR KR ?_; clear ha a; intro a ha
  refine endl ?_
  refine thenN (hK28 _ _ ?_); clear hK28
  refine wp_seq_k (fun K29 hK30 => ?_)
  refine wp_region_lit ?_
  refine stepp ha 20 (.int .u64 a1) KR KR ?_; clear ha a; intro a ha
  refine stepp ha 21 (.int .u64 (a1.fdiv 4294967296)) KR KR ?_; clear ha a; intro a ha
  refine stepp ha 9 (.int .u64 (a1.fdiv 4294967296)) KR KR ?_; clear ha a; intro a ha
  refine endl ?_
  refine thenN (hK30 _ _ ?_); clear hK30
  refine wp_seq_k (fun K31 hK32 => ?_)
  refine wp_region_lit ?_
  refine stepp ha 22 (.int .u64 (band .u64 a0 4294967295)) KR KR ?_; clear ha a; intro a ha
  refine stepp ha 23 (.int .u64 (band .u64 a1 4294967295)) KR KR ?_; clear ha a; intro a ha
  refine stepp ha 24 (.int .u64 (IntKind.wrap .u64 ((band .u64 a0 4294967295) * (band .u64 a1 4294967295)))) KR KR ?_; clear ha a; intro a ha
  refine stepp ha 10 (.int .u64 (IntKind.wrap .u64 ((band .u64 a0 4294967295) * (band .u64 a1 4294967295)))) KR KR ?_; clear ha a; intro a ha
  refine endl ?_
  refine thenN (hK32 _ _ ?_); clear hK32
  refine wp_seq_k (fun K33 hK34 => ?_)
  refine wp_region_lit ?_
  refine stepp ha 25 (.int .u64 (a0.fdiv 4294967296)) KR KR ?_; clear ha a; intro a ha
  refine stepp ha 26 (.int .u64 (band .u64 a1 4294967295)) KR KR ?_; clear ha a; intro a ha
  refine stepp ha 27 (.int .u64 (IntKind.wrap .u64 ((a0.fdiv 4294967296) * (band .u64 a1 4294967295)))) KR KR ?_; clear ha a; intro a ha
  refine stepp ha 28 (.int .u64 (IntKind.wrap .u64 ((band .u64 a0 4294967295) * (band .u64 a1 4294967295)))) KR KR ?_; clear ha a; intro a ha
  refine stepp ha 29 (.int .u64 ((IntKind.wrap .u64 ((band .u64 a0 4294967295) * (band .u64 a1 4294967295))).fdiv 4294967296)) KR KR ?_; clear ha a; intro a ha
  refine stepp ha 30 (.int .u64 (IntKind.wrap .u64 ((IntKind.wrap .u64 ((a0.fdiv 4294967296) * (band .u64 a1 4294967295))) + ((IntKind.wrap .u64 ((band .u64 a0 4294967295) * (band .u64 a1 4294967295))).fdiv 4294967296)))) KR KR ?_; clear ha a; intro a ha
  refine stepp ha 11 (.int .u64 (IntKind.wrap .u64 ((IntKind.wrap .u64 ((a0.fdiv 4294967296) * (band .u64 a1 4294967295))) + ((IntKind.wrap .u64 ((band .u64 a0 4294967295) * (band .u64 a1 4294967295))).fdiv 4294967296)))) KR KR ?_; clear ha a; intro a ha
  refine endl ?_
  refine thenN (hK34 _ _ ?_); clear hK34
  refine wp_seq_k (fun K35 hK36 => ?_)
  refine wp_region_lit ?_
  refine stepp ha 31 (.int .u64 (IntKind.wrap .u64 ((IntKind.wrap .u64 ((a0.fdiv 4294967296) * (band .u64 a1 4294967295))) + ((IntKind.wrap .u64 ((band .u64 a0 4294967295) * (band .u64 a1 4294967295))).fdiv 4294967296)))) KR KR ?_; clear ha a; intro a ha
  refine stepp ha 32 (.int .u64 (band .u64 (IntKind.wrap .u64 ((IntKind.wrap .u64 ((a0.fdiv 4294967296) * (band .u64 a1 4294967295))) + ((IntKind.wrap .u64 ((band .u64 a0 4294967295) * (band .u64 a1 4294967295))).fdiv 4294967296))) 4294967295)) KR KR ?_; clear ha a; intro a ha
  refine stepp ha 12 (.int .u64 (band .u64 (IntKind.wrap .u64 ((IntKind.wrap .u64 ((a0.fdiv 4294967296) * (band .u64 a1 4294967295))) + ((IntKind.wrap .u64 ((band .u64 a0 4294967295) * (band .u64 a1 4294967295))).fdiv 4294967296))) 4294967295)) KR KR ?_; clear ha a; intro a ha
  refine endl ?_
  refine thenN (hK36 _ _ ?_); clear hK36
  refine wp_seq_k (fun K37 hK38 => ?_)
  refine wp_region_lit ?_
  refine stepp ha 33 (.int .u64 (IntKind.wrap .u64 ((IntKind.wrap .u64 ((a0.fdiv 4294967296) * (band .u64 a1 4294967295))) + ((IntKind.wrap .u64 ((band .u64 a0 4294967295) * (band .u64 a1 4294967295))).fdiv 4294967296)))) KR KR ?_; clear ha a; intro a ha
  refine stepp ha 34 (.int .u64 ((IntKind.wrap .u64 ((IntKind.wrap .u64 ((a0.fdiv 4294967296) * (band .u64 a1 4294967295))) + ((IntKind.wrap .u64 ((band .u64 a0 4294967295) * (band .u64 a1 4294967295))).fdiv 4294967296))).fdiv 4294967296)) KR KR ?_; clear ha a; intro a ha
  refine stepp ha 13 (.int .u64 ((IntKind.wrap .u64 ((IntKind.wrap .u64 ((a0.fdiv 4294967296) * (band .u64 a1 4294967295))) + ((IntKind.wrap .u64 ((band .u64 a0 4294967295) * (band .u64 a1 4294967295))).fdiv 4294967296))).fdiv 4294967296)) KR KR ?_; clear ha a; intro a ha
  refine endl ?_
  refine thenN (hK38 _ _ ?_); clear hK38
  refine wp_seq_k (fun K39 hK40 => ?_)
  refine wp_region_lit ?_
  refine stepp ha 35 (.int .u64 (band .u64 (IntKind.wrap .u64 ((IntKind.wrap .u64 ((a0.fdiv 4294967296) * (band .u64 a1 4294967295))) + ((IntKind.wrap .u64 ((band .u64 a0 4294967295) * (band .u64 a1 4294967295))).fdiv 4294967296))) 4294967295)) KR KR ?_; clear ha a; intro a ha
  refine stepp ha 36 (.int .u64 (band .u64 a0 4294967295)) KR KR ?_; clear ha a; intro a ha
  refine stepp ha 37 (.int .u64 (a1.fdiv 4294967296)) KR KR ?_; clear ha a; intro a ha
  refine stepp ha 38 (.int .u64 (IntKind.wrap .u64 ((band .u64 a0 4294967295) * (a1.fdiv 4294967296)))) KR KR ?_; clear ha a; intro a ha
  refine stepp ha 39 (.int .u64 (IntKind.wrap .u64 ((band .u64 (IntKind.wrap .u64 ((IntKind.wrap .u64 ((a0.fdiv 4294967296) * (band .u64 a1 4294967295))) + ((IntKind.wrap .u64 ((band .u64 a0 4294967295) * (band .u64 a1 4294967295))).fdiv 4294967296))) 4294967295) + (IntKind.wrap .u64 ((band .u64 a0 4294967295) * (a1.fdiv 4294967296)))))) KR KR ?_; clear ha a; intro a ha
  refine stepp ha 12 (.int .u64 (IntKind.wrap .u64 ((band .u64 (IntKind.wrap .u64 ((IntKind.wrap .u64 ((a0.fdiv 4294967296) * (band .u64 a1 4294967295))) + ((IntKind.wrap .u64 ((band .u64 a0 4294967295) * (band .u64 a1 4294967295))).fdiv 4294967296))) 4294967295) + (IntKind.wrap .u64 ((band .u64 a0 4294967295) * (a1.fdiv 4294967296)))))) KR KR ?_; clear ha a; intro a ha
  refine endl ?_
  refine thenN (hK40 _ _ ?_); clear hK40
  refine wp_seq_k (fun K41 hK42 => ?_)
  refine wp_region_lit ?_
  refine stepp ha 40 (.int .u64 (a0.fdiv 4294967296)) KR KR ?_; clear ha a; intro a ha
  refine stepp ha 41 (.int .u64 (a1.fdiv 4294967296)) KR KR ?_; clear ha a; intro a ha
  refine stepp ha 42 (.int .u64 (IntKind.wrap .u64 ((a0.fdiv 4294967296) * (a1.fdiv 4294967296)))) KR KR ?_; clear ha a; intro a ha
  refine stepp ha 43 (.int .u64 ((IntKind.wrap .u64 ((IntKind.wrap .u64 ((a0.fdiv 4294967296) * (band .u64 a1 4294967295))) + ((IntKind.wrap .u64 ((band .u64 a0 4294967295) * (band .u64 a1 4294967295))).fdiv 4294967296))).fdiv 4294967296)) KR KR ?_; clear ha a; intro a ha
  refine stepp ha 44 (.int .u64 (IntKind.wrap .u64 ((IntKind.wrap .u64 ((a0.fdiv 4294967296) * (a1.fdiv 4294967296))) + ((IntKind.wrap .u64 ((IntKind.wrap .u64 ((a0.fdiv 4294967296) * (band .u64 a1 4294967295))) + ((IntKind.wrap .u64 ((band .u64 a0 4294967295) * (band .u64 a1 4294967295))).fdiv 4294967296))).fdiv 4294967296)))) KR KR ?_; clear ha a; intro a ha
  refine stepp ha 45 (.int .u64 (IntKind.wrap .u64 ((band .u64 (IntKind.wrap .u64 ((IntKind.wrap .u64 ((a0.fdiv 4294967296) * (band .u64 a1 4294967295))) + ((IntKind.wrap .u64 ((band .u64 a0 4294967295) * (band .u64 a1 4294967295))).fdiv 4294967296))) 4294967295) + (IntKind.wrap .u64 ((band .u64 a0 4294967295) * (a1.fdiv 4294967296)))))) KR KR ?_; clear ha a; intro a ha
  refine stepp ha 46 (.int .u64 ((IntKind.wrap .u64 ((band .u64 (IntKind.wrap .u64 ((IntKind.wrap .u64 ((a0.fdiv 4294967296) * (band .u64 a1 4294967295))) + ((IntKind.wrap .u64 ((band .u64 a0 4294967295) * (band .u64 a1 4294967295))).fdiv 4294967296))) 4294967295) + (IntKind.wrap .u64 ((band .u64 a0 4294967295) * (a1.fdiv 4294967296))))).fdiv 4294967296)) KR KR ?_; clear ha a; intro a ha
  refine stepp ha 47 (.int .u64 (IntKind.wrap .u64 ((IntKind.wrap .u64 ((IntKind.wrap .u64 ((a0.fdiv 4294967296) * (a1.fdiv 4294967296))) + ((IntKind.wrap .u64 ((IntKind.wrap .u64 ((a0.fdiv 4294967296) * (band .u64 a1 4294967295))) + ((IntKind.wrap .u64 ((band .u64 a0 4294967295) * (band .u64 a1 4294967295))).fdiv 4294967296))).fdiv 4294967296))) + ((IntKind.wrap .u64 ((band .u64 (IntKind.wrap .u64 ((IntKind.wrap .u64 ((a0.fdiv 4294967296) * (band .u64 a1 4294967295))) + ((IntKind.wrap .u64 ((band .u64 a0 4294967295) * (band .u64 a1 4294967295))).fdiv 4294967296))) 4294967295) + (IntKind.wrap .u64 ((band .u64 a0 4294967295) * (a1.fdiv 4294967296))))).fdiv 4294967296)))) KR KR ?_; clear ha a; intro a ha
  refine stepp ha 4 (.int .u64 (IntKind.wrap .u64 ((IntKind.wrap .u64 ((IntKind.wrap .u64 ((a0.fdiv 4294967296) * (a1.fdiv 4294967296))) + ((IntKind.wrap .u64 ((IntKind.wrap .u64 ((a0.fdiv 4294967296) * (band .u64 a1 4294967295))) + ((IntKind.wrap .u64 ((band .u64 a0 4294967295) * (band .u64 a1 4294967295))).fdiv 4294967296))).fdiv 4294967296))) + ((IntKind.wrap .u64 ((band .u64 (IntKind.wrap .u64 ((IntKind.wrap .u64 ((a0.fdiv 4294967296) * (band .u64 a1 4294967295))) + ((IntKind.wrap .u64 ((band .u64 a0 4294967295) * (band .u64 a1 4294967295))).fdiv 4294967296))) 4294967295) + (IntKind.wrap .u64 ((band .u64 a0 4294967295) * (a1.fdiv 4294967296))))).fdiv 4294967296)))) KR KR ?_; clear ha a; intro a ha
  refine endl ?_
  refine thenN (hK42 _ _ ?_); clear hK42
  refine wp_seq_k (fun K43 hK44 => ?_)
  refine wp_region_lit ?_
  refine stepp ha 48 (.int .u64 a0) KR KR ?_; clear ha a; intro a ha
  refine stepp ha 49 (.int .u64 a1) KR KR ?_; clear ha a; intro a ha
  refine stepp ha 50 (.int .u64 (IntKind.wrap .u64 (a0 * a1))) KR KR ?_; clear ha a; intro a ha
  refine stepp ha 5 (.int .u64 (IntKind.wrap .u64 (a0 * a1))) KR KR ?_; clear ha a; intro a ha
  refine endl ?_
  refine thenN (hK44 _ _ ?_); clear hK44
  refine wp_ret ?_
  obtain rfl := Option.some.inj h
  exact finv ha _ _ rfl (.tmp (v := .int .u64 (IntKind.wrap .u64 ((IntKind.wrap .u64 ((IntKind.wrap .u64 ((a0.fdiv 4294967296) * (a1.fdiv 4294967296))) + ((IntKind.wrap .u64 ((IntKind.wrap .u64 ((a0.fdiv 4294967296) * (band .u64 a1 4294967295))) + ((IntKind.wrap .u64 ((band .u64 a0 4294967295) * (band .u64 a1 4294967295))).fdiv 4294967296))).fdiv 4294967296))) + ((IntKind.wrap .u64 ((band .u64 (IntKind.wrap .u64 ((IntKind.wrap .u64 ((a0.fdiv 4294967296) * (band .u64 a1 4294967295))) + ((IntKind.wrap .u64 ((band .u64 a0 4294967295) * (band .u64 a1 4294967295))).fdiv 4294967296))) 4294967295) + (IntKind.wrap .u64 ((band .u64 a0 4294967295) * (a1.fdiv 4294967296))))).fdiv 4294967296)))) KR (.tmp (v := .int .u64 (IntKind.wrap .u64 (a0 * a1))) KR .nil)) (.tuple #[.int .u64 (IntKind.wrap .u64 ((IntKind.wrap .u64 ((IntKind.wrap .u64 ((a0.fdiv 4294967296) * (a1.fdiv 4294967296))) + ((IntKind.wrap .u64 ((IntKind.wrap .u64 ((a0.fdiv 4294967296) * (band .u64 a1 4294967295))) + ((IntKind.wrap .u64 ((band .u64 a0 4294967295) * (band .u64 a1 4294967295))).fdiv 4294967296))).fdiv 4294967296))) + ((IntKind.wrap .u64 ((band .u64 (IntKind.wrap .u64 ((IntKind.wrap .u64 ((a0.fdiv 4294967296) * (band .u64 a1 4294967295))) + ((IntKind.wrap .u64 ((band .u64 a0 4294967295) * (band .u64 a1 4294967295))).fdiv 4294967296))) 4294967295) + (IntKind.wrap .u64 ((band .u64 a0 4294967295) * (a1.fdiv 4294967296))))).fdiv 4294967296))), .int .u64 (IntKind.wrap .u64 (a0 * a1))]) rfl ⟨rfl, HW.pick [] [] (by decide) (by decide) rfl KR⟩
/-! ### math/bits.Mul: function 37 -/
def bits_Mul.f (a0 : Int) (a1 : Int) : Option (Int × Int) :=
  (bits_Mul64.f a0 a1).bind fun t51 => (some (t51.1, t51.2))
set_option maxRecDepth 100000 in
set_option maxHeartbeats 4000000 in
theorem bits_Mul.calls (a0 : Int) (a1 : Int)  (r : Int × Int) (w : World)  (h : bits_Mul.f a0 a1 = some r) :
    Calls Tryd.prog 37 #[.int .u64 a0, .int .u64 a1] w (fun e W' => e = .returned (.tuple #[.int .u64 r.1, .int .u64 r.2]) ∧ Wd w W' [] [] ) := by
  refine sxstart (n := 30) (l := [(0, .int .u64 a0), (1, .int .u64 a1)]) Tryd.func37 rfl rfl (Nat.le_of_ble_eq_true KR) (subsA_cons rfl (subsA_cons rfl (subsA_nil _))) ?_
  intro a ha
  have HW := Wd.refl w
  unfold bits_Mul.f at h
  refine wp_seq_k (fun K45 hK46 => ?_)
  refine wp_region_lit ?_
  refine stepp ha 4 (.int .u64 0) KR KR ?_; clear ha a; intro a ha
  refine stepp ha 5 (.int .u64 0) KR KR ?_; clear ha a; intro a ha
  refine endl ?_
  refine thenN (hK46 _ _ ?_); clear hK46
  refine wp_seq_k (fun K47 hK48 => ?_)
  refine condF ha KR KR (t := false) (rfl) ?_
  refine wp_skip ?_
  refine thenN (hK48 _ _ ?_); clear hK48
  refine wp_seq_k (fun K49 hK50 => ?_)
  refine wp_region_lit ?_
  refine stepp ha 23 (.int .u64 a0) KR KR ?_; clear ha a; intro a ha
  refine stepp ha 24 (.int .u64 a1) KR KR ?_; clear ha a; intro a ha
  obtain ⟨t51, ht52, h_⟩ := bind_some' h; clear h; have h := h_; clear h_
  refine stepc ha 25 KR KR (bits_Mul64.calls a0 a1 t51 _ ht52) ?_; clear ha a; rintro e W53 ⟨rfl, HX54⟩
  refine ⟨_, rfl, ?_⟩; intro a ha; replace HW := HW.callw HX54; clear HX54
  refine stepp ha 22 (.tuple #[.int .u64 t51.1, .int .u64 t51.2]) KR KR ?_; clear ha a; intro a ha
  refine stepp ha 26 (.int .u64 t51.1) KR KR ?_; clear ha a; intro a ha
  refine stepp ha 27 (.int .u64 t51.2) KR KR ?_; clear ha a; intro a ha
  refine stepp ha 8 (.int .u64 t51.1) KR KR ?_; clear ha a; intro a ha
  refine stepp ha 9 (.int .u64 t51.2) KR KR ?_; clear ha a; intro a ha
  refine endl ?_
  refine thenN (hK50 _ _ ?_); clear hK50
  refine wp_seq_k (fun K55 hK56 => ?_)
  refine wp_region_lit ?_
  refine stepp ha 28 (.int .u64 t51.1) KR KR ?_; clear ha a; intro a ha
  refine stepp ha 29 (.int .u64 t51.2) KR KR ?_; clear ha a; intro a ha
  refine stepp ha 4 (.int .u64 t51.1) KR KR ?_; clear ha a; intro a ha
  refine stepp ha 5 (.int .u64 t51.2) KR KR ?_; clear ha a; intro a ha
  refine endl ?_
  refine thenN (hK56 _ _ ?_); clear hK56
  refine wp_ret ?_
  obtain rfl := Option.some.inj h
  exact finv ha _ _ rfl (.tmp (v := .int .u64 t51.1) KR (.tmp (v := .int .u64 t51.2) KR .nil)) (.tuple #[.int .u64 t51.1, .int .u64 t51.2]) rfl ⟨rfl, HW.pick [] [] (by decide) (by decide) rfl KR⟩
/-! ### internal/stringslite.HasPrefix: function 56 -/
def stringslite_HasPrefix.f (a0 : ByteArray) (a1 : ByteArray) : Option Bool :=
  if (a0.size : Int) ≥ (a1.size : Int) then (asrt (0 ≤ (a1.size : Int)) (asrt ((a1.size : Int) ≤ (a0.size : Int)) (some ((a0.extract 0 ((a1.size : Int) : Int).toNat).toList == a1.toList)))) else (some false)
set_option maxRecDepth 100000 in
set_option maxHeartbeats 4000000 in
theorem stringslite_HasPrefix.calls (a0 : ByteArray) (a1 : ByteArray)  (r : Bool) (w : World)  (h : stringslite_HasPrefix.f a0 a1 = some r) :
    Calls Tryd.prog 56 #[.string a0, .string a1] w (fun e W' => e = .returned (.bool r) ∧ Wd w W' [] [] ) := by
  refine sxstart (n := 18) (l := [(0, .string a0), (1, .string a1)]) Tryd.func56 rfl rfl (Nat.le_of_ble_eq_true KR) (subsA_cons rfl (subsA_cons rfl (subsA_nil _))) ?_
  intro a ha
  have HW := Wd.refl w
  unfold stringslite_HasPrefix.f at h
  refine wp_seq_k (fun K57 hK58 => ?_)
  refine wp_region_lit ?_
  refine stepp ha 4 (.bool false) KR KR ?_; clear ha a; intro a ha
  refine endl ?_
  refine thenN (hK58 _ _ ?_); clear hK58
  refine wp_seq_k (fun K59 hK60 => ?_)
  refine wp_region_lit ?_
  refine stepp ha 5 (.string a0) KR KR ?_; clear ha a; intro a ha
  refine stepp ha 6 (.int .i64 (a0.size : Int)) KR KR ?_; clear ha a; intro a ha
  refine stepp ha 7 (.string a1) KR KR ?_; clear ha a; intro a ha
  refine stepp ha 8 (.int .i64 (a1.size : Int)) KR KR ?_; clear ha a; intro a ha
  refine stepp ha 9 (.bool (decide ((a0.size : Int) ≥ (a1.size : Int)))) KR KR ?_; clear ha a; intro a ha
  refine stepp ha 10 (.bool (decide ((a0.size : Int) ≥ (a1.size : Int)))) KR KR ?_; clear ha a; intro a ha
  by_cases hp61 : (a0.size : Int) ≥ (a1.size : Int)
  · skip
    replace h := ite_pos' h hp61
    replace ha := ha.bool 10 KR (decide_eq_true hp61)
    refine stepp ha 11 (.string a0) KR KR ?_; clear ha a; intro a ha
    refine stepp ha 12 (.string a1) KR KR ?_; clear ha a; intro a ha
    refine stepp ha 13 (.int .i64 (a1.size : Int)) KR KR ?_; clear ha a; intro a ha
    obtain ⟨hA62, h_⟩ := asrt_some h; clear h; have h := h_; clear h_
    obtain ⟨hA63, h_⟩ := asrt_some h; clear h; have h := h_; clear h_
    refine stepssh ha 14 9 (.tmp 11) (.tmp 13) a0 .i64 (a1.size : Int) rfl KR KR KR hA62 (show ((a1.size : Int) : Int) ≤ ((a0).size : Int) from hA63) KR ?_; clear ha a; intro a ha
    refine stepp ha 15 (.string a1) KR KR ?_; clear ha a; intro a ha
    refine stepp ha 16 (.bool ((a0.extract 0 ((a1.size : Int) : Int).toNat).toList == a1.toList)) KR KR ?_; clear ha a; intro a ha
    refine stepp ha 17 (.bool ((a0.extract 0 ((a1.size : Int) : Int).toNat).toList == a1.toList)) KR KR ?_; clear ha a; intro a ha
    refine stepp ha 4 (.bool ((a0.extract 0 ((a1.size : Int) : Int).toNat).toList == a1.toList)) KR KR ?_; clear ha a; intro a ha
    refine endl ?_
    refine thenN (hK60 _ _ ?_); clear hK60
    refine wp_ret ?_
    obtain rfl := Option.some.inj h
    exact finv ha _ _ rfl (.tmp (v := .bool ((a0.extract 0 ((a1.size : Int) : Int).toNat).toList == a1.toList)) KR .nil) (.bool ((a0.extract 0 ((a1.size : Int) : Int).toNat).toList == a1.toList)) rfl ⟨rfl, HW.pick [] [] (by decide) (by decide) rfl KR⟩
  · skip
    replace h := ite_neg' h hp61
    replace ha := ha.bool 10 KR (decide_eq_false hp61)
    refine stepo ha 11 KR ?_; clear ha a; intro a ha
    refine stepo ha 12 KR ?_; clear ha a; intro a ha
    refine stepo ha 13 KR ?_; clear ha a; intro a ha
    refine stepo ha 14 KR ?_; clear ha a; intro a ha
    refine stepo ha 15 KR ?_; clear ha a; intro a ha
    refine stepo ha 16 KR ?_; clear ha a; intro a ha
    refine stepp ha 17 (.bool false) KR KR ?_; clear ha a; intro a ha
    refine stepp ha 4 (.bool false) KR KR ?_; clear ha a; intro a ha
    refine endl ?_
    refine thenN (hK60 _ _ ?_); clear hK60
    refine wp_ret ?_
    obtain rfl := Option.some.inj h
    exact finv ha _ _ rfl (.tmp (v := .bool false) KR .nil) (.bool false) rfl ⟨rfl, HW.pick [] [] (by decide) (by decide) rfl KR⟩
/-! ### strings.HasPrefix: function 38 -/
def strings_HasPrefix.f (a0 : ByteArray) (a1 : ByteArray) : Option Bool :=
  (stringslite_HasPrefix.f a0 a1).bind fun t68 => (some t68)
set_option maxRecDepth 100000 in
set_option maxHeartbeats 4000000 in
theorem strings_HasPrefix.calls (a0 : ByteArray) (a1 : ByteArray)  (r : Bool) (w : World)  (h : strings_HasPrefix.f a0 a1 = some r) :
    Calls Tryd.prog 38 #[.string a0, .string a1] w (fun e W' => e = .returned (.bool r) ∧ Wd w W' [] [] ) := by
  refine sxstart (n := 8) (l := [(0, .string a0), (1, .string a1)]) Tryd.func38 rfl rfl (Nat.le_of_ble_eq_true KR) (subsA_cons rfl (subsA_cons rfl (subsA_nil _))) ?_
  intro a ha
  have HW := Wd.refl w
  unfold strings_HasPrefix.f at h
  refine wp_seq_k (fun K64 hK65 => ?_)
  refine wp_region_lit ?_
  refine stepp ha 4 (.bool false) KR KR ?_; clear ha a; intro a ha
  refine endl ?_
  refine thenN (hK65 _ _ ?_); clear hK65
  refine wp_seq_k (fun K66 hK67 => ?_)
  refine wp_region_lit ?_
  refine stepp ha 5 (.string a0) KR KR ?_; clear ha a; intro a ha
  refine stepp ha 6 (.string a1) KR KR ?_; clear ha a; intro a ha
  obtain ⟨t68, ht69, h_⟩ := bind_some' h; clear h; have h := h_; clear h_
  refine stepc ha 7 KR KR (stringslite_HasPrefix.calls a0 a1 t68 _ ht69) ?_; clear ha a; rintro e W70 ⟨rfl, HX71⟩
  refine ⟨_, rfl, ?_⟩; intro a ha; replace HW := HW.callw HX71; clear HX71
  refine stepp ha 4 (.bool t68) KR KR ?_; clear ha a; intro a ha
  refine endl ?_
  refine thenN (hK67 _ _ ?_); clear hK67
  refine wp_ret ?_
  obtain rfl := Option.some.inj h
  exact finv ha _ _ rfl (.tmp (v := .bool t68) KR .nil) (.bool t68) rfl ⟨rfl, HW.pick [] [] (by decide) (by decide) rfl KR⟩
/-! ### headgate/fields.shifts: function 72 -/
def fields_shifts.b0 (K : Nat) (a0 : Int) (a1 : Bool) (again170 : (List Int) → Int → Option (List Int)) (x171 : List Int) (x175 : Int) : Option (List Int) :=
  if x175 < a0 then (if a1 = true then (asrt (x171.length + ([IntKind.wrap .i64 (8 * (IntKind.wrap .i64 ((IntKind.wrap .i64 (a0 - 1)) - x175)))] : List Int).length ≤ 17592186044416) (again170 (x171 ++ ([IntKind.wrap .i64 (8 * (IntKind.wrap .i64 ((IntKind.wrap .i64 (a0 - 1)) - x175)))] : List Int)) (IntKind.wrap .i64 (x175 + 1)))) else (asrt (x171.length + ([IntKind.wrap .i64 (8 * x175)] : List Int).length ≤ 17592186044416) (again170 (x171 ++ ([IntKind.wrap .i64 (8 * x175)] : List Int)) (IntKind.wrap .i64 (x175 + 1))))) else (some x171)
def fields_shifts.l0 (K : Nat) (a0 : Int) (a1 : Bool) : Nat → (List Int) → Int → Option (List Int)
  | 0, _, _ => none
  | k_ + 1, x171, x175 => fields_shifts.b0 K a0 a1 (fields_shifts.l0 K a0 a1 k_) x171 x175
def fields_shifts.f (K : Nat) (a0 : Int) (a1 : Bool) : Option (List Int) :=
  fields_shifts.l0 K a0 a1 K ([] : List Int) 0
set_option maxRecDepth 100000 in
set_option maxHeartbeats 4000000 in
theorem fields_shifts.calls (K : Nat) (a0 : Int) (a1 : Bool)  (r : List Int) (w : World)  (h : fields_shifts.f K a0 a1 = some r) :
    Calls Tryd.prog 72 #[.int .i64 a0, .bool a1] w (fun e W' => ∃ A_0 c_0, e = .returned (.slice A_0 r.length c_0) ∧ Wd w W' [] [⟨3, 1, .slice A_0 r.length c_0, r.length, encs (encI .i64) r⟩] ) := by
  refine sxstart (n := 27) (l := [(0, .int .i64 a0), (1, .bool a1)]) Tryd.func72 rfl rfl (Nat.le_of_ble_eq_true KR) (subsA_cons rfl (subsA_cons rfl (subsA_nil _))) ?_
  intro a ha
  have HW := Wd.refl w
  unfold fields_shifts.f at h
  refine wp_seq_k (fun K93 hK94 => ?_)
  refine wp_region_lit ?_
  refine stepp ha 4 (.slice none 0 0) KR KR ?_; clear ha a; intro a ha
  refine endl ?_
  refine thenN (hK94 _ _ ?_); clear hK94
  refine wp_seq_k (fun K95 hK96 => ?_)
  refine wp_region_lit ?_
  refine stepp ha 5 (.slice none 0 0) KR KR ?_; clear ha a; intro a ha
  refine endl ?_
  refine thenN (hK96 _ _ ?_); clear hK96
  refine wp_seq_k (fun K97 hK98 => ?_)
  refine wp_seq_k (fun K99 hK100 => ?_)
  refine wp_region_lit ?_
  refine stepp ha 7 (.int .i64 a0) KR KR ?_; clear ha a; intro a ha
  refine stepp ha 8 (.int .i64 0) KR KR ?_; clear ha a; intro a ha
  refine endl ?_
  refine thenN (hK100 _ _ ?_); clear hK100
  refine wp_block ?_
  refine loopk (fun k => fun a W176 => ∃ (x171 : List Int), ∃ A172, ∃ c173, ∃ (x175 : Int), fields_shifts.l0 K a0 a1 k x171 x175 = some r ∧ Has 27 [(0, .int .i64 a0), (1, .bool a1), (5, .slice A172 x171.length c173), (7, .int .i64 a0), (8, .int .i64 x175)] a ∧ Wd w W176 [] [⟨3, 1, .slice A172 x171.length c173, x171.length, encs (encI .i64) x171⟩]) K ?_ ?_
  · skip
    replace HW := HW.nilo 3 1
    exact ⟨([] : List Int), none, 0, 0, h, ha.sub (subs_cons KR (subs_cons KR (subs_cons KR (subs_cons KR (subs_cons KR (subs_nil _)))))), HW.pick [] [0] (by decide) (by decide) KR KR⟩
  · skip
    intro k a W176 hI
    obtain ⟨x171, A172, c173, x175, h, ha, HW⟩ := hI
    cases k with
    | zero => exact (none_some (show none = some r from h)).elim
    | succ k177 =>
      replace h : fields_shifts.b0 K a0 a1 (fields_shifts.l0 K a0 a1 k177) x171 x175 = some r := h
      obtain ⟨again170, hag178⟩ : ∃ g_, g_ = fields_shifts.l0 K a0 a1 k177 := ⟨_, rfl⟩
      rw [← hag178] at h
      unfold fields_shifts.b0 at h
      refine wp_seq_k (fun K179 hK180 => ?_)
      refine wp_region_lit ?_
      refine stepp ha 9 (.bool (decide (x175 < a0))) KR KR ?_; clear ha a; intro a ha
      refine endl ?_
      refine thenN (hK180 _ _ ?_); clear hK180
      refine wp_seq_k (fun K181 hK182 => ?_)
      by_cases hp183 : x175 < a0
      · skip
        replace h := ite_pos' h hp183
        refine condT ha KR KR (t := decide (x175 < a0)) (decide_eq_true hp183) ?_
        refine wp_skip ?_
        refine thenN (hK182 _ _ ?_); clear hK182
        refine wp_seq_k (fun K184 hK185 => ?_)
        refine wp_block ?_
        refine wp_seq_k (fun K186 hK187 => ?_)
        refine wp_region_lit ?_
        refine stepp ha 10 (.int .i64 x175) KR KR ?_; clear ha a; intro a ha
        refine stepp ha 6 (.int .i64 x175) KR KR ?_; clear ha a; intro a ha
        refine endl ?_
        refine thenN (hK187 _ _ ?_); clear hK187
        refine wp_seq_k (fun K188 hK189 => ?_)
        refine wp_region_lit ?_
        refine stepp ha 11 (.bool a1) KR KR ?_; clear ha a; intro a ha
        refine endl ?_
        refine thenN (hK189 _ _ ?_); clear hK189
        by_cases hp190 : a1 = true
        · skip
          replace h := ite_pos' h hp190
          refine condT ha KR KR (t := a1) (hp190) ?_
          refine wp_region_lit ?_
          refine stepp ha 12 (.slice A172 x171.length c173) KR KR ?_; clear ha a; intro a ha
          refine stepp ha 13 (.int .i64 a0) KR KR ?_; clear ha a; intro a ha
          refine stepp ha 14 (.int .i64 (IntKind.wrap .i64 (a0 - 1))) KR KR ?_; clear ha a; intro a ha
          refine stepp ha 15 (.int .i64 x175) KR KR ?_; clear ha a; intro a ha
          refine stepp ha 16 (.int .i64 (IntKind.wrap .i64 ((IntKind.wrap .i64 (a0 - 1)) - x175))) KR KR ?_; clear ha a; intro a ha
          refine stepp ha 17 (.int .i64 (IntKind.wrap .i64 (8 * (IntKind.wrap .i64 ((IntKind.wrap .i64 (a0 - 1)) - x175))))) KR KR ?_; clear ha a; intro a ha
          refine stepbs ha HW 18 3 1 1 #[.int .i64 (IntKind.wrap .i64 (8 * (IntKind.wrap .i64 ((IntKind.wrap .i64 (a0 - 1)) - x175))))] [.int .i64 (IntKind.wrap .i64 (8 * (IntKind.wrap .i64 ((IntKind.wrap .i64 (a0 - 1)) - x175))))] (by decide) KR KR KR KR ?_; clear ha HW a; intro b191 a W192 HW ha
          replace HW : Wd w W192 [] [⟨3, 1, .slice (some ⟨b191, 0, none⟩) ([IntKind.wrap .i64 (8 * (IntKind.wrap .i64 ((IntKind.wrap .i64 (a0 - 1)) - x175)))] : List Int).length 1, ([IntKind.wrap .i64 (8 * (IntKind.wrap .i64 ((IntKind.wrap .i64 (a0 - 1)) - x175)))] : List Int).length, encs (encI .i64) ([IntKind.wrap .i64 (8 * (IntKind.wrap .i64 ((IntKind.wrap .i64 (a0 - 1)) - x175)))] : List Int)⟩, ⟨3, 1, .slice A172 x171.length c173, x171.length, encs (encI .i64) x171⟩] := HW
          replace ha := ha.turn 18 (v := .slice (some ⟨b191, 0, none⟩) ([IntKind.wrap .i64 (8 * (IntKind.wrap .i64 ((IntKind.wrap .i64 (a0 - 1)) - x175)))] : List Int).length 1) KR rfl
          obtain ⟨hA194, h_⟩ := asrt_some h; clear h; have h := h_; clear h_
          refine stepape (encI .i64) ha HW 19 1 23 3 (.tmp 12) (.tmp 18) (.int .i64 0) 1 8 (.slice A172 x171.length c173) x171 (.slice (some ⟨b191, 0, none⟩) ([IntKind.wrap .i64 (8 * (IntKind.wrap .i64 ((IntKind.wrap .i64 (a0 - 1)) - x175)))] : List Int).length 1) ([IntKind.wrap .i64 (8 * (IntKind.wrap .i64 ((IntKind.wrap .i64 (a0 - 1)) - x175)))] : List Int) KR rfl KR KR (HW.rdo (i := 0) (q := ⟨3, 1, .slice (some ⟨b191, 0, none⟩) ([IntKind.wrap .i64 (8 * (IntKind.wrap .i64 ((IntKind.wrap .i64 (a0 - 1)) - x175)))] : List Int).length 1, ([IntKind.wrap .i64 (8 * (IntKind.wrap .i64 ((IntKind.wrap .i64 (a0 - 1)) - x175)))] : List Int).length, encs (encI .i64) ([IntKind.wrap .i64 (8 * (IntKind.wrap .i64 ((IntKind.wrap .i64 (a0 - 1)) - x175)))] : List Int)⟩) KR) (fun _ => rfl) KR KR KR (by decide) (by have := hA194; unfold maxLen; omega) (by have := hA194; omega) KR ?_; clear ha HW a; intro A195 c196 a W197 HW ha
          refine stepp ha 5 (.slice A195 (x171 ++ ([IntKind.wrap .i64 (8 * (IntKind.wrap .i64 ((IntKind.wrap .i64 (a0 - 1)) - x175)))] : List Int)).length c196) KR KR ?_; clear ha a; intro a ha
          refine endl ?_
          refine blkN ?_
          refine thenN (hK185 _ _ ?_); clear hK185
          refine wp_region_lit ?_
          refine stepp ha 25 (.int .i64 (IntKind.wrap .i64 (x175 + 1))) KR KR ?_; clear ha a; intro a ha
          refine stepp ha 8 (.int .i64 (IntKind.wrap .i64 (x175 + 1))) KR KR ?_; clear ha a; intro a ha
          refine endl ?_
          exact thenN ⟨k177, Nat.lt_succ_self k177, x171 ++ ([IntKind.wrap .i64 (8 * (IntKind.wrap .i64 ((IntKind.wrap .i64 (a0 - 1)) - x175)))] : List Int), A195, c196, IntKind.wrap .i64 (x175 + 1), (by rw [← hag178]; exact h), ha.sub (subs_cons KR (subs_cons KR (subs_cons KR (subs_cons KR (subs_cons KR (subs_nil _)))))), HW.pick [] [1] (by decide) (by decide) KR KR⟩
        · skip
          replace h := ite_neg' h hp190
          refine condF ha KR KR (t := a1) (bool_f hp190) ?_
          refine wp_region_lit ?_
          refine stepp ha 20 (.slice A172 x171.length c173) KR KR ?_; clear ha a; intro a ha
          refine stepp ha 21 (.int .i64 x175) KR KR ?_; clear ha a; intro a ha
          refine stepp ha 22 (.int .i64 (IntKind.wrap .i64 (8 * x175))) KR KR ?_; clear ha a; intro a ha
          refine stepbs ha HW 23 3 1 1 #[.int .i64 (IntKind.wrap .i64 (8 * x175))] [.int .i64 (IntKind.wrap .i64 (8 * x175))] (by decide) KR KR KR KR ?_; clear ha HW a; intro b200 a W201 HW ha
          replace HW : Wd w W201 [] [⟨3, 1, .slice (some ⟨b200, 0, none⟩) ([IntKind.wrap .i64 (8 * x175)] : List Int).length 1, ([IntKind.wrap .i64 (8 * x175)] : List Int).length, encs (encI .i64) ([IntKind.wrap .i64 (8 * x175)] : List Int)⟩, ⟨3, 1, .slice A172 x171.length c173, x171.length, encs (encI .i64) x171⟩] := HW
          replace ha := ha.turn 23 (v := .slice (some ⟨b200, 0, none⟩) ([IntKind.wrap .i64 (8 * x175)] : List Int).length 1) KR rfl
          obtain ⟨hA203, h_⟩ := asrt_some h; clear h; have h := h_; clear h_
          refine stepape (encI .i64) ha HW 24 1 23 3 (.tmp 20) (.tmp 23) (.int .i64 0) 1 8 (.slice A172 x171.length c173) x171 (.slice (some ⟨b200, 0, none⟩) ([IntKind.wrap .i64 (8 * x175)] : List Int).length 1) ([IntKind.wrap .i64 (8 * x175)] : List Int) KR rfl KR KR (HW.rdo (i := 0) (q := ⟨3, 1, .slice (some ⟨b200, 0, none⟩) ([IntKind.wrap .i64 (8 * x175)] : List Int).length 1, ([IntKind.wrap .i64 (8 * x175)] : List Int).length, encs (encI .i64) ([IntKind.wrap .i64 (8 * x175)] : List Int)⟩) KR) (fun _ => rfl) KR KR KR (by decide) (by have := hA203; unfold maxLen; omega) (by have := hA203; omega) KR ?_; clear ha HW a; intro A204 c205 a W206 HW ha
          refine stepp ha 5 (.slice A204 (x171 ++ ([IntKind.wrap .i64 (8 * x175)] : List Int)).length c205) KR KR ?_; clear ha a; intro a ha
          refine endl ?_
          refine blkN ?_
          refine thenN (hK185 _ _ ?_); clear hK185
          refine wp_region_lit ?_
          refine stepp ha 25 (.int .i64 (IntKind.wrap .i64 (x175 + 1))) KR KR ?_; clear ha a; intro a ha
          refine stepp ha 8 (.int .i64 (IntKind.wrap .i64 (x175 + 1))) KR KR ?_; clear ha a; intro a ha
          refine endl ?_
          exact thenN ⟨k177, Nat.lt_succ_self k177, x171 ++ ([IntKind.wrap .i64 (8 * x175)] : List Int), A204, c205, IntKind.wrap .i64 (x175 + 1), (by rw [← hag178]; exact h), ha.sub (subs_cons KR (subs_cons KR (subs_cons KR (subs_cons KR (subs_cons KR (subs_nil _)))))), HW.pick [] [1] (by decide) (by decide) KR KR⟩
      · skip
        replace h := ite_neg' h hp183
        refine condF ha KR KR (t := decide (x175 < a0)) (decide_eq_false hp183) ?_
        refine wp_exit ?_
        refine thenE ?_
        refine thenE ?_
        refine inBlk ?_
        refine thenN (hK98 _ _ ?_); clear hK98
        refine wp_seq_k (fun K209 hK210 => ?_)
        refine wp_region_lit ?_
        refine stepp ha 26 (.slice A172 x171.length c173) KR KR ?_; clear ha a; intro a ha
        refine stepp ha 4 (.slice A172 x171.length c173) KR KR ?_; clear ha a; intro a ha
        refine endl ?_
        refine thenN (hK210 _ _ ?_); clear hK210
        refine wp_ret ?_
        obtain rfl := Option.some.inj h
        exact finv ha _ _ rfl (.tmp (v := .slice A172 x171.length c173) KR .nil) (.slice A172 x171.length c173) rfl ⟨A172, c173, rfl, HW.pick [] [0] (by decide) (by decide) rfl KR⟩
/-! ### headgate/fields.put[uint64]: function 62 -/
def fields_put_uint64.b0 (K : Nat) (a0 : Int) (t229 : List Int) (again290 : (List Int) → Int → Option ByteArray) (x291 : List Int) (x295 : Int) : Option ByteArray :=
  if x295 < (t229.length : Int) then (asrt (0 ≤ x295) (asrt (0 ≤ (rdL (0 : Int) t229 x295)) (asrt (x291.length + ([IntKind.wrap .u8 (sshr .u64 a0 (rdL (0 : Int) t229 x295))] : List Int).length ≤ 140737488355328) (again290 (x291 ++ ([IntKind.wrap .u8 (sshr .u64 a0 (rdL (0 : Int) t229 x295))] : List Int)) (IntKind.wrap .i64 (x295 + 1)))))) else (some (strOfNums x291))
def fields_put_uint64.l0 (K : Nat) (a0 : Int) (t229 : List Int) : Nat → (List Int) → Int → Option ByteArray
  | 0, _, _ => none
  | k_ + 1, x291, x295 => fields_put_uint64.b0 K a0 t229 (fields_put_uint64.l0 K a0 t229 k_) x291 x295
def fields_put_uint64.f (K : Nat) (a0 : Int) (a1 : Int) (a2 : Bool) : Option ByteArray :=
  if a1 < 1 then (some (⟨#[]⟩ : ByteArray)) else (if a1 > 8 then (some (⟨#[]⟩ : ByteArray)) else ((fields_shifts.f K a1 a2).bind fun t229 => (fields_put_uint64.l0 K a0 t229 K ([] : List Int) 0)))
set_option maxRecDepth 100000 in
set_option maxHeartbeats 4000000 in
theorem fields_put_uint64.calls (K : Nat) (a0 : Int) (a1 : Int) (a2 : Bool)  (r : ByteArray) (w : World)  (h : fields_put_uint64.f K a0 a1 a2 = some r) :
    Calls Tryd.prog 62 #[.int .u64 a0, .int .i64 a1, .bool a2] w (fun e W' => e = .returned (.string r) ∧ Wd w W' [] [] ) := by
  refine sxstart (n := 34) (l := [(0, .int .u64 a0), (1, .int .i64 a1), (2, .bool a2)]) Tryd.func62 rfl rfl (Nat.le_of_ble_eq_true KR) (subsA_cons rfl (subsA_cons rfl (subsA_cons rfl (subsA_nil _)))) ?_
  intro a ha
  have HW := Wd.refl w
  unfold fields_put_uint64.f at h
  refine wp_seq_k (fun K211 hK212 => ?_)
  refine wp_region_lit ?_
  refine stepp ha 6 (.string (⟨#[]⟩ : ByteArray)) KR KR ?_; clear ha a; intro a ha
  refine endl ?_
  refine thenN (hK212 _ _ ?_); clear hK212
  refine wp_seq_k (fun K213 hK214 => ?_)
  refine wp_seq_k (fun K215 hK216 => ?_)
  refine wp_region_lit ?_
  refine stepp ha 10 (.int .i64 a1) KR KR ?_; clear ha a; intro a ha
  refine stepp ha 11 (.bool (decide (a1 < 1))) KR KR ?_; clear ha a; intro a ha
  refine stepp ha 12 (.bool (decide (a1 < 1))) KR KR ?_; clear ha a; intro a ha
  by_cases hp217 : a1 < 1
  · skip
    replace h := ite_pos' h hp217
    replace ha := ha.bool 12 KR (decide_eq_true hp217)
    refine stepo ha 13 KR ?_; clear ha a; intro a ha
    refine stepo ha 14 KR ?_; clear ha a; intro a ha
    refine stepp ha 15 (.bool true) KR KR ?_; clear ha a; intro a ha
    refine endl ?_
    refine thenN (hK216 _ _ ?_); clear hK216
    refine condT ha KR KR (t := true) (rfl) ?_
    refine wp_seq_k (fun K218 hK219 => ?_)
    refine wp_region_lit ?_
    refine stepp ha 6 (.string (⟨#[]⟩ : ByteArray)) KR KR ?_; clear ha a; intro a ha
    refine endl ?_
    refine thenN (hK219 _ _ ?_); clear hK219
    refine wp_ret ?_
    refine thenR ?_
    obtain rfl := Option.some.inj h
    exact finv ha _ _ rfl (.tmp (v := .string (⟨#[]⟩ : ByteArray)) KR .nil) (.string (⟨#[]⟩ : ByteArray)) rfl ⟨rfl, HW.pick [] [] (by decide) (by decide) rfl KR⟩
  · skip
    replace h := ite_neg' h hp217
    replace ha := ha.bool 12 KR (decide_eq_false hp217)
    refine stepp ha 13 (.int .i64 a1) KR KR ?_; clear ha a; intro a ha
    refine stepp ha 14 (.bool (decide (a1 > 8))) KR KR ?_; clear ha a; intro a ha
    refine stepp ha 15 (.bool (decide (a1 > 8))) KR KR ?_; clear ha a; intro a ha
    refine endl ?_
    refine thenN (hK216 _ _ ?_); clear hK216
    by_cases hp220 : a1 > 8
    · skip
      replace h := ite_pos' h hp220
      refine condT ha KR KR (t := decide (a1 > 8)) (decide_eq_true hp220) ?_
      refine wp_seq_k (fun K221 hK222 => ?_)
      refine wp_region_lit ?_
      refine stepp ha 6 (.string (⟨#[]⟩ : ByteArray)) KR KR ?_; clear ha a; intro a ha
      refine endl ?_
      refine thenN (hK222 _ _ ?_); clear hK222
      refine wp_ret ?_
      refine thenR ?_
      obtain rfl := Option.some.inj h
      exact finv ha _ _ rfl (.tmp (v := .string (⟨#[]⟩ : ByteArray)) KR .nil) (.string (⟨#[]⟩ : ByteArray)) rfl ⟨rfl, HW.pick [] [] (by decide) (by decide) rfl KR⟩
    · skip
      replace h := ite_neg' h hp220
      refine condF ha KR KR (t := decide (a1 > 8)) (decide_eq_false hp220) ?_
      refine wp_skip ?_
      refine thenN (hK214 _ _ ?_); clear hK214
      refine wp_seq_k (fun K223 hK224 => ?_)
      refine wp_region_lit ?_
      refine stepp ha 7 (.slice none 0 0) KR KR ?_; clear ha a; intro a ha
      refine endl ?_
      refine thenN (hK224 _ _ ?_); clear hK224
      refine wp_seq_k (fun K225 hK226 => ?_)
      refine wp_seq_k (fun K227 hK228 => ?_)
      refine wp_region_lit ?_
      refine stepp ha 16 (.int .i64 a1) KR KR ?_; clear ha a; intro a ha
      refine stepp ha 17 (.bool a2) KR KR ?_; clear ha a; intro a ha
      obtain ⟨t229, ht230, h_⟩ := bind_some' h; clear h; have h := h_; clear h_
      refine stepc ha 18 KR KR (fields_shifts.calls K a1 a2 t229 _ ht230) ?_; clear ha a; rintro e W234 ⟨A231, c232, rfl, HX235⟩
      refine ⟨_, rfl, ?_⟩; intro a ha; replace HW := HW.callw HX235; clear HX235
      refine stepp ha 19 (.int .i64 (t229.length : Int)) KR KR ?_; clear ha a; intro a ha
      refine stepp ha 20 (.int .i64 0) KR KR ?_; clear ha a; intro a ha
      refine endl ?_
      refine thenN (hK228 _ _ ?_); clear hK228
      refine wp_block ?_
      refine loopk (fun k => fun a W296 => ∃ (x291 : List Int), ∃ A292, ∃ c293, ∃ (x295 : Int), fields_put_uint64.l0 K a0 t229 k x291 x295 = some r ∧ Has 34 [(0, .int .u64 a0), (7, .slice A292 x291.length c293), (18, .slice A231 t229.length c232), (19, .int .i64 (t229.length : Int)), (20, .int .i64 x295)] a ∧ Wd w W296 [] [⟨5, 1, .slice A292 x291.length c293, x291.length, encs (encI .u8) x291⟩, ⟨3, 1, .slice A231 t229.length c232, t229.length, encs (encI .i64) t229⟩]) K ?_ ?_
      · skip
        replace HW := HW.nilo 5 1
        exact ⟨([] : List Int), none, 0, 0, h, ha.sub (subs_cons KR (subs_cons KR (subs_cons KR (subs_cons KR (subs_cons KR (subs_nil _)))))), HW.pick [] [0, 1] (by decide) (by decide) KR KR⟩
      · skip
        intro k a W296 hI
        obtain ⟨x291, A292, c293, x295, h, ha, HW⟩ := hI
        cases k with
        | zero => exact (none_some (show none = some r from h)).elim
        | succ k297 =>
          replace h : fields_put_uint64.b0 K a0 t229 (fields_put_uint64.l0 K a0 t229 k297) x291 x295 = some r := h
          obtain ⟨again290, hag298⟩ : ∃ g_, g_ = fields_put_uint64.l0 K a0 t229 k297 := ⟨_, rfl⟩
          rw [← hag298] at h
          unfold fields_put_uint64.b0 at h
          refine wp_seq_k (fun K299 hK300 => ?_)
          refine wp_region_lit ?_
          refine stepp ha 21 (.bool (decide (x295 < (t229.length : Int)))) KR KR ?_; clear ha a; intro a ha
          refine endl ?_
          refine thenN (hK300 _ _ ?_); clear hK300
          refine wp_seq_k (fun K301 hK302 => ?_)
          by_cases hp303 : x295 < (t229.length : Int)
          · skip
            replace h := ite_pos' h hp303
            refine condT ha KR KR (t := decide (x295 < (t229.length : Int))) (decide_eq_true hp303) ?_
            refine wp_skip ?_
            refine thenN (hK302 _ _ ?_); clear hK302
            refine wp_seq_k (fun K304 hK305 => ?_)
            refine wp_block ?_
            refine wp_seq_k (fun K306 hK307 => ?_)
            refine wp_region_lit ?_
            obtain ⟨hA308, h_⟩ := asrt_some h; clear h; have h := h_; clear h_
            refine stepie (encI .i64) (0 : Int) ha 22 (fun _ => rfl) (v := .slice A231 t229.length c232) (xs := t229) (HW.rdo (i := 1) (q := ⟨3, 1, .slice A231 t229.length c232, t229.length, encs (encI .i64) t229⟩) KR) 23 3 (.tmp 18) (.tmp 20) .i64 x295 rfl KR KR KR KR hA308 (show (x295 : Int) < ((t229).length : Int) from hp303) KR ?_; clear ha a; intro b309 off310 a hC311 ha
            refine stepl ha 23 hC311 3 0 (.tmp 22) (.int .i64 (rdL (0 : Int) t229 x295)) rfl KR KR KR ?_; clear ha a; intro a ha
            refine stepp ha 9 (.int .i64 (rdL (0 : Int) t229 x295)) KR KR ?_; clear ha a; intro a ha
            refine endl ?_
            refine thenN (hK307 _ _ ?_); clear hK307
            refine wp_region_lit ?_
            refine stepp ha 24 (.slice A292 x291.length c293) KR KR ?_; clear ha a; intro a ha
            refine stepp ha 25 (.int .u64 a0) KR KR ?_; clear ha a; intro a ha
            refine stepp ha 26 (.int .i64 (rdL (0 : Int) t229 x295)) KR KR ?_; clear ha a; intro a ha
            obtain ⟨hA312, h_⟩ := asrt_some h; clear h; have h := h_; clear h_
            refine stepshr ha 27 68 3 (.tmp 25) (.tmp 26) .u64 .i64 a0 (rdL (0 : Int) t229 x295) rfl KR KR hA312 KR ?_; clear ha a; intro a ha
            refine stepp ha 28 (.int .u8 (IntKind.wrap .u8 (sshr .u64 a0 (rdL (0 : Int) t229 x295)))) KR KR ?_; clear ha a; intro a ha
            refine stepbs ha HW 29 5 1 1 #[.int .u8 (IntKind.wrap .u8 (sshr .u64 a0 (rdL (0 : Int) t229 x295)))] [.int .u8 (IntKind.wrap .u8 (sshr .u64 a0 (rdL (0 : Int) t229 x295)))] (by decide) KR KR KR KR ?_; clear ha HW a; intro b313 a W314 HW ha
            replace HW : Wd w W314 [] [⟨5, 1, .slice (some ⟨b313, 0, none⟩) ([IntKind.wrap .u8 (sshr .u64 a0 (rdL (0 : Int) t229 x295))] : List Int).length 1, ([IntKind.wrap .u8 (sshr .u64 a0 (rdL (0 : Int) t229 x295))] : List Int).length, encs (encI .u8) ([IntKind.wrap .u8 (sshr .u64 a0 (rdL (0 : Int) t229 x295))] : List Int)⟩, ⟨5, 1, .slice A292 x291.length c293, x291.length, encs (encI .u8) x291⟩, ⟨3, 1, .slice A231 t229.length c232, t229.length, encs (encI .i64) t229⟩] := HW
            replace ha := ha.turn 29 (v := .slice (some ⟨b313, 0, none⟩) ([IntKind.wrap .u8 (sshr .u64 a0 (rdL (0 : Int) t229 x295))] : List Int).length 1) KR rfl
            obtain ⟨hA316, h_⟩ := asrt_some h; clear h; have h := h_; clear h_
            refine stepape (encI .u8) ha HW 30 1 71 5 (.tmp 24) (.tmp 29) (.int .u8 0) 1 1 (.slice A292 x291.length c293) x291 (.slice (some ⟨b313, 0, none⟩) ([IntKind.wrap .u8 (sshr .u64 a0 (rdL (0 : Int) t229 x295))] : List Int).length 1) ([IntKind.wrap .u8 (sshr .u64 a0 (rdL (0 : Int) t229 x295))] : List Int) KR rfl KR KR (HW.rdo (i := 0) (q := ⟨5, 1, .slice (some ⟨b313, 0, none⟩) ([IntKind.wrap .u8 (sshr .u64 a0 (rdL (0 : Int) t229 x295))] : List Int).length 1, ([IntKind.wrap .u8 (sshr .u64 a0 (rdL (0 : Int) t229 x295))] : List Int).length, encs (encI .u8) ([IntKind.wrap .u8 (sshr .u64 a0 (rdL (0 : Int) t229 x295))] : List Int)⟩) KR) (fun _ => rfl) KR KR KR (by decide) (by have := hA316; unfold maxLen; omega) (by have := hA316; omega) KR ?_; clear ha HW a; intro A317 c318 a W319 HW ha
            refine stepp ha 7 (.slice A317 (x291 ++ ([IntKind.wrap .u8 (sshr .u64 a0 (rdL (0 : Int) t229 x295))] : List Int)).length c318) KR KR ?_; clear ha a; intro a ha
            refine endl ?_
            refine blkN ?_
            refine thenN (hK305 _ _ ?_); clear hK305
            refine wp_region_lit ?_
            refine stepp ha 31 (.int .i64 (IntKind.wrap .i64 (x295 + 1))) KR KR ?_; clear ha a; intro a ha
            refine stepp ha 20 (.int .i64 (IntKind.wrap .i64 (x295 + 1))) KR KR ?_; clear ha a; intro a ha
            refine endl ?_
            exact thenN ⟨k297, Nat.lt_succ_self k297, x291 ++ ([IntKind.wrap .u8 (sshr .u64 a0 (rdL (0 : Int) t229 x295))] : List Int), A317, c318, IntKind.wrap .i64 (x295 + 1), (by rw [← hag298]; exact h), ha.sub (subs_cons KR (subs_cons KR (subs_cons KR (subs_cons KR (subs_cons KR (subs_nil _)))))), HW.pick [] [1, 2] (by decide) (by decide) KR KR⟩
          · skip
            replace h := ite_neg' h hp303
            refine condF ha KR KR (t := decide (x295 < (t229.length : Int))) (decide_eq_false hp303) ?_
            refine wp_exit ?_
            refine thenE ?_
            refine thenE ?_
            refine inBlk ?_
            refine thenN (hK226 _ _ ?_); clear hK226
            refine wp_seq_k (fun K322 hK323 => ?_)
            refine wp_region_lit ?_
            refine stepp ha 32 (.slice A292 x291.length c293) KR KR ?_; clear ha a; intro a ha
            refine stepbt ha 33 71 9 5 (.tmp 32) (v := .slice A292 x291.length c293) (xs := x291) (HW.rdo (i := 0) (q := ⟨5, 1, .slice A292 x291.length c293, x291.length, encs (encI .u8) x291⟩) KR) rfl KR KR KR KR KR ?_; clear ha a; intro a ha
            refine stepp ha 6 (.string (strOfNums x291)) KR KR ?_; clear ha a; intro a ha
            refine endl ?_
            refine thenN (hK323 _ _ ?_); clear hK323
            refine wp_ret ?_
            obtain rfl := Option.some.inj h
            exact finv ha _ _ rfl (.tmp (v := .string (strOfNums x291)) KR .nil) (.string (strOfNums x291)) rfl ⟨rfl, HW.pick [] [] (by decide) (by decide) rfl KR⟩
/-! ### headgate/fields.PutBig: function 47 -/
def fields_PutBig.f (K : Nat) (a0 : Int) (a1 : Int) : Option ByteArray :=
  (fields_put_uint64.f K a0 a1 true).bind fun t328 => (some t328)
set_option maxRecDepth 100000 in
set_option maxHeartbeats 4000000 in
theorem fields_PutBig.calls (K : Nat) (a0 : Int) (a1 : Int)  (r : ByteArray) (w : World)  (h : fields_PutBig.f K a0 a1 = some r) :
    Calls Tryd.prog 47 #[.int .u64 a0, .int .i64 a1] w (fun e W' => e = .returned (.string r) ∧ Wd w W' [] [] ) := by
  refine sxstart (n := 8) (l := [(0, .int .u64 a0), (1, .int .i64 a1)]) Tryd.func47 rfl rfl (Nat.le_of_ble_eq_true KR) (subsA_cons rfl (subsA_cons rfl (subsA_nil _))) ?_
  intro a ha
  have HW := Wd.refl w
  unfold fields_PutBig.f at h
  refine wp_seq_k (fun K324 hK325 => ?_)
  refine wp_region_lit ?_
  refine stepp ha 4 (.string (⟨#[]⟩ : ByteArray)) KR KR ?_; clear ha a; intro a ha
  refine endl ?_
  refine thenN (hK325 _ _ ?_); clear hK325
  refine wp_seq_k (fun K326 hK327 => ?_)
  refine wp_region_lit ?_
  refine stepp ha 5 (.int .u64 a0) KR KR ?_; clear ha a; intro a ha
  refine stepp ha 6 (.int .i64 a1) KR KR ?_; clear ha a; intro a ha
  obtain ⟨t328, ht329, h_⟩ := bind_some' h; clear h; have h := h_; clear h_
  refine stepc ha 7 KR KR (fields_put_uint64.calls K a0 a1 true t328 _ ht329) ?_; clear ha a; rintro e W330 ⟨rfl, HX331⟩
  refine ⟨_, rfl, ?_⟩; intro a ha; replace HW := HW.callw HX331; clear HX331
  refine stepp ha 4 (.string t328) KR KR ?_; clear ha a; intro a ha
  refine endl ?_
  refine thenN (hK327 _ _ ?_); clear hK327
  refine wp_ret ?_
  obtain rfl := Option.some.inj h
  exact finv ha _ _ rfl (.tmp (v := .string t328) KR .nil) (.string t328) rfl ⟨rfl, HW.pick [] [] (by decide) (by decide) rfl KR⟩
/-! ### headgate/fields.Pad: function 60 -/
def fields_Pad.f (a0 : ByteArray) (a1 : Int) : Option ByteArray :=
  if a1 < 1 then (some a0) else (if a1 > 4096 then (some a0) else (asrt (¬ a1 = 0) (if (Int.tmod (a0.size : Int) a1) = 0 then (some a0) else (asrt (0 ≤ (IntKind.wrap .i64 (a1 - (Int.tmod (a0.size : Int) a1)))) (asrt ((IntKind.wrap .i64 (a1 - (Int.tmod (a0.size : Int) a1))) ≤ 281474976710656) (asrt (a0.size + (strOfNums (List.replicate (IntKind.wrap .i64 (a1 - (Int.tmod (a0.size : Int) a1)) : Int).toNat (0 : Int))).size ≤ 9223372036854775807) (some (a0 ++ (strOfNums (List.replicate (IntKind.wrap .i64 (a1 - (Int.tmod (a0.size : Int) a1)) : Int).toNat (0 : Int)))))))))))
set_option maxRecDepth 100000 in
set_option maxHeartbeats 4000000 in
theorem fields_Pad.calls (a0 : ByteArray) (a1 : Int)  (r : ByteArray) (w : World)  (h : fields_Pad.f a0 a1 = some r) :
    Calls Tryd.prog 60 #[.string a0, .int .i64 a1] w (fun e W' => e = .returned (.string r) ∧ Wd w W' [] [] ) := by
  refine sxstart (n := 29) (l := [(0, .string a0), (1, .int .i64 a1)]) Tryd.func60 rfl rfl (Nat.le_of_ble_eq_true KR) (subsA_cons rfl (subsA_cons rfl (subsA_nil _))) ?_
  intro a ha
  have HW := Wd.refl w
  unfold fields_Pad.f at h
  refine wp_seq_k (fun K332 hK333 => ?_)
  refine wp_region_lit ?_
  refine stepp ha 4 (.string (⟨#[]⟩ : ByteArray)) KR KR ?_; clear ha a; intro a ha
  refine endl ?_
  refine thenN (hK333 _ _ ?_); clear hK333
  refine wp_seq_k (fun K334 hK335 => ?_)
  refine wp_seq_k (fun K336 hK337 => ?_)
  refine wp_region_lit ?_
  refine stepp ha 5 (.int .i64 a1) KR KR ?_; clear ha a; intro a ha
  refine stepp ha 6 (.bool (decide (a1 < 1))) KR KR ?_; clear ha a; intro a ha
  refine stepp ha 7 (.bool (decide (a1 < 1))) KR KR ?_; clear ha a; intro a ha
  by_cases hp338 : a1 < 1
  · skip
    replace h := ite_pos' h hp338
    replace ha := ha.bool 7 KR (decide_eq_true hp338)
    refine stepo ha 8 KR ?_; clear ha a; intro a ha
    refine stepo ha 9 KR ?_; clear ha a; intro a ha
    refine stepp ha 10 (.bool true) KR KR ?_; clear ha a; intro a ha
    refine stepp ha 11 (.bool true) KR KR ?_; clear ha a; intro a ha
    refine stepo ha 12 KR ?_; clear ha a; intro a ha
    refine stepo ha 13 KR ?_; clear ha a; intro a ha
    refine stepo ha 14 KR ?_; clear ha a; intro a ha
    refine stepo ha 15 KR ?_; clear ha a; intro a ha
    refine stepo ha 16 KR ?_; clear ha a; intro a ha
    refine stepp ha 17 (.bool true) KR KR ?_; clear ha a; intro a ha
    refine endl ?_
    refine thenN (hK337 _ _ ?_); clear hK337
    refine condT ha KR KR (t := true) (rfl) ?_
    refine wp_seq_k (fun K341 hK342 => ?_)
    refine wp_region_lit ?_
    refine stepp ha 18 (.string a0) KR KR ?_; clear ha a; intro a ha
    refine stepp ha 4 (.string a0) KR KR ?_; clear ha a; intro a ha
    refine endl ?_
    refine thenN (hK342 _ _ ?_); clear hK342
    refine wp_ret ?_
    refine thenR ?_
    obtain rfl := Option.some.inj h
    exact finv ha _ _ rfl (.tmp (v := .string a0) KR .nil) (.string a0) rfl ⟨rfl, HW.pick [] [] (by decide) (by decide) rfl KR⟩
  · skip
    replace h := ite_neg' h hp338
    replace ha := ha.bool 7 KR (decide_eq_false hp338)
    refine stepp ha 8 (.int .i64 a1) KR KR ?_; clear ha a; intro a ha
    refine stepp ha 9 (.bool (decide (a1 > 4096))) KR KR ?_; clear ha a; intro a ha
    refine stepp ha 10 (.bool (decide (a1 > 4096))) KR KR ?_; clear ha a; intro a ha
    refine stepp ha 11 (.bool (decide (a1 > 4096))) KR KR ?_; clear ha a; intro a ha
    by_cases hp339 : a1 > 4096
    · skip
      replace h := ite_pos' h hp339
      replace ha := ha.bool 11 KR (decide_eq_true hp339)
      refine stepo ha 12 KR ?_; clear ha a; intro a ha
      refine stepo ha 13 KR ?_; clear ha a; intro a ha
      refine stepo ha 14 KR ?_; clear ha a; intro a ha
      refine stepo ha 15 KR ?_; clear ha a; intro a ha
      refine stepo ha 16 KR ?_; clear ha a; intro a ha
      refine stepp ha 17 (.bool true) KR KR ?_; clear ha a; intro a ha
      refine endl ?_
      refine thenN (hK337 _ _ ?_); clear hK337
      refine condT ha KR KR (t := true) (rfl) ?_
      refine wp_seq_k (fun K343 hK344 => ?_)
      refine wp_region_lit ?_
      refine stepp ha 18 (.string a0) KR KR ?_; clear ha a; intro a ha
      refine stepp ha 4 (.string a0) KR KR ?_; clear ha a; intro a ha
      refine endl ?_
      refine thenN (hK344 _ _ ?_); clear hK344
      refine wp_ret ?_
      refine thenR ?_
      obtain rfl := Option.some.inj h
      exact finv ha _ _ rfl (.tmp (v := .string a0) KR .nil) (.string a0) rfl ⟨rfl, HW.pick [] [] (by decide) (by decide) rfl KR⟩
    · skip
      replace h := ite_neg' h hp339
      replace ha := ha.bool 11 KR (decide_eq_false hp339)
      refine stepp ha 12 (.string a0) KR KR ?_; clear ha a; intro a ha
      refine stepp ha 13 (.int .i64 (a0.size : Int)) KR KR ?_; clear ha a; intro a ha
      refine stepp ha 14 (.int .i64 a1) KR KR ?_; clear ha a; intro a ha
      obtain ⟨hA340, h_⟩ := asrt_some h; clear h; have h := h_; clear h_
      refine steprem ha 15 3 3 (.tmp 13) (.tmp 14) .i64 (a0.size : Int) a1 rfl KR KR hA340 KR ?_; clear ha a; intro a ha
      refine stepp ha 16 (.bool ((Int.tmod (a0.size : Int) a1) == 0)) KR KR ?_; clear ha a; intro a ha
      refine stepp ha 17 (.bool ((Int.tmod (a0.size : Int) a1) == 0)) KR KR ?_; clear ha a; intro a ha
      refine endl ?_
      refine thenN (hK337 _ _ ?_); clear hK337
      by_cases hp345 : (Int.tmod (a0.size : Int) a1) = 0
      · skip
        replace h := ite_pos' h hp345
        refine condT ha KR KR (t := ((Int.tmod (a0.size : Int) a1) == 0)) (ieq_t hp345) ?_
        refine wp_seq_k (fun K346 hK347 => ?_)
        refine wp_region_lit ?_
        refine stepp ha 18 (.string a0) KR KR ?_; clear ha a; intro a ha
        refine stepp ha 4 (.string a0) KR KR ?_; clear ha a; intro a ha
        refine endl ?_
        refine thenN (hK347 _ _ ?_); clear hK347
        refine wp_ret ?_
        refine thenR ?_
        obtain rfl := Option.some.inj h
        exact finv ha _ _ rfl (.tmp (v := .string a0) KR .nil) (.string a0) rfl ⟨rfl, HW.pick [] [] (by decide) (by decide) rfl KR⟩
      · skip
        replace h := ite_neg' h hp345
        refine condF ha KR KR (t := ((Int.tmod (a0.size : Int) a1) == 0)) (ieq_f hp345) ?_
        refine wp_skip ?_
        refine thenN (hK335 _ _ ?_); clear hK335
        refine wp_seq_k (fun K348 hK349 => ?_)
        refine wp_region_lit ?_
        refine stepp ha 19 (.string a0) KR KR ?_; clear ha a; intro a ha
        refine stepp ha 20 (.int .i64 a1) KR KR ?_; clear ha a; intro a ha
        refine stepp ha 21 (.string a0) KR KR ?_; clear ha a; intro a ha
        refine stepp ha 22 (.int .i64 (a0.size : Int)) KR KR ?_; clear ha a; intro a ha
        refine stepp ha 23 (.int .i64 a1) KR KR ?_; clear ha a; intro a ha
        refine steprem ha 24 3 3 (.tmp 22) (.tmp 23) .i64 (a0.size : Int) a1 rfl KR KR hA340 KR ?_; clear ha a; intro a ha
        refine stepp ha 25 (.int .i64 (IntKind.wrap .i64 (a1 - (Int.tmod (a0.size : Int) a1)))) KR KR ?_; clear ha a; intro a ha
        obtain ⟨hA350, h_⟩ := asrt_some h; clear h; have h := h_; clear h_
        obtain ⟨hA351, h_⟩ := asrt_some h; clear h; have h := h_; clear h_
        refine stepmk (encI .u8) (0 : Int) ha HW 26 71 5 (.tmp 25) (.tmp 25) .i64 .i64 (IntKind.wrap .i64 (a1 - (Int.tmod (a0.size : Int) a1))) (.int .u8 0) 1 rfl KR KR KR KR rfl rfl hA350 (by have := hA351; omega) (by have := hA351; omega) KR ?_; clear ha HW a; intro b352 a W353 HW ha
        refine stepbt ha 27 71 9 5 (.tmp 26) (v := .slice (some ⟨b352, 0, none⟩) (List.replicate (IntKind.wrap .i64 (a1 - (Int.tmod (a0.size : Int) a1)) : Int).toNat (0 : Int)).length ((IntKind.wrap .i64 (a1 - (Int.tmod (a0.size : Int) a1)) : Int).toNat)) (xs := List.replicate (IntKind.wrap .i64 (a1 - (Int.tmod (a0.size : Int) a1)) : Int).toNat (0 : Int)) (HW.rdo (i := 0) (q := ⟨5, 1, .slice (some ⟨b352, 0, none⟩) (List.replicate (IntKind.wrap .i64 (a1 - (Int.tmod (a0.size : Int) a1)) : Int).toNat (0 : Int)).length ((IntKind.wrap .i64 (a1 - (Int.tmod (a0.size : Int) a1)) : Int).toNat), (List.replicate (IntKind.wrap .i64 (a1 - (Int.tmod (a0.size : Int) a1)) : Int).toNat (0 : Int)).length, encs (encI .u8) (List.replicate (IntKind.wrap .i64 (a1 - (Int.tmod (a0.size : Int) a1)) : Int).toNat (0 : Int))⟩) KR) rfl KR KR KR KR KR ?_; clear ha a; intro a ha
        obtain ⟨hA355, h_⟩ := asrt_some h; clear h; have h := h_; clear h_
        refine stepsa ha 28 9 9 (.tmp 19) (.tmp 27) a0 (strOfNums (List.replicate (IntKind.wrap .i64 (a1 - (Int.tmod (a0.size : Int) a1)) : Int).toNat (0 : Int))) rfl KR KR (show (a0).size + (strOfNums (List.replicate (IntKind.wrap .i64 (a1 - (Int.tmod (a0.size : Int) a1)) : Int).toNat (0 : Int))).size ≤ 9223372036854775807 from hA355) KR ?_; clear ha a; intro a ha
        refine stepp ha 4 (.string (a0 ++ (strOfNums (List.replicate (IntKind.wrap .i64 (a1 - (Int.tmod (a0.size : Int) a1)) : Int).toNat (0 : Int))))) KR KR ?_; clear ha a; intro a ha
        refine endl ?_
        refine thenN (hK349 _ _ ?_); clear hK349
        refine wp_ret ?_
        obtain rfl := Option.some.inj h
        exact finv ha _ _ rfl (.tmp (v := .string (a0 ++ (strOfNums (List.replicate (IntKind.wrap .i64 (a1 - (Int.tmod (a0.size : Int) a1)) : Int).toNat (0 : Int))))) KR .nil) (.string (a0 ++ (strOfNums (List.replicate (IntKind.wrap .i64 (a1 - (Int.tmod (a0.size : Int) a1)) : Int).toNat (0 : Int))))) rfl ⟨rfl, HW.pick [] [] (by decide) (by decide) rfl KR⟩
/-! ### headgate/fields.PutLittle: function 70 -/
def fields_PutLittle.f (K : Nat) (a0 : Int) (a1 : Int) : Option ByteArray :=
  (fields_put_uint64.f K a0 a1 false).bind fun t360 => (some t360)
set_option maxRecDepth 100000 in
set_option maxHeartbeats 4000000 in
theorem fields_PutLittle.calls (K : Nat) (a0 : Int) (a1 : Int)  (r : ByteArray) (w : World)  (h : fields_PutLittle.f K a0 a1 = some r) :
    Calls Tryd.prog 70 #[.int .u64 a0, .int .i64 a1] w (fun e W' => e = .returned (.string r) ∧ Wd w W' [] [] ) := by
  refine sxstart (n := 8) (l := [(0, .int .u64 a0), (1, .int .i64 a1)]) Tryd.func70 rfl rfl (Nat.le_of_ble_eq_true KR) (subsA_cons rfl (subsA_cons rfl (subsA_nil _))) ?_
  intro a ha
  have HW := Wd.refl w
  unfold fields_PutLittle.f at h
  refine wp_seq_k (fun K356 hK357 => ?_)
  refine wp_region_lit ?_
  refine stepp ha 4 (.string (⟨#[]⟩ : ByteArray)) KR KR ?_; clear ha a; intro a ha
  refine endl ?_
  refine thenN (hK357 _ _ ?_); clear hK357
  refine wp_seq_k (fun K358 hK359 => ?_)
  refine wp_region_lit ?_
  refine stepp ha 5 (.int .u64 a0) KR KR ?_; clear ha a; intro a ha
  refine stepp ha 6 (.int .i64 a1) KR KR ?_; clear ha a; intro a ha
  obtain ⟨t360, ht361, h_⟩ := bind_some' h; clear h; have h := h_; clear h_
  refine stepc ha 7 KR KR (fields_put_uint64.calls K a0 a1 false t360 _ ht361) ?_; clear ha a; rintro e W362 ⟨rfl, HX363⟩
  refine ⟨_, rfl, ?_⟩; intro a ha; replace HW := HW.callw HX363; clear HX363
  refine stepp ha 4 (.string t360) KR KR ?_; clear ha a; intro a ha
  refine endl ?_
  refine thenN (hK359 _ _ ?_); clear hK359
  refine wp_ret ?_
  obtain rfl := Option.some.inj h
  exact finv ha _ _ rfl (.tmp (v := .string t360) KR .nil) (.string t360) rfl ⟨rfl, HW.pick [] [] (by decide) (by decide) rfl KR⟩
/-! ### headgate/crc.More: function 80 -/
def crc_More.b0 (K : Nat) (a1 : ByteArray) (again412 : Int → Int → Option Int) (x413 : Int) (x414 : Int) : Option Int :=
  if x414 < (a1.size : Int) then (asrt (0 ≤ x414) (asrt (0 ≤ (band .u32 (bxor .u32 x413 (IntKind.wrap .u32 (bt a1 x414))) 15)) (asrt ((band .u32 (bxor .u32 x413 (IntKind.wrap .u32 (bt a1 x414))) 15) < 16) (asrt (0 ≤ (band .u32 (bxor .u32 ((bxor .u32 x413 (IntKind.wrap .u32 (bt a1 x414))).fdiv 16) (rdL (0 : Int) G_crc_steps (band .u32 (bxor .u32 x413 (IntKind.wrap .u32 (bt a1 x414))) 15))) 15)) (asrt ((band .u32 (bxor .u32 ((bxor .u32 x413 (IntKind.wrap .u32 (bt a1 x414))).fdiv 16) (rdL (0 : Int) G_crc_steps (band .u32 (bxor .u32 x413 (IntKind.wrap .u32 (bt a1 x414))) 15))) 15) < 16) (again412 (bxor .u32 ((bxor .u32 ((bxor .u32 x413 (IntKind.wrap .u32 (bt a1 x414))).fdiv 16) (rdL (0 : Int) G_crc_steps (band .u32 (bxor .u32 x413 (IntKind.wrap .u32 (bt a1 x414))) 15))).fdiv 16) (rdL (0 : Int) G_crc_steps (band .u32 (bxor .u32 ((bxor .u32 x413 (IntKind.wrap .u32 (bt a1 x414))).fdiv 16) (rdL (0 : Int) G_crc_steps (band .u32 (bxor .u32 x413 (IntKind.wrap .u32 (bt a1 x414))) 15))) 15))) (IntKind.wrap .i64 (x414 + 1)))))))) else (some (bxor .u32 4294967295 x413))
def crc_More.l0 (K : Nat) (a1 : ByteArray) : Nat → Int → Int → Option Int
  | 0, _, _ => none
  | k_ + 1, x413, x414 => crc_More.b0 K a1 (crc_More.l0 K a1 k_) x413 x414
def crc_More.f (K : Nat) (a0 : Int) (a1 : ByteArray) : Option Int :=
  crc_More.l0 K a1 K (bxor .u32 4294967295 a0) 0
set_option maxRecDepth 100000 in
set_option maxHeartbeats 4000000 in
theorem crc_More.calls (K : Nat) (a0 : Int) (a1 : ByteArray)  (r : Int) (w : World) (hG1 : CA w 1 0 (encs (encI .u32) G_crc_steps).toArray) (h : crc_More.f K a0 a1 = some r) :
    Calls Tryd.prog 80 #[.int .u32 a0, .string a1] w (fun e W' => e = .returned (.int .u32 r) ∧ Wd w W' [] [] ) := by
  refine sxstart (n := 36) (l := [(0, .int .u32 a0), (1, .string a1)]) Tryd.func80 rfl rfl (Nat.le_of_ble_eq_true KR) (subsA_cons rfl (subsA_cons rfl (subsA_nil _))) ?_
  intro a ha
  have HW := Wd.refl w
  unfold crc_More.f at h
  refine wp_seq_k (fun K364 hK365 => ?_)
  refine wp_region_lit ?_
  refine stepp ha 4 (.int .u32 0) KR KR ?_; clear ha a; intro a ha
  refine endl ?_
  refine thenN (hK365 _ _ ?_); clear hK365
  refine wp_seq_k (fun K366 hK367 => ?_)
  refine wp_region_lit ?_
  refine stepp ha 6 (.int .u32 a0) KR KR ?_; clear ha a; intro a ha
  refine stepp ha 7 (.int .u32 (bxor .u32 4294967295 a0)) KR KR ?_; clear ha a; intro a ha
  refine stepp ha 0 (.int .u32 (bxor .u32 4294967295 a0)) KR KR ?_; clear ha a; intro a ha
  refine endl ?_
  refine thenN (hK367 _ _ ?_); clear hK367
  refine wp_seq_k (fun K368 hK369 => ?_)
  refine wp_seq_k (fun K370 hK371 => ?_)
  refine wp_region_lit ?_
  refine stepp ha 8 (.string a1) KR KR ?_; clear ha a; intro a ha
  refine stepp ha 9 (.int .i64 (a1.size : Int)) KR KR ?_; clear ha a; intro a ha
  refine stepp ha 10 (.int .i64 0) KR KR ?_; clear ha a; intro a ha
  refine endl ?_
  refine thenN (hK371 _ _ ?_); clear hK371
  refine wp_block ?_
  refine loopk (fun k => fun a W415 => ∃ (x413 : Int), ∃ (x414 : Int), crc_More.l0 K a1 k x413 x414 = some r ∧ Has 36 [(0, .int .u32 x413), (1, .string a1), (9, .int .i64 (a1.size : Int)), (10, .int .i64 x414)] a ∧ Wd w W415 [] []) K ?_ ?_
  · skip
    exact ⟨bxor .u32 4294967295 a0, 0, h, ha.sub (subs_cons KR (subs_cons KR (subs_cons KR (subs_cons KR (subs_nil _))))), HW.pick [] [] (by decide) (by decide) KR KR⟩
  · skip
    intro k a W415 hI
    obtain ⟨x413, x414, h, ha, HW⟩ := hI
    cases k with
    | zero => exact (none_some (show none = some r from h)).elim
    | succ k416 =>
      replace h : crc_More.b0 K a1 (crc_More.l0 K a1 k416) x413 x414 = some r := h
      obtain ⟨again412, hag417⟩ : ∃ g_, g_ = crc_More.l0 K a1 k416 := ⟨_, rfl⟩
      rw [← hag417] at h
      unfold crc_More.b0 at h
      refine wp_seq_k (fun K418 hK419 => ?_)
      refine wp_region_lit ?_
      refine stepp ha 11 (.bool (decide (x414 < (a1.size : Int)))) KR KR ?_; clear ha a; intro a ha
      refine endl ?_
      refine thenN (hK419 _ _ ?_); clear hK419
      refine wp_seq_k (fun K420 hK421 => ?_)
      by_cases hp422 : x414 < (a1.size : Int)
      · skip
        replace h := ite_pos' h hp422
        refine condT ha KR KR (t := decide (x414 < (a1.size : Int))) (decide_eq_true hp422) ?_
        refine wp_skip ?_
        refine thenN (hK421 _ _ ?_); clear hK421
        refine wp_seq_k (fun K423 hK424 => ?_)
        refine wp_block ?_
        refine wp_seq_k (fun K425 hK426 => ?_)
        refine wp_region_lit ?_
        refine stepp ha 12 (.int .i64 x414) KR KR ?_; clear ha a; intro a ha
        refine stepp ha 5 (.int .i64 x414) KR KR ?_; clear ha a; intro a ha
        refine endl ?_
        refine thenN (hK426 _ _ ?_); clear hK426
        refine wp_seq_k (fun K427 hK428 => ?_)
        refine wp_region_lit ?_
        refine stepp ha 13 (.int .u32 x413) KR KR ?_; clear ha a; intro a ha
        refine stepp ha 14 (.string a1) KR KR ?_; clear ha a; intro a ha
        refine stepp ha 15 (.int .i64 x414) KR KR ?_; clear ha a; intro a ha
        obtain ⟨hA429, h_⟩ := asrt_some h; clear h; have h := h_; clear h_
        refine stepsi ha 16 9 (.tmp 14) (.tmp 15) a1 .i64 x414 rfl KR KR KR hA429 (show (x414 : Int) < ((a1).size : Int) from hp422) KR ?_; clear ha a; intro a ha
        refine stepp ha 17 (.int .u32 (IntKind.wrap .u32 (bt a1 x414))) KR KR ?_; clear ha a; intro a ha
        refine stepp ha 18 (.int .u32 (bxor .u32 x413 (IntKind.wrap .u32 (bt a1 x414)))) KR KR ?_; clear ha a; intro a ha
        refine stepp ha 0 (.int .u32 (bxor .u32 x413 (IntKind.wrap .u32 (bt a1 x414)))) KR KR ?_; clear ha a; intro a ha
        refine endl ?_
        refine thenN (hK428 _ _ ?_); clear hK428
        refine wp_seq_k (fun K430 hK431 => ?_)
        refine wp_region_lit ?_
        refine stepp ha 19 (.int .u32 (bxor .u32 x413 (IntKind.wrap .u32 (bt a1 x414)))) KR KR ?_; clear ha a; intro a ha
        refine stepp ha 20 (.int .u32 ((bxor .u32 x413 (IntKind.wrap .u32 (bt a1 x414))).fdiv 16)) KR KR ?_; clear ha a; intro a ha
        refine stepp ha 21 (.int .u32 (bxor .u32 x413 (IntKind.wrap .u32 (bt a1 x414)))) KR KR ?_; clear ha a; intro a ha
        refine stepp ha 22 (.int .u32 (band .u32 (bxor .u32 x413 (IntKind.wrap .u32 (bt a1 x414))) 15)) KR KR ?_; clear ha a; intro a ha
        obtain ⟨hA432, h_⟩ := asrt_some h; clear h; have h := h_; clear h_
        obtain ⟨hA433, h_⟩ := asrt_some h; clear h; have h := h_; clear h_
        refine stepiw ha 23 (sz := 1) 1 0 127 16 97 (.global 1) (.tmp 22) .u32 (band .u32 (bxor .u32 x413 (IntKind.wrap .u32 (bt a1 x414))) 15) rfl KR KR KR KR hA432 hA433 KR ?_; clear ha a; intro a ha
        refine stepl ha 24 (CA.el (encI .u32) (0 : Int) (fun _ => rfl) (HW.ca0 hG1) G_crc_steps rfl (len := 16) rfl hA432 hA433) 97 0 (.tmp 23) (.int .u32 (rdL (0 : Int) G_crc_steps (band .u32 (bxor .u32 x413 (IntKind.wrap .u32 (bt a1 x414))) 15))) rfl KR KR KR ?_; clear ha a; intro a ha
        refine stepp ha 25 (.int .u32 (bxor .u32 ((bxor .u32 x413 (IntKind.wrap .u32 (bt a1 x414))).fdiv 16) (rdL (0 : Int) G_crc_steps (band .u32 (bxor .u32 x413 (IntKind.wrap .u32 (bt a1 x414))) 15)))) KR KR ?_; clear ha a; intro a ha
        refine stepp ha 0 (.int .u32 (bxor .u32 ((bxor .u32 x413 (IntKind.wrap .u32 (bt a1 x414))).fdiv 16) (rdL (0 : Int) G_crc_steps (band .u32 (bxor .u32 x413 (IntKind.wrap .u32 (bt a1 x414))) 15)))) KR KR ?_; clear ha a; intro a ha
        refine endl ?_
        refine thenN (hK431 _ _ ?_); clear hK431
        refine wp_region_lit ?_
        refine stepp ha 26 (.int .u32 (bxor .u32 ((bxor .u32 x413 (IntKind.wrap .u32 (bt a1 x414))).fdiv 16) (rdL (0 : Int) G_crc_steps (band .u32 (bxor .u32 x413 (IntKind.wrap .u32 (bt a1 x414))) 15)))) KR KR ?_; clear ha a; intro a ha
        refine stepp ha 27 (.int .u32 ((bxor .u32 ((bxor .u32 x413 (IntKind.wrap .u32 (bt a1 x414))).fdiv 16) (rdL (0 : Int) G_crc_steps (band .u32 (bxor .u32 x413 (IntKind.wrap .u32 (bt a1 x414))) 15))).fdiv 16)) KR KR ?_; clear ha a; intro a ha
        refine stepp ha 28 (.int .u32 (bxor .u32 ((bxor .u32 x413 (IntKind.wrap .u32 (bt a1 x414))).fdiv 16) (rdL (0 : Int) G_crc_steps (band .u32 (bxor .u32 x413 (IntKind.wrap .u32 (bt a1 x414))) 15)))) KR KR ?_; clear ha a; intro a ha
        refine stepp ha 29 (.int .u32 (band .u32 (bxor .u32 ((bxor .u32 x413 (IntKind.wrap .u32 (bt a1 x414))).fdiv 16) (rdL (0 : Int) G_crc_steps (band .u32 (bxor .u32 x413 (IntKind.wrap .u32 (bt a1 x414))) 15))) 15)) KR KR ?_; clear ha a; intro a ha
        obtain ⟨hA434, h_⟩ := asrt_some h; clear h; have h := h_; clear h_
        obtain ⟨hA435, h_⟩ := asrt_some h; clear h; have h := h_; clear h_
        refine stepiw ha 30 (sz := 1) 1 0 127 16 97 (.global 1) (.tmp 29) .u32 (band .u32 (bxor .u32 ((bxor .u32 x413 (IntKind.wrap .u32 (bt a1 x414))).fdiv 16) (rdL (0 : Int) G_crc_steps (band .u32 (bxor .u32 x413 (IntKind.wrap .u32 (bt a1 x414))) 15))) 15) rfl KR KR KR KR hA434 hA435 KR ?_; clear ha a; intro a ha
        refine stepl ha 31 (CA.el (encI .u32) (0 : Int) (fun _ => rfl) (HW.ca0 hG1) G_crc_steps rfl (len := 16) rfl hA434 hA435) 97 0 (.tmp 30) (.int .u32 (rdL (0 : Int) G_crc_steps (band .u32 (bxor .u32 ((bxor .u32 x413 (IntKind.wrap .u32 (bt a1 x414))).fdiv 16) (rdL (0 : Int) G_crc_steps (band .u32 (bxor .u32 x413 (IntKind.wrap .u32 (bt a1 x414))) 15))) 15))) rfl KR KR KR ?_; clear ha a; intro a ha
        refine stepp ha 32 (.int .u32 (bxor .u32 ((bxor .u32 ((bxor .u32 x413 (IntKind.wrap .u32 (bt a1 x414))).fdiv 16) (rdL (0 : Int) G_crc_steps (band .u32 (bxor .u32 x413 (IntKind.wrap .u32 (bt a1 x414))) 15))).fdiv 16) (rdL (0 : Int) G_crc_steps (band .u32 (bxor .u32 ((bxor .u32 x413 (IntKind.wrap .u32 (bt a1 x414))).fdiv 16) (rdL (0 : Int) G_crc_steps (band .u32 (bxor .u32 x413 (IntKind.wrap .u32 (bt a1 x414))) 15))) 15)))) KR KR ?_; clear ha a; intro a ha
        refine stepp ha 0 (.int .u32 (bxor .u32 ((bxor .u32 ((bxor .u32 x413 (IntKind.wrap .u32 (bt a1 x414))).fdiv 16) (rdL (0 : Int) G_crc_steps (band .u32 (bxor .u32 x413 (IntKind.wrap .u32 (bt a1 x414))) 15))).fdiv 16) (rdL (0 : Int) G_crc_steps (band .u32 (bxor .u32 ((bxor .u32 x413 (IntKind.wrap .u32 (bt a1 x414))).fdiv 16) (rdL (0 : Int) G_crc_steps (band .u32 (bxor .u32 x413 (IntKind.wrap .u32 (bt a1 x414))) 15))) 15)))) KR KR ?_; clear ha a; intro a ha
        refine endl ?_
        refine blkN ?_
        refine thenN (hK424 _ _ ?_); clear hK424
        refine wp_region_lit ?_
        refine stepp ha 33 (.int .i64 (IntKind.wrap .i64 (x414 + 1))) KR KR ?_; clear ha a; intro a ha
        refine stepp ha 10 (.int .i64 (IntKind.wrap .i64 (x414 + 1))) KR KR ?_; clear ha a; intro a ha
        refine endl ?_
        exact thenN ⟨k416, Nat.lt_succ_self k416, bxor .u32 ((bxor .u32 ((bxor .u32 x413 (IntKind.wrap .u32 (bt a1 x414))).fdiv 16) (rdL (0 : Int) G_crc_steps (band .u32 (bxor .u32 x413 (IntKind.wrap .u32 (bt a1 x414))) 15))).fdiv 16) (rdL (0 : Int) G_crc_steps (band .u32 (bxor .u32 ((bxor .u32 x413 (IntKind.wrap .u32 (bt a1 x414))).fdiv 16) (rdL (0 : Int) G_crc_steps (band .u32 (bxor .u32 x413 (IntKind.wrap .u32 (bt a1 x414))) 15))) 15)), IntKind.wrap .i64 (x414 + 1), (by rw [← hag417]; exact h), ha.sub (subs_cons KR (subs_cons KR (subs_cons KR (subs_cons KR (subs_nil _))))), HW.pick [] [] (by decide) (by decide) KR KR⟩
      · skip
        replace h := ite_neg' h hp422
        refine condF ha KR KR (t := decide (x414 < (a1.size : Int))) (decide_eq_false hp422) ?_
        refine wp_exit ?_
        refine thenE ?_
        refine thenE ?_
        refine inBlk ?_
        refine thenN (hK369 _ _ ?_); clear hK369
        refine wp_seq_k (fun K436 hK437 => ?_)
        refine wp_region_lit ?_
        refine stepp ha 34 (.int .u32 x413) KR KR ?_; clear ha a; intro a ha
        refine stepp ha 35 (.int .u32 (bxor .u32 4294967295 x413)) KR KR ?_; clear ha a; intro a ha
        refine stepp ha 4 (.int .u32 (bxor .u32 4294967295 x413)) KR KR ?_; clear ha a; intro a ha
        refine endl ?_
        refine thenN (hK437 _ _ ?_); clear hK437
        refine wp_ret ?_
        obtain rfl := Option.some.inj h
        exact finv ha _ _ rfl (.tmp (v := .int .u32 (bxor .u32 4294967295 x413)) KR .nil) (.int .u32 (bxor .u32 4294967295 x413)) rfl ⟨rfl, HW.pick [] [] (by decide) (by decide) rfl KR⟩
/-! ### headgate/crc.Sum: function 71 -/
def crc_Sum.f (K : Nat) (a0 : ByteArray) : Option Int :=
  (crc_More.f K 0 a0).bind fun t442 => (some t442)
set_option maxRecDepth 100000 in
set_option maxHeartbeats 4000000 in
theorem crc_Sum.calls (K : Nat) (a0 : ByteArray)  (r : Int) (w : World) (hG1 : CA w 1 0 (encs (encI .u32) G_crc_steps).toArray) (h : crc_Sum.f K a0 = some r) :
    Calls Tryd.prog 71 #[.string a0] w (fun e W' => e = .returned (.int .u32 r) ∧ Wd w W' [] [] ) := by
  refine sxstart (n := 5) (l := [(0, .string a0)]) Tryd.func71 rfl rfl (Nat.le_of_ble_eq_true KR) (subsA_cons rfl (subsA_nil _)) ?_
  intro a ha
  have HW := Wd.refl w
  unfold crc_Sum.f at h
  refine wp_seq_k (fun K438 hK439 => ?_)
  refine wp_region_lit ?_
  refine stepp ha 2 (.int .u32 0) KR KR ?_; clear ha a; intro a ha
  refine endl ?_
  refine thenN (hK439 _ _ ?_); clear hK439
  refine wp_seq_k (fun K440 hK441 => ?_)
  refine wp_region_lit ?_
  refine stepp ha 3 (.string a0) KR KR ?_; clear ha a; intro a ha
  obtain ⟨t442, ht443, h_⟩ := bind_some' h; clear h; have h := h_; clear h_
  refine stepc ha 4 KR KR (crc_More.calls K 0 a0 t442 _ (HW.ca0 hG1) ht443) ?_; clear ha a; rintro e W444 ⟨rfl, HX445⟩
  refine ⟨_, rfl, ?_⟩; intro a ha; replace HW := HW.callw HX445; clear HX445
  refine stepp ha 2 (.int .u32 t442) KR KR ?_; clear ha a; intro a ha
  refine endl ?_
  refine thenN (hK441 _ _ ?_); clear hK441
  refine wp_ret ?_
  obtain rfl := Option.some.inj h
  exact finv ha _ _ rfl (.tmp (v := .int .u32 t442) KR .nil) (.int .u32 t442) rfl ⟨rfl, HW.pick [] [] (by decide) (by decide) rfl KR⟩
/-! ### headgate/crc.Digest: function 61 -/
def crc_Digest.f (K : Nat) (a0 : ByteArray) : Option ByteArray :=
  (crc_Sum.f K a0).bind fun t450 => ((fields_PutLittle.f K (IntKind.wrap .u64 t450) 4).bind fun t454 => (some t454))
set_option maxRecDepth 100000 in
set_option maxHeartbeats 4000000 in
theorem crc_Digest.calls (K : Nat) (a0 : ByteArray)  (r : ByteArray) (w : World) (hG1 : CA w 1 0 (encs (encI .u32) G_crc_steps).toArray) (h : crc_Digest.f K a0 = some r) :
    Calls Tryd.prog 61 #[.string a0] w (fun e W' => e = .returned (.string r) ∧ Wd w W' [] [] ) := by
  refine sxstart (n := 7) (l := [(0, .string a0)]) Tryd.func61 rfl rfl (Nat.le_of_ble_eq_true KR) (subsA_cons rfl (subsA_nil _)) ?_
  intro a ha
  have HW := Wd.refl w
  unfold crc_Digest.f at h
  refine wp_seq_k (fun K446 hK447 => ?_)
  refine wp_region_lit ?_
  refine stepp ha 2 (.string (⟨#[]⟩ : ByteArray)) KR KR ?_; clear ha a; intro a ha
  refine endl ?_
  refine thenN (hK447 _ _ ?_); clear hK447
  refine wp_seq_k (fun K448 hK449 => ?_)
  refine wp_region_lit ?_
  refine stepp ha 3 (.string a0) KR KR ?_; clear ha a; intro a ha
  obtain ⟨t450, ht451, h_⟩ := bind_some' h; clear h; have h := h_; clear h_
  refine stepc ha 4 KR KR (crc_Sum.calls K a0 t450 _ (HW.ca0 hG1) ht451) ?_; clear ha a; rintro e W452 ⟨rfl, HX453⟩
  refine ⟨_, rfl, ?_⟩; intro a ha; replace HW := HW.callw HX453; clear HX453
  refine stepp ha 5 (.int .u64 (IntKind.wrap .u64 t450)) KR KR ?_; clear ha a; intro a ha
  obtain ⟨t454, ht455, h_⟩ := bind_some' h; clear h; have h := h_; clear h_
  refine stepc ha 6 KR KR (fields_PutLittle.calls K (IntKind.wrap .u64 t450) 4 t454 _ ht455) ?_; clear ha a; rintro e W456 ⟨rfl, HX457⟩
  refine ⟨_, rfl, ?_⟩; intro a ha; replace HW := HW.callw HX457; clear HX457
  refine stepp ha 2 (.string t454) KR KR ?_; clear ha a; intro a ha
  refine endl ?_
  refine thenN (hK449 _ _ ?_); clear hK449
  refine wp_ret ?_
  obtain rfl := Option.some.inj h
  exact finv ha _ _ rfl (.tmp (v := .string t454) KR .nil) (.string t454) rfl ⟨rfl, HW.pick [] [] (by decide) (by decide) rfl KR⟩
/-! ### headgate/frame.Put: function 46 -/
def frame_Put.f (K : Nat) (a0 : Int) (a1 : ByteArray) : Option (ByteArray × Int) :=
  if (a1.size : Int) > 65536 then (some ((⟨#[]⟩ : ByteArray), 2)) else ((fields_PutBig.f K a0 8).bind fun t469 => (asrt (4 + t469.size ≤ 9223372036854775807) ((fields_PutBig.f K (IntKind.wrap .u64 (a1.size : Int)) 4).bind fun t474 => (asrt (((⟨#[72, 71, 70, 82]⟩ : ByteArray) ++ t469).size + t474.size ≤ 9223372036854775807) ((crc_Digest.f K (((⟨#[72, 71, 70, 82]⟩ : ByteArray) ++ t469) ++ t474)).bind fun t481 => (asrt ((((⟨#[72, 71, 70, 82]⟩ : ByteArray) ++ t469) ++ t474).size + t481.size ≤ 9223372036854775807) (asrt (((((⟨#[72, 71, 70, 82]⟩ : ByteArray) ++ t469) ++ t474) ++ t481).size + a1.size ≤ 9223372036854775807) ((crc_Digest.f K a1).bind fun t487 => (asrt ((((((⟨#[72, 71, 70, 82]⟩ : ByteArray) ++ t469) ++ t474) ++ t481) ++ a1).size + t487.size ≤ 9223372036854775807) ((fields_Pad.f ((((((⟨#[72, 71, 70, 82]⟩ : ByteArray) ++ t469) ++ t474) ++ t481) ++ a1) ++ t487) 512).bind fun t492 => (some (t492, 0))))))))))))
set_option maxRecDepth 100000 in
set_option maxHeartbeats 4000000 in
theorem frame_Put.calls (K : Nat) (a0 : Int) (a1 : ByteArray)  (r : ByteArray × Int) (w : World) (hG1 : CA w 1 0 (encs (encI .u32) G_crc_steps).toArray) (h : frame_Put.f K a0 a1 = some r) :
    Calls Tryd.prog 46 #[.int .u64 a0, .string a1] w (fun e W' => e = .returned (.tuple #[.string r.1, .int .i64 r.2]) ∧ Wd w W' [] [] ) := by
  refine sxstart (n := 28) (l := [(0, .int .u64 a0), (1, .string a1)]) Tryd.func46 rfl rfl (Nat.le_of_ble_eq_true KR) (subsA_cons rfl (subsA_cons rfl (subsA_nil _))) ?_
  intro a ha
  have HW := Wd.refl w
  unfold frame_Put.f at h
  refine wp_seq_k (fun K458 hK459 => ?_)
  refine wp_region_lit ?_
  refine stepp ha 4 (.string (⟨#[]⟩ : ByteArray)) KR KR ?_; clear ha a; intro a ha
  refine stepp ha 5 (.int .i64 0) KR KR ?_; clear ha a; intro a ha
  refine endl ?_
  refine thenN (hK459 _ _ ?_); clear hK459
  refine wp_seq_k (fun K460 hK461 => ?_)
  refine wp_seq_k (fun K462 hK463 => ?_)
  refine wp_region_lit ?_
  refine stepp ha 7 (.string a1) KR KR ?_; clear ha a; intro a ha
  refine stepp ha 8 (.int .i64 (a1.size : Int)) KR KR ?_; clear ha a; intro a ha
  refine stepp ha 9 (.bool (decide ((a1.size : Int) > 65536))) KR KR ?_; clear ha a; intro a ha
  refine endl ?_
  refine thenN (hK463 _ _ ?_); clear hK463
  by_cases hp464 : (a1.size : Int) > 65536
  · skip
    replace h := ite_pos' h hp464
    refine condT ha KR KR (t := decide ((a1.size : Int) > 65536)) (decide_eq_true hp464) ?_
    refine wp_seq_k (fun K465 hK466 => ?_)
    refine wp_region_lit ?_
    refine stepp ha 4 (.string (⟨#[]⟩ : ByteArray)) KR KR ?_; clear ha a; intro a ha
    refine stepp ha 5 (.int .i64 2) KR KR ?_; clear ha a; intro a ha
    refine endl ?_
    refine thenN (hK466 _ _ ?_); clear hK466
    refine wp_ret ?_
    refine thenR ?_
    obtain rfl := Option.some.inj h
    exact finv ha _ _ rfl (.tmp (v := .string (⟨#[]⟩ : ByteArray)) KR (.tmp (v := .int .i64 2) KR .nil)) (.tuple #[.string (⟨#[]⟩ : ByteArray), .int .i64 2]) rfl ⟨rfl, HW.pick [] [] (by decide) (by decide) rfl KR⟩
  · skip
    replace h := ite_neg' h hp464
    refine condF ha KR KR (t := decide ((a1.size : Int) > 65536)) (decide_eq_false hp464) ?_
    refine wp_skip ?_
    refine thenN (hK461 _ _ ?_); clear hK461
    refine wp_seq_k (fun K467 hK468 => ?_)
    refine wp_region_lit ?_
    refine stepp ha 10 (.int .u64 a0) KR KR ?_; clear ha a; intro a ha
    obtain ⟨t469, ht470, h_⟩ := bind_some' h; clear h; have h := h_; clear h_
    refine stepc ha 11 KR KR (fields_PutBig.calls K a0 8 t469 _ ht470) ?_; clear ha a; rintro e W471 ⟨rfl, HX472⟩
    refine ⟨_, rfl, ?_⟩; intro a ha; replace HW := HW.callw HX472; clear HX472
    obtain ⟨hA473, h_⟩ := asrt_some h; clear h; have h := h_; clear h_
    refine stepsa ha 12 9 9 (.const (.string (⟨#[72, 71, 70, 82]⟩ : ByteArray))) (.tmp 11) (⟨#[72, 71, 70, 82]⟩ : ByteArray) t469 rfl KR KR (show ((⟨#[72, 71, 70, 82]⟩ : ByteArray)).size + (t469).size ≤ 9223372036854775807 from hA473) KR ?_; clear ha a; intro a ha
    refine stepp ha 13 (.string a1) KR KR ?_; clear ha a; intro a ha
    refine stepp ha 14 (.int .i64 (a1.size : Int)) KR KR ?_; clear ha a; intro a ha
    refine stepp ha 15 (.int .u64 (IntKind.wrap .u64 (a1.size : Int))) KR KR ?_; clear ha a; intro a ha
    obtain ⟨t474, ht475, h_⟩ := bind_some' h; clear h; have h := h_; clear h_
    refine stepc ha 16 KR KR (fields_PutBig.calls K (IntKind.wrap .u64 (a1.size : Int)) 4 t474 _ ht475) ?_; clear ha a; rintro e W476 ⟨rfl, HX477⟩
    refine ⟨_, rfl, ?_⟩; intro a ha; replace HW := HW.callw HX477; clear HX477
    obtain ⟨hA478, h_⟩ := asrt_some h; clear h; have h := h_; clear h_
    refine stepsa ha 17 9 9 (.tmp 12) (.tmp 16) ((⟨#[72, 71, 70, 82]⟩ : ByteArray) ++ t469) t474 rfl KR KR (show ((⟨#[72, 71, 70, 82]⟩ : ByteArray) ++ t469).size + (t474).size ≤ 9223372036854775807 from hA478) KR ?_; clear ha a; intro a ha
    refine stepp ha 6 (.string (((⟨#[72, 71, 70, 82]⟩ : ByteArray) ++ t469) ++ t474)) KR KR ?_; clear ha a; intro a ha
    refine endl ?_
    refine thenN (hK468 _ _ ?_); clear hK468
    refine wp_seq_k (fun K479 hK480 => ?_)
    refine wp_region_lit ?_
    refine stepp ha 18 (.string (((⟨#[72, 71, 70, 82]⟩ : ByteArray) ++ t469) ++ t474)) KR KR ?_; clear ha a; intro a ha
    refine stepp ha 19 (.string (((⟨#[72, 71, 70, 82]⟩ : ByteArray) ++ t469) ++ t474)) KR KR ?_; clear ha a; intro a ha
    obtain ⟨t481, ht482, h_⟩ := bind_some' h; clear h; have h := h_; clear h_
    refine stepc ha 20 KR KR (crc_Digest.calls K (((⟨#[72, 71, 70, 82]⟩ : ByteArray) ++ t469) ++ t474) t481 _ (HW.ca0 hG1) ht482) ?_; clear ha a; rintro e W483 ⟨rfl, HX484⟩
    refine ⟨_, rfl, ?_⟩; intro a ha; replace HW := HW.callw HX484; clear HX484
    obtain ⟨hA485, h_⟩ := asrt_some h; clear h; have h := h_; clear h_
    refine stepsa ha 21 9 9 (.tmp 18) (.tmp 20) (((⟨#[72, 71, 70, 82]⟩ : ByteArray) ++ t469) ++ t474) t481 rfl KR KR (show (((⟨#[72, 71, 70, 82]⟩ : ByteArray) ++ t469) ++ t474).size + (t481).size ≤ 9223372036854775807 from hA485) KR ?_; clear ha a; intro a ha
    refine stepp ha 22 (.string a1) KR KR ?_; clear ha a; intro a ha
    obtain ⟨hA486, h_⟩ := asrt_some h; clear h; have h := h_; clear h_
    refine stepsa ha 23 9 9 (.tmp 21) (.tmp 22) ((((⟨#[72, 71, 70, 82]⟩ : ByteArray) ++ t469) ++ t474) ++ t481) a1 rfl KR KR (show ((((⟨#[72, 71, 70, 82]⟩ : ByteArray) ++ t469) ++ t474) ++ t481).size + (a1).size ≤ 9223372036854775807 from hA486) KR ?_; clear ha a; intro a ha
    refine stepp ha 24 (.string a1) KR KR ?_; clear ha a; intro a ha
    obtain ⟨t487, ht488, h_⟩ := bind_some' h; clear h; have h := h_; clear h_
    refine stepc ha 25 KR KR (crc_Digest.calls K a1 t487 _ (HW.ca0 hG1) ht488) ?_; clear ha a; rintro e W489 ⟨rfl, HX490⟩
    refine ⟨_, rfl, ?_⟩; intro a ha; replace HW := HW.callw HX490; clear HX490
    obtain ⟨hA491, h_⟩ := asrt_some h; clear h; have h := h_; clear h_
    refine stepsa ha 26 9 9 (.tmp 23) (.tmp 25) (((((⟨#[72, 71, 70, 82]⟩ : ByteArray) ++ t469) ++ t474) ++ t481) ++ a1) t487 rfl KR KR (show (((((⟨#[72, 71, 70, 82]⟩ : ByteArray) ++ t469) ++ t474) ++ t481) ++ a1).size + (t487).size ≤ 9223372036854775807 from hA491) KR ?_; clear ha a; intro a ha
    obtain ⟨t492, ht493, h_⟩ := bind_some' h; clear h; have h := h_; clear h_
    refine stepc ha 27 KR KR (fields_Pad.calls ((((((⟨#[72, 71, 70, 82]⟩ : ByteArray) ++ t469) ++ t474) ++ t481) ++ a1) ++ t487) 512 t492 _ ht493) ?_; clear ha a; rintro e W494 ⟨rfl, HX495⟩
    refine ⟨_, rfl, ?_⟩; intro a ha; replace HW := HW.callw HX495; clear HX495
    refine stepp ha 4 (.string t492) KR KR ?_; clear ha a; intro a ha
    refine stepp ha 5 (.int .i64 0) KR KR ?_; clear ha a; intro a ha
    refine endl ?_
    refine thenN (hK480 _ _ ?_); clear hK480
    refine wp_ret ?_
    obtain rfl := Option.some.inj h
    exact finv ha _ _ rfl (.tmp (v := .string t492) KR (.tmp (v := .int .i64 0) KR .nil)) (.tuple #[.string t492, .int .i64 0]) rfl ⟨rfl, HW.pick [] [] (by decide) (by decide) rfl KR⟩
/-! ### headgate/fields.get[uint64]: function 63 -/
def fields_get_uint64.b0 (K : Nat) (a0 : ByteArray) (a1 : Int) (t520 : List Int) (again563 : Int → Int → Option (Int × Bool)) (x564 : Int) (x565 : Int) : Option (Int × Bool) :=
  if x565 < (t520.length : Int) then (asrt (0 ≤ x565) (asrt (0 ≤ (IntKind.wrap .i64 (a1 + x565))) (asrt ((IntKind.wrap .i64 (a1 + x565)) < (a0.size : Int)) (asrt (0 ≤ (rdL (0 : Int) t520 x565)) (again563 (bor .u64 x564 (sshl .u64 (IntKind.wrap .u64 (bt a0 (IntKind.wrap .i64 (a1 + x565)))) (rdL (0 : Int) t520 x565))) (IntKind.wrap .i64 (x565 + 1))))))) else (some (x564, true))
def fields_get_uint64.l0 (K : Nat) (a0 : ByteArray) (a1 : Int) (t520 : List Int) : Nat → Int → Int → Option (Int × Bool)
  | 0, _, _ => none
  | k_ + 1, x564, x565 => fields_get_uint64.b0 K a0 a1 t520 (fields_get_uint64.l0 K a0 a1 t520 k_) x564 x565
def fields_get_uint64.f (K : Nat) (a0 : ByteArray) (a1 : Int) (a2 : Int) (a3 : Bool) : Option (Int × Bool) :=
  if a2 < 1 then (some (0, false)) else (if a2 > 8 then (some (0, false)) else (if a1 < 0 then (some (0, false)) else (if a1 > (IntKind.wrap .i64 ((a0.size : Int) - a2)) then (some (0, false)) else ((fields_shifts.f K a2 a3).bind fun t520 => (fields_get_uint64.l0 K a0 a1 t520 K 0 0)))))
set_option maxRecDepth 100000 in
set_option maxHeartbeats 4000000 in
theorem fields_get_uint64.calls (K : Nat) (a0 : ByteArray) (a1 : Int) (a2 : Int) (a3 : Bool)  (r : Int × Bool) (w : World)  (h : fields_get_uint64.f K a0 a1 a2 a3 = some r) :
    Calls Tryd.prog 63 #[.string a0, .int .i64 a1, .int .i64 a2, .bool a3] w (fun e W' => e = .returned (.tuple #[.int .u64 r.1, .bool r.2]) ∧ Wd w W' [] [] ) := by
  refine sxstart (n := 52) (l := [(0, .string a0), (1, .int .i64 a1), (2, .int .i64 a2), (3, .bool a3)]) Tryd.func63 rfl rfl (Nat.le_of_ble_eq_true KR) (subsA_cons rfl (subsA_cons rfl (subsA_cons rfl (subsA_cons rfl (subsA_nil _))))) ?_
  intro a ha
  have HW := Wd.refl w
  unfold fields_get_uint64.f at h
  refine wp_seq_k (fun K496 hK497 => ?_)
  refine wp_region_lit ?_
  refine stepp ha 8 (.int .u64 0) KR KR ?_; clear ha a; intro a ha
  refine stepp ha 9 (.bool false) KR KR ?_; clear ha a; intro a ha
  refine endl ?_
  refine thenN (hK497 _ _ ?_); clear hK497
  refine wp_seq_k (fun K498 hK499 => ?_)
  refine wp_seq_k (fun K500 hK501 => ?_)
  refine wp_region_lit ?_
  refine stepp ha 13 (.int .i64 a2) KR KR ?_; clear ha a; intro a ha
  refine stepp ha 14 (.bool (decide (a2 < 1))) KR KR ?_; clear ha a; intro a ha
  refine stepp ha 15 (.bool (decide (a2 < 1))) KR KR ?_; clear ha a; intro a ha
  by_cases hp502 : a2 < 1
  · skip
    replace h := ite_pos' h hp502
    replace ha := ha.bool 15 KR (decide_eq_true hp502)
    refine stepo ha 16 KR ?_; clear ha a; intro a ha
    refine stepo ha 17 KR ?_; clear ha a; intro a ha
    refine stepp ha 18 (.bool true) KR KR ?_; clear ha a; intro a ha
    refine stepp ha 19 (.bool true) KR KR ?_; clear ha a; intro a ha
    refine stepo ha 20 KR ?_; clear ha a; intro a ha
    refine stepo ha 21 KR ?_; clear ha a; intro a ha
    refine stepp ha 22 (.bool true) KR KR ?_; clear ha a; intro a ha
    refine stepp ha 23 (.bool true) KR KR ?_; clear ha a; intro a ha
    refine stepo ha 24 KR ?_; clear ha a; intro a ha
    refine stepo ha 25 KR ?_; clear ha a; intro a ha
    refine stepo ha 26 KR ?_; clear ha a; intro a ha
    refine stepo ha 27 KR ?_; clear ha a; intro a ha
    refine stepo ha 28 KR ?_; clear ha a; intro a ha
    refine stepo ha 29 KR ?_; clear ha a; intro a ha
    refine stepp ha 30 (.bool true) KR KR ?_; clear ha a; intro a ha
    refine endl ?_
    refine thenN (hK501 _ _ ?_); clear hK501
    refine condT ha KR KR (t := true) (rfl) ?_
    refine wp_seq_k (fun K505 hK506 => ?_)
    refine wp_region_lit ?_
    refine stepp ha 8 (.int .u64 0) KR KR ?_; clear ha a; intro a ha
    refine stepp ha 9 (.bool false) KR KR ?_; clear ha a; intro a ha
    refine endl ?_
    refine thenN (hK506 _ _ ?_); clear hK506
    refine wp_ret ?_
    refine thenR ?_
    obtain rfl := Option.some.inj h
    exact finv ha _ _ rfl (.tmp (v := .int .u64 0) KR (.tmp (v := .bool false) KR .nil)) (.tuple #[.int .u64 0, .bool false]) rfl ⟨rfl, HW.pick [] [] (by decide) (by decide) rfl KR⟩
  · skip
    replace h := ite_neg' h hp502
    replace ha := ha.bool 15 KR (decide_eq_false hp502)
    refine stepp ha 16 (.int .i64 a2) KR KR ?_; clear ha a; intro a ha
    refine stepp ha 17 (.bool (decide (a2 > 8))) KR KR ?_; clear ha a; intro a ha
    refine stepp ha 18 (.bool (decide (a2 > 8))) KR KR ?_; clear ha a; intro a ha
    refine stepp ha 19 (.bool (decide (a2 > 8))) KR KR ?_; clear ha a; intro a ha
    by_cases hp503 : a2 > 8
    · skip
      replace h := ite_pos' h hp503
      replace ha := ha.bool 19 KR (decide_eq_true hp503)
      refine stepo ha 20 KR ?_; clear ha a; intro a ha
      refine stepo ha 21 KR ?_; clear ha a; intro a ha
      refine stepp ha 22 (.bool true) KR KR ?_; clear ha a; intro a ha
      refine stepp ha 23 (.bool true) KR KR ?_; clear ha a; intro a ha
      refine stepo ha 24 KR ?_; clear ha a; intro a ha
      refine stepo ha 25 KR ?_; clear ha a; intro a ha
      refine stepo ha 26 KR ?_; clear ha a; intro a ha
      refine stepo ha 27 KR ?_; clear ha a; intro a ha
      refine stepo ha 28 KR ?_; clear ha a; intro a ha
      refine stepo ha 29 KR ?_; clear ha a; intro a ha
      refine stepp ha 30 (.bool true) KR KR ?_; clear ha a; intro a ha
      refine endl ?_
      refine thenN (hK501 _ _ ?_); clear hK501
      refine condT ha KR KR (t := true) (rfl) ?_
      refine wp_seq_k (fun K507 hK508 => ?_)
      refine wp_region_lit ?_
      refine stepp ha 8 (.int .u64 0) KR KR ?_; clear ha a; intro a ha
      refine stepp ha 9 (.bool false) KR KR ?_; clear ha a; intro a ha
      refine endl ?_
      refine thenN (hK508 _ _ ?_); clear hK508
      refine wp_ret ?_
      refine thenR ?_
      obtain rfl := Option.some.inj h
      exact finv ha _ _ rfl (.tmp (v := .int .u64 0) KR (.tmp (v := .bool false) KR .nil)) (.tuple #[.int .u64 0, .bool false]) rfl ⟨rfl, HW.pick [] [] (by decide) (by decide) rfl KR⟩
    · skip
      replace h := ite_neg' h hp503
      replace ha := ha.bool 19 KR (decide_eq_false hp503)
      refine stepp ha 20 (.int .i64 a1) KR KR ?_; clear ha a; intro a ha
      refine stepp ha 21 (.bool (decide (a1 < 0))) KR KR ?_; clear ha a; intro a ha
      refine stepp ha 22 (.bool (decide (a1 < 0))) KR KR ?_; clear ha a; intro a ha
      refine stepp ha 23 (.bool (decide (a1 < 0))) KR KR ?_; clear ha a; intro a ha
      by_cases hp504 : a1 < 0
      · skip
        replace h := ite_pos' h hp504
        replace ha := ha.bool 23 KR (decide_eq_true hp504)
        refine stepo ha 24 KR ?_; clear ha a; intro a ha
        refine stepo ha 25 KR ?_; clear ha a; intro a ha
        refine stepo ha 26 KR ?_; clear ha a; intro a ha
        refine stepo ha 27 KR ?_; clear ha a; intro a ha
        refine stepo ha 28 KR ?_; clear ha a; intro a ha
        refine stepo ha 29 KR ?_; clear ha a; intro a ha
        refine stepp ha 30 (.bool true) KR KR ?_; clear ha a; intro a ha
        refine endl ?_
        refine thenN (hK501 _ _ ?_); clear hK501
        refine condT ha KR KR (t := true) (rfl) ?_
        refine wp_seq_k (fun K509 hK510 => ?_)
        refine wp_region_lit ?_
        refine stepp ha 8 (.int .u64 0) KR KR ?_; clear ha a; intro a ha
        refine stepp ha 9 (.bool false) KR KR ?_; clear ha a; intro a ha
        refine endl ?_
        refine thenN (hK510 _ _ ?_); clear hK510
        refine wp_ret ?_
        refine thenR ?_
        obtain rfl := Option.some.inj h
        exact finv ha _ _ rfl (.tmp (v := .int .u64 0) KR (.tmp (v := .bool false) KR .nil)) (.tuple #[.int .u64 0, .bool false]) rfl ⟨rfl, HW.pick [] [] (by decide) (by decide) rfl KR⟩
      · skip
        replace h := ite_neg' h hp504
        replace ha := ha.bool 23 KR (decide_eq_false hp504)
        refine stepp ha 24 (.int .i64 a1) KR KR ?_; clear ha a; intro a ha
        refine stepp ha 25 (.string a0) KR KR ?_; clear ha a; intro a ha
        refine stepp ha 26 (.int .i64 (a0.size : Int)) KR KR ?_; clear ha a; intro a ha
        refine stepp ha 27 (.int .i64 a2) KR KR ?_; clear ha a; intro a ha
        refine stepp ha 28 (.int .i64 (IntKind.wrap .i64 ((a0.size : Int) - a2))) KR KR ?_; clear ha a; intro a ha
        refine stepp ha 29 (.bool (decide (a1 > (IntKind.wrap .i64 ((a0.size : Int) - a2))))) KR KR ?_; clear ha a; intro a ha
        refine stepp ha 30 (.bool (decide (a1 > (IntKind.wrap .i64 ((a0.size : Int) - a2))))) KR KR ?_; clear ha a; intro a ha
        refine endl ?_
        refine thenN (hK501 _ _ ?_); clear hK501
        by_cases hp511 : a1 > (IntKind.wrap .i64 ((a0.size : Int) - a2))
        · skip
          replace h := ite_pos' h hp511
          refine condT ha KR KR (t := decide (a1 > (IntKind.wrap .i64 ((a0.size : Int) - a2)))) (decide_eq_true hp511) ?_
          refine wp_seq_k (fun K512 hK513 => ?_)
          refine wp_region_lit ?_
          refine stepp ha 8 (.int .u64 0) KR KR ?_; clear ha a; intro a ha
          refine stepp ha 9 (.bool false) KR KR ?_; clear ha a; intro a ha
          refine endl ?_
          refine thenN (hK513 _ _ ?_); clear hK513
          refine wp_ret ?_
          refine thenR ?_
          obtain rfl := Option.some.inj h
          exact finv ha _ _ rfl (.tmp (v := .int .u64 0) KR (.tmp (v := .bool false) KR .nil)) (.tuple #[.int .u64 0, .bool false]) rfl ⟨rfl, HW.pick [] [] (by decide) (by decide) rfl KR⟩
        · skip
          replace h := ite_neg' h hp511
          refine condF ha KR KR (t := decide (a1 > (IntKind.wrap .i64 ((a0.size : Int) - a2)))) (decide_eq_false hp511) ?_
          refine wp_skip ?_
          refine thenN (hK499 _ _ ?_); clear hK499
          refine wp_seq_k (fun K514 hK515 => ?_)
          refine wp_region_lit ?_
          refine stepp ha 10 (.int .u64 0) KR KR ?_; clear ha a; intro a ha
          refine endl ?_
          refine thenN (hK515 _ _ ?_); clear hK515
          refine wp_seq_k (fun K516 hK517 => ?_)
          refine wp_seq_k (fun K518 hK519 => ?_)
          refine wp_region_lit ?_
          refine stepp ha 31 (.int .i64 a2) KR KR ?_; clear ha a; intro a ha
          refine stepp ha 32 (.bool a3) KR KR ?_; clear ha a; intro a ha
          obtain ⟨t520, ht521, h_⟩ := bind_some' h; clear h; have h := h_; clear h_
          refine stepc ha 33 KR KR (fields_shifts.calls K a2 a3 t520 _ ht521) ?_; clear ha a; rintro e W525 ⟨A522, c523, rfl, HX526⟩
          refine ⟨_, rfl, ?_⟩; intro a ha; replace HW := HW.callw HX526; clear HX526
          refine stepp ha 34 (.int .i64 (t520.length : Int)) KR KR ?_; clear ha a; intro a ha
          refine stepp ha 35 (.int .i64 0) KR KR ?_; clear ha a; intro a ha
          refine endl ?_
          refine thenN (hK519 _ _ ?_); clear hK519
          refine wp_block ?_
          refine loopk (fun k => fun a W566 => ∃ (x564 : Int), ∃ (x565 : Int), fields_get_uint64.l0 K a0 a1 t520 k x564 x565 = some r ∧ Has 52 [(0, .string a0), (1, .int .i64 a1), (10, .int .u64 x564), (33, .slice A522 t520.length c523), (34, .int .i64 (t520.length : Int)), (35, .int .i64 x565)] a ∧ Wd w W566 [] [⟨3, 1, .slice A522 t520.length c523, t520.length, encs (encI .i64) t520⟩]) K ?_ ?_
          · skip
            exact ⟨0, 0, h, ha.sub (subs_cons KR (subs_cons KR (subs_cons KR (subs_cons KR (subs_cons KR (subs_cons KR (subs_nil _))))))), HW.pick [] [0] (by decide) (by decide) KR KR⟩
          · skip
            intro k a W566 hI
            obtain ⟨x564, x565, h, ha, HW⟩ := hI
            cases k with
            | zero => exact (none_some (show none = some r from h)).elim
            | succ k567 =>
              replace h : fields_get_uint64.b0 K a0 a1 t520 (fields_get_uint64.l0 K a0 a1 t520 k567) x564 x565 = some r := h
              obtain ⟨again563, hag568⟩ : ∃ g_, g_ = fields_get_uint64.l0 K a0 a1 t520 k567 := ⟨_, rfl⟩
              rw [← hag568] at h
              unfold fields_get_uint64.b0 at h
              refine wp_seq_k (fun K569 hK570 => ?_)
              refine wp_region_lit ?_
              refine stepp ha 36 (.bool (decide (x565 < (t520.length : Int)))) KR KR ?_; clear ha a; intro a ha
              refine endl ?_
              refine thenN (hK570 _ _ ?_); clear hK570
              refine wp_seq_k (fun K571 hK572 => ?_)
              by_cases hp573 : x565 < (t520.length : Int)
              · skip
                replace h := ite_pos' h hp573
                refine condT ha KR KR (t := decide (x565 < (t520.length : Int))) (decide_eq_true hp573) ?_
                refine wp_skip ?_
                refine thenN (hK572 _ _ ?_); clear hK572
                refine wp_seq_k (fun K574 hK575 => ?_)
                refine wp_block ?_
                refine wp_seq_k (fun K576 hK577 => ?_)
                refine wp_region_lit ?_
                refine stepp ha 37 (.int .i64 x565) KR KR ?_; clear ha a; intro a ha
                obtain ⟨hA578, h_⟩ := asrt_some h; clear h; have h := h_; clear h_
                refine stepie (encI .i64) (0 : Int) ha 38 (fun _ => rfl) (v := .slice A522 t520.length c523) (xs := t520) (HW.rdo (i := 0) (q := ⟨3, 1, .slice A522 t520.length c523, t520.length, encs (encI .i64) t520⟩) KR) 23 3 (.tmp 33) (.tmp 35) .i64 x565 rfl KR KR KR KR hA578 (show (x565 : Int) < ((t520).length : Int) from hp573) KR ?_; clear ha a; intro b579 off580 a hC581 ha
                refine stepl ha 39 hC581 3 0 (.tmp 38) (.int .i64 (rdL (0 : Int) t520 x565)) rfl KR KR KR ?_; clear ha a; intro a ha
                refine stepp ha 11 (.int .i64 x565) KR KR ?_; clear ha a; intro a ha
                refine stepp ha 12 (.int .i64 (rdL (0 : Int) t520 x565)) KR KR ?_; clear ha a; intro a ha
                refine endl ?_
                refine thenN (hK577 _ _ ?_); clear hK577
                refine wp_region_lit ?_
                refine stepp ha 40 (.int .u64 x564) KR KR ?_; clear ha a; intro a ha
                refine stepp ha 41 (.string a0) KR KR ?_; clear ha a; intro a ha
                refine stepp ha 42 (.int .i64 a1) KR KR ?_; clear ha a; intro a ha
                refine stepp ha 43 (.int .i64 x565) KR KR ?_; clear ha a; intro a ha
                refine stepp ha 44 (.int .i64 (IntKind.wrap .i64 (a1 + x565))) KR KR ?_; clear ha a; intro a ha
                obtain ⟨hA582, h_⟩ := asrt_some h; clear h; have h := h_; clear h_
                obtain ⟨hA583, h_⟩ := asrt_some h; clear h; have h := h_; clear h_
                refine stepsi ha 45 9 (.tmp 41) (.tmp 44) a0 .i64 (IntKind.wrap .i64 (a1 + x565)) rfl KR KR KR hA582 (show (IntKind.wrap .i64 (a1 + x565) : Int) < ((a0).size : Int) from hA583) KR ?_; clear ha a; intro a ha
                refine stepp ha 46 (.int .u64 (IntKind.wrap .u64 (bt a0 (IntKind.wrap .i64 (a1 + x565))))) KR KR ?_; clear ha a; intro a ha
                refine stepp ha 47 (.int .i64 (rdL (0 : Int) t520 x565)) KR KR ?_; clear ha a; intro a ha
                obtain ⟨hA584, h_⟩ := asrt_some h; clear h; have h := h_; clear h_
                refine stepshl ha 48 68 3 (.tmp 46) (.tmp 47) .u64 .i64 (IntKind.wrap .u64 (bt a0 (IntKind.wrap .i64 (a1 + x565)))) (rdL (0 : Int) t520 x565) rfl KR KR hA584 KR ?_; clear ha a; intro a ha
                refine stepp ha 49 (.int .u64 (bor .u64 x564 (sshl .u64 (IntKind.wrap .u64 (bt a0 (IntKind.wrap .i64 (a1 + x565)))) (rdL (0 : Int) t520 x565)))) KR KR ?_; clear ha a; intro a ha
                refine stepp ha 10 (.int .u64 (bor .u64 x564 (sshl .u64 (IntKind.wrap .u64 (bt a0 (IntKind.wrap .i64 (a1 + x565)))) (rdL (0 : Int) t520 x565)))) KR KR ?_; clear ha a; intro a ha
                refine endl ?_
                refine blkN ?_
                refine thenN (hK575 _ _ ?_); clear hK575
                refine wp_region_lit ?_
                refine stepp ha 50 (.int .i64 (IntKind.wrap .i64 (x565 + 1))) KR KR ?_; clear ha a; intro a ha
                refine stepp ha 35 (.int .i64 (IntKind.wrap .i64 (x565 + 1))) KR KR ?_; clear ha a; intro a ha
                refine endl ?_
                exact thenN ⟨k567, Nat.lt_succ_self k567, bor .u64 x564 (sshl .u64 (IntKind.wrap .u64 (bt a0 (IntKind.wrap .i64 (a1 + x565)))) (rdL (0 : Int) t520 x565)), IntKind.wrap .i64 (x565 + 1), (by rw [← hag568]; exact h), ha.sub (subs_cons KR (subs_cons KR (subs_cons KR (subs_cons KR (subs_cons KR (subs_cons KR (subs_nil _))))))), HW.pick [] [0] (by decide) (by decide) KR KR⟩
              · skip
                replace h := ite_neg' h hp573
                refine condF ha KR KR (t := decide (x565 < (t520.length : Int))) (decide_eq_false hp573) ?_
                refine wp_exit ?_
                refine thenE ?_
                refine thenE ?_
                refine inBlk ?_
                refine thenN (hK517 _ _ ?_); clear hK517
                refine wp_seq_k (fun K585 hK586 => ?_)
                refine wp_region_lit ?_
                refine stepp ha 51 (.int .u64 x564) KR KR ?_; clear ha a; intro a ha
                refine stepp ha 8 (.int .u64 x564) KR KR ?_; clear ha a; intro a ha
                refine stepp ha 9 (.bool true) KR KR ?_; clear ha a; intro a ha
                refine endl ?_
                refine thenN (hK586 _ _ ?_); clear hK586
                refine wp_ret ?_
                obtain rfl := Option.some.inj h
                exact finv ha _ _ rfl (.tmp (v := .int .u64 x564) KR (.tmp (v := .bool true) KR .nil)) (.tuple #[.int .u64 x564, .bool true]) rfl ⟨rfl, HW.pick [] [] (by decide) (by decide) rfl KR⟩
/-! ### headgate/fields.Big: function 49 -/
def fields_Big.f (K : Nat) (a0 : ByteArray) (a1 : Int) (a2 : Int) : Option (Int × Bool) :=
  (fields_get_uint64.f K a0 a1 a2 true).bind fun t591 => (some (t591.1, t591.2))
set_option maxRecDepth 100000 in
set_option maxHeartbeats 4000000 in
theorem fields_Big.calls (K : Nat) (a0 : ByteArray) (a1 : Int) (a2 : Int)  (r : Int × Bool) (w : World)  (h : fields_Big.f K a0 a1 a2 = some r) :
    Calls Tryd.prog 49 #[.string a0, .int .i64 a1, .int .i64 a2] w (fun e W' => e = .returned (.tuple #[.int .u64 r.1, .bool r.2]) ∧ Wd w W' [] [] ) := by
  refine sxstart (n := 14) (l := [(0, .string a0), (1, .int .i64 a1), (2, .int .i64 a2)]) Tryd.func49 rfl rfl (Nat.le_of_ble_eq_true KR) (subsA_cons rfl (subsA_cons rfl (subsA_cons rfl (subsA_nil _)))) ?_
  intro a ha
  have HW := Wd.refl w
  unfold fields_Big.f at h
  refine wp_seq_k (fun K587 hK588 => ?_)
  refine wp_region_lit ?_
  refine stepp ha 6 (.int .u64 0) KR KR ?_; clear ha a; intro a ha
  refine stepp ha 7 (.bool false) KR KR ?_; clear ha a; intro a ha
  refine endl ?_
  refine thenN (hK588 _ _ ?_); clear hK588
  refine wp_seq_k (fun K589 hK590 => ?_)
  refine wp_region_lit ?_
  refine stepp ha 8 (.string a0) KR KR ?_; clear ha a; intro a ha
  refine stepp ha 9 (.int .i64 a1) KR KR ?_; clear ha a; intro a ha
  refine stepp ha 10 (.int .i64 a2) KR KR ?_; clear ha a; intro a ha
  obtain ⟨t591, ht592, h_⟩ := bind_some' h; clear h; have h := h_; clear h_
  refine stepc ha 11 KR KR (fields_get_uint64.calls K a0 a1 a2 true t591 _ ht592) ?_; clear ha a; rintro e W593 ⟨rfl, HX594⟩
  refine ⟨_, rfl, ?_⟩; intro a ha; replace HW := HW.callw HX594; clear HX594
  refine stepp ha 12 (.int .u64 t591.1) KR KR ?_; clear ha a; intro a ha
  refine stepp ha 13 (.bool t591.2) KR KR ?_; clear ha a; intro a ha
  refine stepp ha 6 (.int .u64 t591.1) KR KR ?_; clear ha a; intro a ha
  refine stepp ha 7 (.bool t591.2) KR KR ?_; clear ha a; intro a ha
  refine endl ?_
  refine thenN (hK590 _ _ ?_); clear hK590
  refine wp_ret ?_
  obtain rfl := Option.some.inj h
  exact finv ha _ _ rfl (.tmp (v := .int .u64 t591.1) KR (.tmp (v := .bool t591.2) KR .nil)) (.tuple #[.int .u64 t591.1, .bool t591.2]) rfl ⟨rfl, HW.pick [] [] (by decide) (by decide) rfl KR⟩
/-! ### headgate/crc.Right: function 65 -/
def crc_Right.f (K : Nat) (a0 : ByteArray) (a1 : ByteArray) : Option Bool :=
  (crc_Digest.f K a0).bind fun t599 => (some (a1.toList == t599.toList))
set_option maxRecDepth 100000 in
set_option maxHeartbeats 4000000 in
theorem crc_Right.calls (K : Nat) (a0 : ByteArray) (a1 : ByteArray)  (r : Bool) (w : World) (hG1 : CA w 1 0 (encs (encI .u32) G_crc_steps).toArray) (h : crc_Right.f K a0 a1 = some r) :
    Calls Tryd.prog 65 #[.string a0, .string a1] w (fun e W' => e = .returned (.bool r) ∧ Wd w W' [] [] ) := by
  refine sxstart (n := 9) (l := [(0, .string a0), (1, .string a1)]) Tryd.func65 rfl rfl (Nat.le_of_ble_eq_true KR) (subsA_cons rfl (subsA_cons rfl (subsA_nil _))) ?_
  intro a ha
  have HW := Wd.refl w
  unfold crc_Right.f at h
  refine wp_seq_k (fun K595 hK596 => ?_)
  refine wp_region_lit ?_
  refine stepp ha 4 (.bool false) KR KR ?_; clear ha a; intro a ha
  refine endl ?_
  refine thenN (hK596 _ _ ?_); clear hK596
  refine wp_seq_k (fun K597 hK598 => ?_)
  refine wp_region_lit ?_
  refine stepp ha 5 (.string a1) KR KR ?_; clear ha a; intro a ha
  refine stepp ha 6 (.string a0) KR KR ?_; clear ha a; intro a ha
  obtain ⟨t599, ht600, h_⟩ := bind_some' h; clear h; have h := h_; clear h_
  refine stepc ha 7 KR KR (crc_Digest.calls K a0 t599 _ (HW.ca0 hG1) ht600) ?_; clear ha a; rintro e W601 ⟨rfl, HX602⟩
  refine ⟨_, rfl, ?_⟩; intro a ha; replace HW := HW.callw HX602; clear HX602
  refine stepp ha 8 (.bool (a1.toList == t599.toList)) KR KR ?_; clear ha a; intro a ha
  refine stepp ha 4 (.bool (a1.toList == t599.toList)) KR KR ?_; clear ha a; intro a ha
  refine endl ?_
  refine thenN (hK598 _ _ ?_); clear hK598
  refine wp_ret ?_
  obtain rfl := Option.some.inj h
  exact finv ha _ _ rfl (.tmp (v := .bool (a1.toList == t599.toList)) KR .nil) (.bool (a1.toList == t599.toList)) rfl ⟨rfl, HW.pick [] [] (by decide) (by decide) rfl KR⟩
/-! ### strings.trimLeftByte: function 73 -/
def strings_trimLeftByte.b0 (K : Nat) (a1 : Int) (again626 : ByteArray → Option ByteArray) (x627 : ByteArray) : Option ByteArray :=
  if (x627.size : Int) > 0 then (asrt (0 < (x627.size : Int)) (if (bt x627 0) = a1 then (asrt (1 ≤ (x627.size : Int)) (again626 (x627.extract (1 : Int).toNat (x627).size))) else (some x627))) else (some x627)
def strings_trimLeftByte.l0 (K : Nat) (a1 : Int) : Nat → ByteArray → Option ByteArray
  | 0, _ => none
  | k_ + 1, x627 => strings_trimLeftByte.b0 K a1 (strings_trimLeftByte.l0 K a1 k_) x627
def strings_trimLeftByte.f (K : Nat) (a0 : ByteArray) (a1 : Int) : Option ByteArray :=
  strings_trimLeftByte.l0 K a1 K a0
set_option maxRecDepth 100000 in
set_option maxHeartbeats 4000000 in
theorem strings_trimLeftByte.calls (K : Nat) (a0 : ByteArray) (a1 : Int)  (r : ByteArray) (w : World)  (h : strings_trimLeftByte.f K a0 a1 = some r) :
    Calls Tryd.prog 73 #[.string a0, .int .u8 a1] w (fun e W' => e = .returned (.string r) ∧ Wd w W' [] [] ) := by
  refine sxstart (n := 17) (l := [(0, .string a0), (1, .int .u8 a1)]) Tryd.func73 rfl rfl (Nat.le_of_ble_eq_true KR) (subsA_cons rfl (subsA_cons rfl (subsA_nil _))) ?_
  intro a ha
  have HW := Wd.refl w
  unfold strings_trimLeftByte.f at h
  refine wp_seq_k (fun K603 hK604 => ?_)
  refine wp_region_lit ?_
  refine stepp ha 4 (.string (⟨#[]⟩ : ByteArray)) KR KR ?_; clear ha a; intro a ha
  refine endl ?_
  refine thenN (hK604 _ _ ?_); clear hK604
  refine wp_seq_k (fun K605 hK606 => ?_)
  refine wp_block ?_
  refine loopk (fun k => fun a W628 => ∃ (x627 : ByteArray), strings_trimLeftByte.l0 K a1 k x627 = some r ∧ Has 17 [(0, .string x627), (1, .int .u8 a1)] a ∧ Wd w W628 [] []) K ?_ ?_
  · skip
    exact ⟨a0, h, ha.sub (subs_cons KR (subs_cons KR (subs_nil _))), HW.pick [] [] (by decide) (by decide) KR KR⟩
  · skip
    intro k a W628 hI
    obtain ⟨x627, h, ha, HW⟩ := hI
    cases k with
    | zero => exact (none_some (show none = some r from h)).elim
    | succ k629 =>
      replace h : strings_trimLeftByte.b0 K a1 (strings_trimLeftByte.l0 K a1 k629) x627 = some r := h
      obtain ⟨again626, hag630⟩ : ∃ g_, g_ = strings_trimLeftByte.l0 K a1 k629 := ⟨_, rfl⟩
      rw [← hag630] at h
      unfold strings_trimLeftByte.b0 at h
      refine wp_seq_k (fun K631 hK632 => ?_)
      refine wp_seq_k (fun K633 hK634 => ?_)
      refine wp_region_lit ?_
      refine stepp ha 5 (.string x627) KR KR ?_; clear ha a; intro a ha
      refine stepp ha 6 (.int .i64 (x627.size : Int)) KR KR ?_; clear ha a; intro a ha
      refine stepp ha 7 (.bool (decide ((x627.size : Int) > 0))) KR KR ?_; clear ha a; intro a ha
      refine stepp ha 8 (.bool (decide ((x627.size : Int) > 0))) KR KR ?_; clear ha a; intro a ha
      by_cases hp635 : (x627.size : Int) > 0
      · skip
        replace h := ite_pos' h hp635
        replace ha := ha.bool 8 KR (decide_eq_true hp635)
        refine stepp ha 9 (.string x627) KR KR ?_; clear ha a; intro a ha
        obtain ⟨hA636, h_⟩ := asrt_some h; clear h; have h := h_; clear h_
        refine stepsi ha 10 9 (.tmp 9) (.const (.int .i64 0)) x627 .i64 0 rfl KR KR KR (by decide) (show (0 : Int) < ((x627).size : Int) from hA636) KR ?_; clear ha a; intro a ha
        refine stepp ha 11 (.int .u8 a1) KR KR ?_; clear ha a; intro a ha
        refine stepp ha 12 (.bool ((bt x627 0) == a1)) KR KR ?_; clear ha a; intro a ha
        refine stepp ha 13 (.bool ((bt x627 0) == a1)) KR KR ?_; clear ha a; intro a ha
        refine endl ?_
        refine thenN (hK634 _ _ ?_); clear hK634
        by_cases hp637 : (bt x627 0) = a1
        · skip
          replace h := ite_pos' h hp637
          refine condT ha KR KR (t := ((bt x627 0) == a1)) (ieq_t hp637) ?_
          refine wp_skip ?_
          refine thenN (hK632 _ _ ?_); clear hK632
          refine wp_block ?_
          refine wp_region_lit ?_
          refine stepp ha 14 (.string x627) KR KR ?_; clear ha a; intro a ha
          obtain ⟨hA638, h_⟩ := asrt_some h; clear h; have h := h_; clear h_
          refine stepssl ha 15 9 (.tmp 14) (.const (.int .i64 1)) x627 .i64 1 rfl KR KR KR (by decide) (show (1 : Int) ≤ ((x627).size : Int) from hA638) KR ?_; clear ha a; intro a ha
          refine stepp ha 0 (.string (x627.extract (1 : Int).toNat (x627).size)) KR KR ?_; clear ha a; intro a ha
          refine endl ?_
          refine blkN ?_
          exact thenN ⟨k629, Nat.lt_succ_self k629, x627.extract (1 : Int).toNat (x627).size, (by rw [← hag630]; exact h), ha.sub (subs_cons KR (subs_cons KR (subs_nil _))), HW.pick [] [] (by decide) (by decide) KR KR⟩
        · skip
          replace h := ite_neg' h hp637
          refine condF ha KR KR (t := ((bt x627 0) == a1)) (ieq_f hp637) ?_
          refine wp_exit ?_
          refine thenE ?_
          refine thenE ?_
          refine inBlk ?_
          refine thenN (hK606 _ _ ?_); clear hK606
          refine wp_seq_k (fun K639 hK640 => ?_)
          refine wp_region_lit ?_
          refine stepp ha 16 (.string x627) KR KR ?_; clear ha a; intro a ha
          refine stepp ha 4 (.string x627) KR KR ?_; clear ha a; intro a ha
          refine endl ?_
          refine thenN (hK640 _ _ ?_); clear hK640
          refine wp_ret ?_
          obtain rfl := Option.some.inj h
          exact finv ha _ _ rfl (.tmp (v := .string x627) KR .nil) (.string x627) rfl ⟨rfl, HW.pick [] [] (by decide) (by decide) rfl KR⟩
      · skip
        replace h := ite_neg' h hp635
        replace ha := ha.bool 8 KR (decide_eq_false hp635)
        refine stepo ha 9 KR ?_; clear ha a; intro a ha
        refine stepo ha 10 KR ?_; clear ha a; intro a ha
        refine stepo ha 11 KR ?_; clear ha a; intro a ha
        refine stepo ha 12 KR ?_; clear ha a; intro a ha
        refine stepp ha 13 (.bool false) KR KR ?_; clear ha a; intro a ha
        refine endl ?_
        refine thenN (hK634 _ _ ?_); clear hK634
        refine condF ha KR KR (t := false) (rfl) ?_
        refine wp_exit ?_
        refine thenE ?_
        refine thenE ?_
        refine inBlk ?_
        refine thenN (hK606 _ _ ?_); clear hK606
        refine wp_seq_k (fun K641 hK642 => ?_)
        refine wp_region_lit ?_
        refine stepp ha 16 (.string x627) KR KR ?_; clear ha a; intro a ha
        refine stepp ha 4 (.string x627) KR KR ?_; clear ha a; intro a ha
        refine endl ?_
        refine thenN (hK642 _ _ ?_); clear hK642
        refine wp_ret ?_
        obtain rfl := Option.some.inj h
        exact finv ha _ _ rfl (.tmp (v := .string x627) KR .nil) (.string x627) rfl ⟨rfl, HW.pick [] [] (by decide) (by decide) rfl KR⟩
end Go.Proofs.YtokdiacjcbolfaaDoor.F
