/- The block that asks for something (layer 15): the program's answer is the bytes of what can be asked. No condition. -/
import Derived.Test.YtpjcipadjegmlaaDoorUCdbBuildP
namespace Go.Proofs.YtpjcipadjegmlaaDoor.F
open Go Go.RowKit Go.Proofs.YtpjcipadjegmlaaDoor.X
open Classical
set_option linter.unusedVariables false
set_option linter.unusedSimpArgs false

theorem good_parts (x : T_cdb_Ask) (b : Int) (h : goodA x b) :
    (b = 18 → (0 ≤ x.f5 ∧ x.f5 ≤ 65535) ∧ (x.f4 = 0 ∨ (256 ≤ x.f4 ∧ x.f4 ≤ 511))) ∧
    ((b = 40 ∨ b = 42) → (0 ≤ x.f1 ∧ x.f1 ≤ 4294967295) ∧ (0 ≤ x.f2 ∧ x.f2 ≤ 65535) ∧ (b = 40 → x.f3 = false)) ∧
    ((b = 136 ∨ b = 138 ∨ b = 147) → (0 ≤ x.f1 ∧ x.f1 ≤ 2147483647) ∧ (0 ≤ x.f2 ∧ x.f2 ≤ 2147483647) ∧ (b = 136 → x.f3 = false)) ∧
    (b = 137 → (0 ≤ x.f1 ∧ x.f1 ≤ 2147483647) ∧ (0 ≤ x.f2 ∧ x.f2 ≤ 255)) ∧
    ((b = 66 ∨ b = 94) → (0 ≤ x.f5 ∧ x.f5 ≤ 65535)) ∧ (b = 160 → (0 ≤ x.f5 ∧ x.f5 ≤ 4294967295)) ∧ (b = 95 → x.f5 = 24) := by
  have fb : ∀ {p : Prop}, (x.f3 = true → p) → ¬ p → x.f3 = false := fun hp hn => by
    cases e : x.f3 with
    | false => rfl
    | true => exact absurd (hp e) hn
  unfold goodA at h
  rcases h with ⟨q, e⟩ | ⟨q, a1, a2, e⟩ | ⟨q, a1, a2, a3, e⟩ | ⟨q, a1, a2, a3, e⟩ | ⟨q, a1, a2, e⟩ | ⟨q, a1, e⟩ | ⟨q, a1, e⟩ | ⟨q, a0, a1, e⟩ | ⟨q, a0, e⟩ | ⟨q, a0, a1, e⟩
  · refine ⟨fun _ => by omega, fun _ => by omega, fun _ => by omega, fun _ => by omega, fun _ => by omega, fun _ => by omega, fun _ => by omega⟩
  · refine ⟨fun _ => ⟨a2, a1⟩, fun _ => by omega, fun _ => by omega, fun _ => by omega, fun _ => by omega, fun _ => by omega, fun _ => by omega⟩
  · refine ⟨fun _ => by omega, fun _ => ⟨a1, a2, fun hb => fb a3 (by omega)⟩, fun _ => by omega, fun _ => by omega, fun _ => by omega, fun _ => by omega, fun _ => by omega⟩
  · refine ⟨fun _ => by omega, fun _ => by omega, fun _ => ⟨a1, a2, fun hb => fb a3 (by omega)⟩, fun _ => by omega, fun _ => by omega, fun _ => by omega, fun _ => by omega⟩
  · refine ⟨fun _ => by omega, fun _ => by omega, fun _ => by omega, fun _ => ⟨a1, a2⟩, fun _ => by omega, fun _ => by omega, fun _ => by omega⟩
  · refine ⟨fun _ => by omega, fun _ => by omega, fun _ => by omega, fun _ => by omega, fun _ => a1, fun _ => by omega, fun _ => by omega⟩
  · refine ⟨fun _ => by omega, fun _ => by omega, fun _ => by omega, fun _ => by omega, fun _ => by omega, fun _ => a1, fun _ => by omega⟩
  · refine ⟨fun _ => by omega, fun _ => by omega, fun _ => by omega, fun _ => by omega, fun _ => a1, fun _ => by omega, fun _ => by omega⟩
  · refine ⟨fun _ => by omega, fun _ => by omega, fun _ => by omega, fun _ => by omega, fun _ => by omega, fun _ => by omega, fun _ => congrArg T_cdb_Ask.f5 e⟩
  · refine ⟨fun _ => by omega, fun _ => by omega, fun _ => by omega, fun _ => by omega, fun _ => by omega, fun _ => by omega, fun _ => congrArg T_cdb_Ask.f5 e⟩

theorem build_fin (x : T_cdb_Ask) (f : T_cdb_form) (l : List Int) (hl : l.length ≤ 1000) (K : Nat) (h2 : spanOk f.f2 l.length) (h3 : spanOk f.f3 l.length) (h4 : spanOk f.f4 l.length)
    (h : goodA x (opA x) → setIf (setIf (setIf l f.f2 x.f1) f.f3 x.f2) f.f4 x.f5 = layA x) : cdb_Build.j3 (K + 200) x f l = some (buildA x) := by
  rw [build_loop x f l hl K h2 h3 h4, tryA_is x _ h]

theorem u64id {v : Int} (h : 0 ≤ v ∧ v ≤ 4294967295) : IntKind.wrap .u64 v = v := wu h.1 (by omega)

set_option maxHeartbeats 4000000 in
theorem cdb_Build.is (x : T_cdb_Ask) (o : x.ok) (K : Nat) : cdb_Build.f (K + 200) x = some (buildA x) := by
  have hf0 := o.f0
  have e0 : cdb_Build.f (K + 200) x = cdb_Build.j0 (K + 200) x (opA x) := by
    unfold cdb_Build.f opA
    by_cases h : x.f0 > 255
    · rw [if_pos h, if_pos h, Int.tdiv_eq_ediv_of_nonneg (by omega), wi (by omega) (by omega)]
    · rw [if_neg h, if_neg h]
  rw [e0]
  unfold cdb_Build.j0
  rw [show cdb_formOf.f (K + 200) (opA x) = _ from cdb_formOf.is (opA x) (K + 130), Option.bind_some]
  by_cases hop : isOp (opA x)
  case neg =>
    rw [cOf_none _ hop, optc_none]
    unfold buildA
    rw [if_neg (fun h => hop (goodA_op x _ h).2.1)]
  have hpos : ¬ x.f0 < 0 := by
    intro h
    unfold isOp opA at hop
    rw [if_neg (by omega)] at hop
    omega
  have gp := fun h => good_parts x (opA x) h
  have fin := fun f l hl h2 h3 h4 h => build_fin x f l hl K h2 h3 h4 h
  unfold layA at fin
  unfold isOp at hop
  rcases hop with hb | hb | hb | hb | hb | hb | hb | hb | hb | hb | hb | hb | hb | hb <;> rw [hb] at gp fin ⊢
  · rw [show cOf 0 = some (⟨0, 6, ⟨0, 0⟩, ⟨0, 0⟩, ⟨0, 0⟩⟩ : T_cdb_form) from by kernel_rfl]
    simp only [optc_some]
    rw [if_neg hpos, asrt_pos (by decide), asrt_pos (by decide), asrt_pos (by simp)]
    simp [asrt_pos, cdb_Build.j1, cdb_Build.j2]
    exact fin (⟨0, 6, ⟨0, 0⟩, ⟨0, 0⟩, ⟨0, 0⟩⟩ : T_cdb_form) _ (by simp) (Or.inl rfl) (Or.inl rfl) (Or.inl rfl) (fun h => by kernel_rfl)
  · rw [show cOf 18 = some (⟨18, 6, ⟨0, 0⟩, ⟨0, 0⟩, ⟨3, 2⟩⟩ : T_cdb_form) from by kernel_rfl]
    simp only [optc_some]
    rw [if_neg hpos, asrt_pos (by decide), asrt_pos (by decide), asrt_pos (by simp)]
    simp only [if_true]
    rcases Int.lt_or_le 0 x.f4 with hp | hp
    · rw [if_pos (show x.f4 > 0 from hp), asrt_pos (by simp), asrt_pos (by simp)]
      refine fin (⟨18, 6, ⟨0, 0⟩, ⟨0, 0⟩, ⟨3, 2⟩⟩ : T_cdb_form) _ (by simp) (Or.inl rfl) (Or.inl rfl) (Or.inr ⟨by decide, by decide, by decide, by simp⟩) (fun h => ?_)
      have r := (gp h).1 rfl
      unfold setIf
      rw [u64id (v := x.f5) (by omega), if_pos (show x.f4 > 0 from hp), if_pos (show x.f4 > 0 from hp), wrapu8]
      exact (show _ = _ by kernel_rfl)
    · rw [if_neg (show ¬ x.f4 > 0 by omega)]
      refine fin (⟨18, 6, ⟨0, 0⟩, ⟨0, 0⟩, ⟨3, 2⟩⟩ : T_cdb_form) _ (by simp) (Or.inl rfl) (Or.inl rfl) (Or.inr ⟨by decide, by decide, by decide, by simp⟩) (fun h => ?_)
      have r := (gp h).1 rfl
      unfold setIf
      rw [u64id (v := x.f5) (by omega), if_neg (show ¬ x.f4 > 0 by omega), if_neg (show ¬ x.f4 > 0 by omega)]
      exact (show _ = _ by kernel_rfl)
  · rw [show cOf 37 = some (⟨37, 10, ⟨0, 0⟩, ⟨0, 0⟩, ⟨0, 0⟩⟩ : T_cdb_form) from by kernel_rfl]
    simp only [optc_some]
    rw [if_neg hpos, asrt_pos (by decide), asrt_pos (by decide), asrt_pos (by simp)]
    simp [asrt_pos, cdb_Build.j1, cdb_Build.j2]
    exact fin (⟨37, 10, ⟨0, 0⟩, ⟨0, 0⟩, ⟨0, 0⟩⟩ : T_cdb_form) _ (by simp) (Or.inl rfl) (Or.inl rfl) (Or.inl rfl) (fun h => by kernel_rfl)
  · rw [show cOf 40 = some (⟨40, 10, ⟨2, 4⟩, ⟨7, 2⟩, ⟨0, 0⟩⟩ : T_cdb_form) from by kernel_rfl]
    simp only [optc_some]
    rw [if_neg hpos, asrt_pos (by decide), asrt_pos (by decide), asrt_pos (by simp)]
    simp [asrt_pos, cdb_Build.j1, cdb_Build.j2]
    refine fin (⟨40, 10, ⟨2, 4⟩, ⟨7, 2⟩, ⟨0, 0⟩⟩ : T_cdb_form) _ (by simp) (Or.inr ⟨by decide, by decide, by decide, by simp⟩) (Or.inr ⟨by decide, by decide, by decide, by simp⟩) (Or.inl rfl) (fun h => ?_)
    have r := (gp h).2.1 (Or.inl rfl)
    unfold setIf
    rw [u64id (v := x.f1) (by omega), u64id (v := x.f2) (by omega)]
    rw [r.2.2 rfl]
    exact (show _ = _ by kernel_rfl)
  · rw [show cOf 136 = some (⟨136, 16, ⟨2, 8⟩, ⟨10, 4⟩, ⟨0, 0⟩⟩ : T_cdb_form) from by kernel_rfl]
    simp only [optc_some]
    rw [if_neg hpos, asrt_pos (by decide), asrt_pos (by decide), asrt_pos (by simp)]
    simp [asrt_pos, cdb_Build.j1, cdb_Build.j2]
    refine fin (⟨136, 16, ⟨2, 8⟩, ⟨10, 4⟩, ⟨0, 0⟩⟩ : T_cdb_form) _ (by simp) (Or.inr ⟨by decide, by decide, by decide, by simp⟩) (Or.inr ⟨by decide, by decide, by decide, by simp⟩) (Or.inl rfl) (fun h => ?_)
    have r := (gp h).2.2.1 (Or.inl rfl)
    unfold setIf
    rw [u64id (v := x.f1) (by omega), u64id (v := x.f2) (by omega)]
    rw [r.2.2 rfl]
    exact (show _ = _ by kernel_rfl)
  · rw [show cOf 42 = some (⟨42, 10, ⟨2, 4⟩, ⟨7, 2⟩, ⟨0, 0⟩⟩ : T_cdb_form) from by kernel_rfl]
    simp only [optc_some]
    rw [if_neg hpos, asrt_pos (by decide), asrt_pos (by decide), asrt_pos (by simp)]
    cases hf : x.f3
    · simp [asrt_pos, cdb_Build.j1, cdb_Build.j2, hf]
      refine fin (⟨42, 10, ⟨2, 4⟩, ⟨7, 2⟩, ⟨0, 0⟩⟩ : T_cdb_form) _ (by simp) (Or.inr ⟨by decide, by decide, by decide, by simp⟩) (Or.inr ⟨by decide, by decide, by decide, by simp⟩) (Or.inl rfl) (fun h => ?_)
      have r := (gp h).2.1 (Or.inr rfl)
      unfold setIf
      rw [u64id (v := x.f1) (by omega), u64id (v := x.f2) (by omega), hf]
      exact (show _ = _ by kernel_rfl)
    · simp [asrt_pos, cdb_Build.j1, cdb_Build.j2, hf]
      refine fin (⟨42, 10, ⟨2, 4⟩, ⟨7, 2⟩, ⟨0, 0⟩⟩ : T_cdb_form) _ (by simp) (Or.inr ⟨by decide, by decide, by decide, by simp⟩) (Or.inr ⟨by decide, by decide, by decide, by simp⟩) (Or.inl rfl) (fun h => ?_)
      have r := (gp h).2.1 (Or.inr rfl)
      unfold setIf
      rw [u64id (v := x.f1) (by omega), u64id (v := x.f2) (by omega), hf]
      exact (show _ = _ by kernel_rfl)
  · rw [show cOf 138 = some (⟨138, 16, ⟨2, 8⟩, ⟨10, 4⟩, ⟨0, 0⟩⟩ : T_cdb_form) from by kernel_rfl]
    simp only [optc_some]
    rw [if_neg hpos, asrt_pos (by decide), asrt_pos (by decide), asrt_pos (by simp)]
    cases hf : x.f3
    · simp [asrt_pos, cdb_Build.j1, cdb_Build.j2, hf]
      refine fin (⟨138, 16, ⟨2, 8⟩, ⟨10, 4⟩, ⟨0, 0⟩⟩ : T_cdb_form) _ (by simp) (Or.inr ⟨by decide, by decide, by decide, by simp⟩) (Or.inr ⟨by decide, by decide, by decide, by simp⟩) (Or.inl rfl) (fun h => ?_)
      have r := (gp h).2.2.1 (Or.inr (Or.inl rfl))
      unfold setIf
      rw [u64id (v := x.f1) (by omega), u64id (v := x.f2) (by omega), hf]
      exact (show _ = _ by kernel_rfl)
    · simp [asrt_pos, cdb_Build.j1, cdb_Build.j2, hf]
      refine fin (⟨138, 16, ⟨2, 8⟩, ⟨10, 4⟩, ⟨0, 0⟩⟩ : T_cdb_form) _ (by simp) (Or.inr ⟨by decide, by decide, by decide, by simp⟩) (Or.inr ⟨by decide, by decide, by decide, by simp⟩) (Or.inl rfl) (fun h => ?_)
      have r := (gp h).2.2.1 (Or.inr (Or.inl rfl))
      unfold setIf
      rw [u64id (v := x.f1) (by omega), u64id (v := x.f2) (by omega), hf]
      exact (show _ = _ by kernel_rfl)
  · rw [show cOf 53 = some (⟨53, 10, ⟨0, 0⟩, ⟨0, 0⟩, ⟨0, 0⟩⟩ : T_cdb_form) from by kernel_rfl]
    simp only [optc_some]
    rw [if_neg hpos, asrt_pos (by decide), asrt_pos (by decide), asrt_pos (by simp)]
    simp [asrt_pos, cdb_Build.j1, cdb_Build.j2]
    exact fin (⟨53, 10, ⟨0, 0⟩, ⟨0, 0⟩, ⟨0, 0⟩⟩ : T_cdb_form) _ (by simp) (Or.inl rfl) (Or.inl rfl) (Or.inl rfl) (fun h => by kernel_rfl)
  · rw [show cOf 66 = some (⟨66, 10, ⟨0, 0⟩, ⟨0, 0⟩, ⟨7, 2⟩⟩ : T_cdb_form) from by kernel_rfl]
    simp only [optc_some]
    rw [if_neg hpos, asrt_pos (by decide), asrt_pos (by decide), asrt_pos (by simp)]
    simp [asrt_pos, cdb_Build.j1, cdb_Build.j2]
    refine fin (⟨66, 10, ⟨0, 0⟩, ⟨0, 0⟩, ⟨7, 2⟩⟩ : T_cdb_form) _ (by simp) (Or.inl rfl) (Or.inl rfl) (Or.inr ⟨by decide, by decide, by decide, by simp⟩) (fun h => ?_)
    have r := (gp h).2.2.2.2.1 (Or.inl rfl)
    unfold setIf
    rw [u64id (v := x.f5) (by omega)]
    exact (show _ = _ by kernel_rfl)
  · rw [show cOf 137 = some (⟨137, 16, ⟨2, 8⟩, ⟨13, 1⟩, ⟨0, 0⟩⟩ : T_cdb_form) from by kernel_rfl]
    simp only [optc_some]
    rw [if_neg hpos, asrt_pos (by decide), asrt_pos (by decide), asrt_pos (by simp)]
    simp [asrt_pos, cdb_Build.j1, cdb_Build.j2]
    refine fin (⟨137, 16, ⟨2, 8⟩, ⟨13, 1⟩, ⟨0, 0⟩⟩ : T_cdb_form) _ (by simp) (Or.inr ⟨by decide, by decide, by decide, by simp⟩) (Or.inr ⟨by decide, by decide, by decide, by simp⟩) (Or.inl rfl) (fun h => ?_)
    have r := (gp h).2.2.2.1 rfl
    unfold setIf
    rw [u64id (v := x.f1) (by omega), u64id (v := x.f2) (by omega)]
    exact (show _ = _ by kernel_rfl)
  · rw [show cOf 147 = some (⟨147, 16, ⟨2, 8⟩, ⟨10, 4⟩, ⟨0, 0⟩⟩ : T_cdb_form) from by kernel_rfl]
    simp only [optc_some]
    rw [if_neg hpos, asrt_pos (by decide), asrt_pos (by decide), asrt_pos (by simp)]
    simp [asrt_pos, cdb_Build.j1, cdb_Build.j2]
    refine fin (⟨147, 16, ⟨2, 8⟩, ⟨10, 4⟩, ⟨0, 0⟩⟩ : T_cdb_form) _ (by simp) (Or.inr ⟨by decide, by decide, by decide, by simp⟩) (Or.inr ⟨by decide, by decide, by decide, by simp⟩) (Or.inl rfl) (fun h => ?_)
    have r := (gp h).2.2.1 (Or.inr (Or.inr rfl))
    unfold setIf
    rw [u64id (v := x.f1) (by omega), u64id (v := x.f2) (by omega)]
    exact (show _ = _ by kernel_rfl)
  · rw [show cOf 94 = some (⟨94, 10, ⟨0, 0⟩, ⟨0, 0⟩, ⟨7, 2⟩⟩ : T_cdb_form) from by kernel_rfl]
    simp only [optc_some]
    rw [if_neg hpos, asrt_pos (by decide), asrt_pos (by decide), asrt_pos (by simp)]
    simp [asrt_pos, cdb_Build.j1, cdb_Build.j2]
    refine fin (⟨94, 10, ⟨0, 0⟩, ⟨0, 0⟩, ⟨7, 2⟩⟩ : T_cdb_form) _ (by simp) (Or.inl rfl) (Or.inl rfl) (Or.inr ⟨by decide, by decide, by decide, by simp⟩) (fun h => ?_)
    have r := (gp h).2.2.2.2.1 (Or.inr rfl)
    unfold setIf
    rw [u64id (v := x.f5) (by omega), wrapu8]
    exact (show _ = _ by kernel_rfl)
  · rw [show cOf 95 = some (⟨95, 10, ⟨0, 0⟩, ⟨0, 0⟩, ⟨5, 4⟩⟩ : T_cdb_form) from by kernel_rfl]
    simp only [optc_some]
    rw [if_neg hpos, asrt_pos (by decide), asrt_pos (by decide), asrt_pos (by simp)]
    simp [asrt_pos, cdb_Build.j1, cdb_Build.j2, cdb_Number.is]
    refine fin (⟨95, 10, ⟨0, 0⟩, ⟨0, 0⟩, ⟨5, 4⟩⟩ : T_cdb_form) _ (by simp) (Or.inl rfl) (Or.inl rfl) (Or.inr ⟨by decide, by decide, by decide, by simp⟩) (fun h => ?_)
    have r := (gp h).2.2.2.2.2.2 rfl
    have hn : IntKind.wrap .u8 (noC x.f6) = noC x.f6 := by
      rw [wrapu8]
      unfold noC
      (repeat' split) <;> omega
    unfold setIf
    rw [u64id (v := x.f5) (by omega), hn, wrapu8]
    exact (show _ = _ by kernel_rfl)
  · rw [show cOf 160 = some (⟨160, 12, ⟨0, 0⟩, ⟨0, 0⟩, ⟨6, 4⟩⟩ : T_cdb_form) from by kernel_rfl]
    simp only [optc_some]
    rw [if_neg hpos, asrt_pos (by decide), asrt_pos (by decide), asrt_pos (by simp)]
    simp [asrt_pos, cdb_Build.j1, cdb_Build.j2]
    refine fin (⟨160, 12, ⟨0, 0⟩, ⟨0, 0⟩, ⟨6, 4⟩⟩ : T_cdb_form) _ (by simp) (Or.inl rfl) (Or.inl rfl) (Or.inr ⟨by decide, by decide, by decide, by simp⟩) (fun h => ?_)
    have r := (gp h).2.2.2.2.2.1 rfl
    unfold setIf
    rw [u64id (v := x.f5) (by omega)]
    exact (show _ = _ by kernel_rfl)

end Go.Proofs.YtpjcipadjegmlaaDoor.F
