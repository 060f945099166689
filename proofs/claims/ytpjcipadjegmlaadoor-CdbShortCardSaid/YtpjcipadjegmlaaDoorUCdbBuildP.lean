/- The block that asks for something (layer 15): the program's answer. No condition. -/
import Derived.Test.YtpjcipadjegmlaaDoorUCdbBuild
namespace Go.Proofs.YtpjcipadjegmlaaDoor.F
open Go Go.RowKit Go.Proofs.YtpjcipadjegmlaaDoor.X
open Classical
set_option linter.unusedVariables false
set_option linter.unusedSimpArgs false

def setL (l : List Int) (p : Nat) (m : List Int) : List Int := l.take p ++ m ++ l.drop (p + m.length)
theorem setL_length (l : List Int) (p : Nat) (m : List Int) (h : p + m.length ≤ l.length) : (setL l p m).length = l.length := by
  simp [setL]; omega
theorem fields_Set.is (l m : List Int) (p : Int) (h0 : 0 ≤ p) (h : p + m.length ≤ l.length) (hl : l.length ≤ 1000000) : fields_Set.f (strOfNums l) p (strOfNums m) = some (strOfNums (setL l p.toNat m), true) := by
  unfold fields_Set.f
  have e1 : IntKind.wrap .i64 ((l.length : Int) - (m.length : Int)) = (l.length : Int) - m.length := by rw [wi] <;> omega
  have e2 : IntKind.wrap .i64 (p + (m.length : Int)) = p + m.length := by rw [wi] <;> omega
  have s1 : ((strOfNums l).extract 0 p.toNat).size = p.toNat := by rw [nums_left, strOfNums_size, List.length_take]; omega
  simp only [strOfNums_size, e1, e2]
  have nr : (strOfNums l).extract (p + (m.length : Int)).toNat l.length = strOfNums (l.drop (p.toNat + m.length)) := by
    rw [nums_extract, List.take_of_length_le (Nat.le_refl _), show (p + (m.length : Int)).toNat = p.toNat + m.length by omega]
  rw [if_neg (by omega), if_neg (by omega), if_neg (by omega), asrt_pos (by omega), asrt_pos (by omega), asrt_pos (by rw [s1]; omega), asrt_pos (by omega), asrt_pos (by omega), nr, asrt_pos ?_]
  · rw [nums_left, nums_append, nums_append]; rfl
  · rw [ByteArray.size_append, s1, strOfNums_size, strOfNums_size, List.length_drop]
    omega

def setIf (l : List Int) (p : T_cdb_span) (v : Int) : List Int := if p.f1 > 0 then setL l p.f0.toNat (beB (IntKind.wrap .u64 v) p.f1.toNat) else l
def spanOk (p : T_cdb_span) (n : Nat) : Prop := p.f1 = 0 ∨ (1 ≤ p.f1 ∧ p.f1 ≤ 8 ∧ 0 ≤ p.f0 ∧ p.f0 + p.f1 ≤ n)
theorem setIf_length (l : List Int) (p : T_cdb_span) (v : Int) (h : spanOk p l.length) : (setIf l p v).length = l.length := by
  unfold setIf
  split
  · rw [setL_length]
    rw [beB_length]
    rcases h with h | h <;> omega
  · rfl
noncomputable def tryA (x : T_cdb_Ask) (l : List Int) : ByteArray × Int := if cparse (strOfNums l) = (x, 0) then (strOfNums l, 0) else (⟨#[]⟩, 150)

theorem build_step (x : T_cdb_Ask) (f : T_cdb_form) (l : List Int) (hl : l.length ≤ 1000) (K k : Nat) (i : Int) (p : T_cdb_span) (v : Int) (h0 : 0 ≤ i) (h3 : i < 3) (hp : rdL T_cdb_span.z [⟨f.f2.f0, f.f2.f1⟩, ⟨f.f3.f0, f.f3.f1⟩, ⟨f.f4.f0, f.f4.f1⟩] i = p) (hv : rdL (0 : Int) [x.f1, x.f2, x.f5] i = v) (hs : spanOk p l.length) :
    cdb_Build.l0 (K + 200) x f (k + 1) (strOfNums l) i = cdb_Build.l0 (K + 200) x f k (strOfNums (setIf l p v)) (i + 1) := by
  have e1 : IntKind.wrap .i64 (i + 1) = i + 1 := by rw [wi] <;> omega
  have hw := wrapu64 v
  rw [cdb_Build.l0]
  unfold cdb_Build.b0
  rw [if_pos (by simpa using h3), asrt_pos h0, asrt_pos (by simpa using h3), hp, hv, e1]
  unfold setIf
  by_cases c : p.f1 > 0
  · rw [if_pos c, if_pos c]
    rcases hs with h | ⟨h1, h8, hp0, hpl⟩
    · omega
    have hp8 : ((p.f1.toNat : Nat) : Int) = p.f1 := by omega
    have hput : fields_PutBig.f (K + 200) (IntKind.wrap .u64 v) p.f1 = some (strOfNums (beB (IntKind.wrap .u64 v) p.f1.toNat)) := by
      have := fields_PutBig.is (IntKind.wrap .u64 v) (by rw [hw]; omega) p.f1.toNat (K + 191) (by omega) (by omega)
      rw [hp8] at this
      exact this
    rw [hput, Option.bind_some, fields_Set.is l _ p.f0 hp0 (by rw [beB_length]; omega) (by omega), Option.bind_some]
  · rw [if_neg c, if_neg c]

theorem build_loop (x : T_cdb_Ask) (f : T_cdb_form) (l : List Int) (hl : l.length ≤ 1000) (K : Nat) (h2 : spanOk f.f2 l.length) (h3 : spanOk f.f3 l.length) (h4 : spanOk f.f4 l.length) :
    cdb_Build.j3 (K + 200) x f l = some (tryA x (setIf (setIf (setIf l f.f2 x.f1) f.f3 x.f2) f.f4 x.f5)) := by
  have l1 := setIf_length l f.f2 x.f1 h2
  have l2 := setIf_length (setIf l f.f2 x.f1) f.f3 x.f2 (by rw [l1]; exact h3)
  have l3 := setIf_length (setIf (setIf l f.f2 x.f1) f.f3 x.f2) f.f4 x.f5 (by rw [l2, l1]; exact h4)
  unfold cdb_Build.j3
  refine (build_step x f l hl K (K + 199) 0 f.f2 x.f1 (by omega) (by omega) rfl rfl h2).trans ?_
  refine (build_step x f _ (by omega) K (K + 198) (0 + 1) f.f3 x.f2 (by omega) (by omega) rfl rfl (by rw [l1]; exact h3)).trans ?_
  refine (build_step x f _ (by omega) K (K + 197) (0 + 1 + 1) f.f4 x.f5 (by omega) (by omega) rfl rfl (by rw [l2, l1]; exact h4)).trans ?_
  generalize setIf (setIf (setIf l f.f2 x.f1) f.f3 x.f2) f.f4 x.f5 = L at l3
  rw [cdb_Build.l0]
  unfold cdb_Build.b0
  rw [if_neg (by simp), show cdb_Parse.f (K + 200) (strOfNums L) = _ from cdb_Parse.is (strOfNums L) (by rw [strOfNums_size]; omega) (K + 130), Option.bind_some]
  unfold tryA
  generalize cparse (strOfNums L) = z
  obtain ⟨⟨z0, z1, z2, z3, z4, z5, z6⟩, e⟩ := z
  obtain ⟨x0, x1, x2, x3, x4, x5, x6⟩ := x
  simp only [Prod.mk.injEq, T_cdb_Ask.mk.injEq]
  by_cases he : e = 0
  · rw [if_pos he]
    by_cases h : (z0 = x0 ∧ z1 = x1 ∧ z2 = x2 ∧ z3 = x3 ∧ z4 = x4 ∧ z5 = x5 ∧ z6 = x6)
    · obtain ⟨rfl, rfl, rfl, rfl, rfl, rfl, rfl⟩ := h
      simp [he]
    · rw [if_pos, if_neg (fun q => h q.1)]
      simp only [Bool.not_eq_true', Bool.and_eq_false_iff, beq_eq_false_iff_ne, Bool.and_true]
      by_cases g0 : z0 = x0
      · by_cases g1 : z1 = x1
        · by_cases g2 : z2 = x2
          · by_cases g3 : z3 = x3
            · by_cases g4 : z4 = x4
              · by_cases g5 : z5 = x5
                · by_cases g6 : z6 = x6
                  · exact absurd ⟨g0, g1, g2, g3, g4, g5, g6⟩ h
                  · simp [g6]
                · simp [g5]
              · simp [g4]
            · simp [g3]
          · simp [g2]
        · simp [g1]
      · simp [g0]
  · rw [if_neg he, if_neg (fun q => he q.2)]

/-- The bytes of what can be asked. -/
noncomputable def buildA (x : T_cdb_Ask) : ByteArray × Int := if goodA x (opA x) then (strOfNums (layA x), 0) else (⟨#[]⟩, 150)

theorem isOp_of_good (s : ByteArray) (x : T_cdb_Ask) (h : cparse s = (x, 0)) : goodA x (bt s 0) ∧ isOp (bt s 0) := by
  by_cases hb : s.size = 0 ∨ lenC (bt s 0) = 0 ∨ ¬ (s.size : Int) = lenC (bt s 0) ∨ ¬ bt s (lenC (bt s 0) - 1) = 0
  · rw [cparse_bad s hb] at h
    exact absurd (Prod.mk.inj h).2 (by decide)
  · simp only [not_or, Classical.not_not] at hb
    obtain ⟨h1, h2, h3, h4⟩ := hb
    have hop : isOp (bt s 0) := by
      by_cases q : isOp (bt s 0)
      · exact q
      · exact absurd (lenC_none _ q) h2
    rw [cparse_good s h1 h2 h3 h4] at h
    exact ⟨pbody_good s _ hop x h, hop⟩
/-- What was tried is what is told, where the bytes of a good one are right. -/
theorem tryA_is (x : T_cdb_Ask) (l : List Int) (h : goodA x (opA x) → l = layA x) : tryA x l = buildA x := by
  unfold tryA buildA
  by_cases hg : goodA x (opA x)
  · rw [if_pos hg, h hg, if_pos (lay_parse x _ hg)]
  · rw [if_neg hg, if_neg]
    intro hc
    have := isOp_of_good _ x hc
    have e := (goodA_op x _ this.1).1
    rw [e] at this
    exact hg this.1

theorem wru8 (op : Int) (h : isOp op) : IntKind.wrap .u8 op = op := by unfold isOp at h; rw [wrapu8]; omega

end Go.Proofs.YtpjcipadjegmlaaDoor.F
