/- What makes a command (layer 27), as the document has it. No condition. -/
import Derived.Test.YthjjbkgifelooaaDoorUNresvWord
import Derived.Test.YthjjbkgifelooaaDoorUNresvRef
import Derived.Test.YthjjbkgifelooaaDoorUKeep
import Derived.Test.YthjjbkgifelooaaDoorF27
namespace Go.Proofs.YthjjbkgifelooaaDoor.F
open Go Go.RowKit Go.Proofs.YthjjbkgifelooaaDoor.X
open Classical
set_option linter.unusedVariables false
set_option linter.unusedSimpArgs false

def badW : T_headgateref27_Word × Int := (⟨0, 0, ⟨#[]⟩⟩, 180)
def wOf (c : T_api_Cmd) (k r : Int) : Int := IntKind.wrap .u32 (IntKind.wrap .i64 ((IntKind.wrap .i64 (k + r)) + (IntKind.wrap .i64 (c.f11 * 256))))
theorem wOf_range (c : T_api_Cmd) (k r : Int) : 0 ≤ wOf c k r ∧ wOf c k r ≤ 4294967295 := by unfold wOf; rw [wrapu32]; omega

theorem refj4_is (c : T_api_Cmd) (hl : c.f7.length ≤ 100) (k r op : Int) (s : ByteArray) (K : Nat) : headgateref27_Words.j4 (K + 200) c k r op s =
    some (if 0 ≤ c.f11 ∧ c.f11 ≤ 255 ∧ nchg op (wOf c k r) s = (c, 0) then (⟨op, wOf c k r, s⟩, 0) else badW) := by
  unfold headgateref27_Words.j4
  by_cases h0 : c.f11 < 0
  · rw [if_pos h0, if_neg (by omega)]; rfl
  rw [if_neg h0]
  by_cases h1 : c.f11 > 255
  · rw [if_pos h1, if_neg (by omega)]; rfl
  rw [if_neg h1]
  have hw := wOf_range c k r
  rw [show headgateref27_Change.f (K + 200) op (IntKind.wrap .u32 (IntKind.wrap .i64 ((IntKind.wrap .i64 (k + r)) + (IntKind.wrap .i64 (c.f11 * 256))))) s = some (nchg op (wOf c k r) s) from headgateref27_Change.is op (wOf c k r) hw.1 hw.2 s (K + 130), Option.bind_some]
  have e : (IntKind.wrap .u32 (IntKind.wrap .i64 ((IntKind.wrap .i64 (k + r)) + (IntKind.wrap .i64 (c.f11 * 256))))) = wOf c k r := rfl
  rw [e]
  generalize nchg op (wOf c k r) s = z
  obtain ⟨z1, z2⟩ := z
  simp only
  by_cases hz : z2 = 0
  · subst hz
    rw [if_pos rfl, headgatekeep_Cmds.is c z1 _ (by omega) (by omega), Option.bind_some]
    by_cases hc : c = z1
    · subst hc
      rw [if_pos (by simp), if_pos ⟨by omega, by omega, rfl⟩]
    · rw [if_neg (by simp [hc]), if_neg (fun h => hc (Prod.mk.inj h.2.2).1.symm)]; rfl
  · rw [if_neg hz, if_neg (fun h => hz (Prod.mk.inj h.2.2).2)]; rfl

theorem refj4_bad (c : T_api_Cmd) (hl : c.f7.length ≤ 100) (hv : ¬ vld c) (k r op : Int) (s : ByteArray) (K : Nat) : headgateref27_Words.j4 (K + 200) c k r op s = some badW := by
  have hw := wOf_range c k r
  rw [refj4_is c hl, if_neg (fun h => hv (vld_of _ _ _ _ hw.1 hw.2 h.2.2))]
theorem refj4_good (c : T_api_Cmd) (o : c.ok) (hl : c.f7.length ≤ 100) (hv : vld c) (k r op : Int) (s : ByteArray) (K : Nat) (hop : op = opOf c) (hw : wOf c k r = wordOf c) (hs : s = strOfNums (numsC c)) : headgateref27_Words.j4 (K + 200) c k r op s = some (⟨opOf c, wordOf c, strOfNums (numsC c)⟩, 0) := by
  rw [refj4_is c hl, hw, hop, hs, if_pos]
  refine ⟨?_, ?_, of_vld c o hv⟩ <;> (rcases hv.2 with ⟨_, _, h, _⟩ | ⟨_, _, _, h, h', _⟩ | ⟨_, _, h, h', _⟩ | ⟨_, _, _, h, _⟩ <;> omega)

noncomputable def wspecR (c : T_api_Cmd) : T_headgateref27_Word × Int := (⟨(wspec c).1, (wspec c).2.1, (wspec c).2.2.1⟩, (wspec c).2.2.2)
theorem wspecR_not (c : T_api_Cmd) (h : ¬ vld c) : wspecR c = badW := by unfold wspecR wspec; rw [if_neg h]; rfl
theorem wspecR_yes (c : T_api_Cmd) (h : vld c) : wspecR c = (⟨opOf c, wordOf c, strOfNums (numsC c)⟩, 0) := by unfold wspecR wspec; rw [if_pos h]

theorem refput8 (v : Int) (h : 0 ≤ v ∧ v ≤ 18446744073709551615) (K : Nat) : headgateref01_PutLittle.f (K + 200) v 8 = some (strOfNums (ltB v 8)) := headgateref01_PutLittle.is v h.1 h.2 8 (K + 191) (by omega) (by omega)

theorem headgateref27_Words.is (c : T_api_Cmd) (o : c.ok) (hl : c.f7.length ≤ 100) (K : Nat) : headgateref27_Words.f (K + 200) c = some (wspecR c) := by
  have h8 := o.f8
  have h9 := o.f9
  have h10 := o.f10
  have s8 : ∀ v, (strOfNums (ltB v 8)).size = 8 := fun v => by rw [strOfNums_size, ltB_length]
  unfold headgateref27_Words.f
  rw [refput8 _ h8, Option.bind_some]
  by_cases hv : vld c
  · rw [wspecR_yes c hv]
    have j4 := fun k r op s hop hw hs => refj4_good c o hl hv k r op s K hop hw hs
    obtain ⟨_, hv2⟩ := id hv
    rcases hv2 with ⟨q0, q10, q11, q13⟩ | ⟨q0 | q0, q9, q10, ha, hb, q12, q13⟩ | ⟨q0, q9, ha, hb, q12, q13⟩ | ⟨q0, q9, q10, q11, q12, q13⟩
    · rw [if_pos q0]
      have wd : wordOf c = regW c := by unfold wordOf; rw [if_pos q0]
      have j3 : ∀ k r, wOf c k r = regW c → headgateref27_Words.j3 (K + 200) c (strOfNums (ltB c.f8 8)) k r = some (⟨opOf c, wordOf c, strOfNums (numsC c)⟩, 0) := by
        intro k r hw
        unfold headgateref27_Words.j3
        rw [refput8 _ h9, Option.bind_some, asrt_pos (by rw [s8, s8]; omega)]
        exact j4 _ _ _ _ (by unfold opOf; rw [if_pos q0]) (by rw [hw, wd]) (by rw [nums_append]; unfold numsC; rw [if_pos q0])
      have j0 : ∀ k, k = kindOf c → headgateref27_Words.j0 (K + 200) c (strOfNums (ltB c.f8 8)) k = some (⟨opOf c, wordOf c, strOfNums (numsC c)⟩, 0) := by
        intro k hk
        unfold headgateref27_Words.j0 headgateref27_Words.j1 headgateref27_Words.j2
        have hk3 : k = 0 ∨ k = 1 ∨ k = 2 := by rw [hk]; unfold kindOf; (repeat' split) <;> simp
        have fin : ∀ r r', r = r' → r' = (if c.f12 = true then 8 else 0) + (if c.f13 = 0 then 0 else (c.f13 + 1) * 1073741824) → headgateref27_Words.j3 (K + 200) c (strOfNums (ltB c.f8 8)) k r = some (⟨opOf c, wordOf c, strOfNums (numsC c)⟩, 0) := by
          intro r r' hrr hr
          subst hrr
          refine j3 k r ?_
          unfold wOf regW
          rw [← hk, q11, hr]
          rcases q13 with h | h | h <;> rw [h] <;> cases c.f12 <;> rcases hk3 with rfl | rfl | rfl <;> rfl
        rcases q13 with h | h | h <;> rw [h] <;> cases e : c.f12 <;> simp <;> refine fin _ _ rfl ?_ <;> rw [h, e] <;> rfl
      by_cases q9 : c.f9 = 0
      · rw [if_pos q9]; exact j0 1 (by unfold kindOf; rw [if_pos q9])
      · rw [if_neg q9]
        by_cases q8 : c.f8 = 0
        · rw [if_pos q8]; exact j0 0 (by unfold kindOf; rw [if_neg q9, if_pos q8])
        · rw [if_neg q8]; exact j0 2 (by unfold kindOf; rw [if_neg q9, if_neg q8])
    · have wd : wordOf c = c.f11 * 256 := by unfold wordOf; rw [if_neg (by omega), if_pos (Or.inl q0)]
      rw [if_neg (by omega), if_pos q0, refput8 0 (by omega), Option.bind_some, asrt_pos (by rw [s8, s8]; omega)]
      exact j4 _ _ _ _ (by unfold opOf; rw [if_neg (by omega), if_pos (Or.inl q0)]) (by unfold wOf; rw [wd]; simp only [wrapi64, wrapu32]; omega) (by rw [nums_append]; unfold numsC; rw [if_neg (by omega), if_pos (Or.inl q0), q10])
    · have wd : wordOf c = c.f11 * 256 := by unfold wordOf; rw [if_neg (by omega), if_pos (Or.inr q0)]
      rw [if_neg (by omega), if_neg (by omega), if_neg (by omega), if_pos q0]
      exact j4 _ _ _ _ (by unfold opOf; rw [if_neg (by omega), if_neg (by omega)]) (by unfold wOf; rw [wd]; simp only [wrapi64, wrapu32]; omega) (by unfold numsC; rw [if_neg (by omega), if_neg (by omega)])
    · have wd : wordOf c = 1 + c.f11 * 256 := by unfold wordOf; rw [if_neg (by omega), if_neg (by omega), if_pos q0]
      rw [if_neg (by omega), if_neg (by omega), if_pos q0, refput8 _ h10, Option.bind_some, asrt_pos (by rw [s8, s8]; omega)]
      exact j4 _ _ _ _ (by unfold opOf; rw [if_neg (by omega), if_pos (Or.inr q0)]) (by unfold wOf; rw [wd]; simp only [wrapi64, wrapu32]; omega) (by rw [nums_append]; unfold numsC; rw [if_neg (by omega), if_pos (Or.inr q0)])
    · have wd : wordOf c = 1 := by unfold wordOf; rw [if_neg (by omega), if_neg (by omega), if_neg (by omega)]
      rw [if_neg (by omega), if_neg (by omega), if_neg (by omega), if_neg (by omega), if_pos q0]
      exact j4 _ _ _ _ (by unfold opOf; rw [if_neg (by omega), if_neg (by omega)]) (by unfold wOf; rw [wd, q11]; rfl) (by unfold numsC; rw [if_neg (by omega), if_neg (by omega)])
  · rw [wspecR_not c hv]
    have j4 := fun k r op s => refj4_bad c hl hv k r op s K
    have j0 : ∀ k, headgateref27_Words.j0 (K + 200) c (strOfNums (ltB c.f8 8)) k = some badW := by
      intro k
      have j3 : ∀ k r, headgateref27_Words.j3 (K + 200) c (strOfNums (ltB c.f8 8)) k r = some badW := by
        intro k r
        unfold headgateref27_Words.j3
        rw [refput8 _ h9, Option.bind_some, asrt_pos (by rw [s8, s8]; omega)]
        exact j4 _ _ _ _
      unfold headgateref27_Words.j0 headgateref27_Words.j1 headgateref27_Words.j2
      (repeat' split) <;> exact j3 _ _
    (repeat' split)
    all_goals first
      | exact j0 _
      | exact j4 _ _ _ _
      | rfl
      | (rw [refput8 _ (by first | exact h10 | omega), Option.bind_some, asrt_pos (by rw [s8, s8]; omega)]; exact j4 _ _ _ _)

end Go.Proofs.YthjjbkgifelooaaDoor.F
