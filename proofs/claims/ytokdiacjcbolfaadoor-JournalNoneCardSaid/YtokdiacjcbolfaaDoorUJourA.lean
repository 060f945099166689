/- headgate/headgatelaw06.JournalNone by a plain run: the body in parts, one case for each of Mod's hundred values. No condition. -/
import Derived.Test.YtokdiacjcbolfaaDoorXLibB
namespace Go.Proofs.YtokdiacjcbolfaaDoor.F
open Go Go.RowKit Go.Proofs.YtokdiacjcbolfaaDoor.X

noncomputable def jB : Code := bodyOf Tryd.prog 4
noncomputable def jR0 : Code := seqL jB
noncomputable def jR1 : Code := seqL (seqR jB)
noncomputable def jP : Code := seqL (seqR (seqR jB))
noncomputable def jQ : Code := seqR (seqR (seqR jB))
noncomputable def jR2 : Code := seqL jP
noncomputable def jC : Code := seqR jP
noncomputable def jR4 : Code := seqL jQ
noncomputable def jRest : Code := seqR jQ

theorem jB_is : jB = .seq jR0 (.seq jR1 (.seq (.seq jR2 (.cond (ifB jC) (ifT jC) (ifF jC))) (.seq jR4 jRest))) := by
  have h1 : jB = .seq jR0 (seqR jB) := seq_split (by kernel_rfl)
  have h2 : seqR jB = .seq jR1 (seqR (seqR jB)) := seq_split (by kernel_rfl)
  have h3 : seqR (seqR jB) = .seq jP jQ := seq_split (by kernel_rfl)
  have h4 : jP = .seq jR2 jC := seq_split (by kernel_rfl)
  have h5 : jC = .cond (ifB jC) (ifT jC) (ifF jC) := if_split (by kernel_rfl)
  have h6 : jQ = .seq jR4 jRest := seq_split (by kernel_rfl)
  rw [h1, h2, h3, h4, h6]
  rw [← h5]

noncomputable def jH : Heap := heapL 4 [(1, 127, crcTab)]
noncomputable def jRun (M : Int → Int) (c : Code) (fr : List Value) : Option (Ex × List Value × Heap) := runC Tryd.prog 4 (libOf (lib2 M)) 100000 c fr jH
def frOf (x : Option (Ex × List Value × Heap)) : List Value := match x with
  | some (_, fr, _) => fr
  | none => []
noncomputable def jF0 (t : ByteArray) (k : Int) : List Value := [.string t, .int .i64 k] ++ List.replicate 104 undef
noncomputable def jFA (t : ByteArray) (k : Int) : List Value := frOf (jRun modV jR0 (jF0 t k))
noncomputable def jFB (t : ByteArray) (k : Int) : List Value := frOf (jRun modV jR1 (jFA t k))
noncomputable def jFC (t : ByteArray) (k : Int) : List Value := frOf (jRun modV jR2 (jFB t k))
noncomputable def jFT (t : ByteArray) (k : Int) : List Value := frOf (jRun modV (ifT jC) (jFC t k))
noncomputable def jFM (t : ByteArray) (k m : Int) : List Value := frOf (jRun (fun _ => m) jR4 (jFC t k))

theorem jA_run (t : ByteArray) (k : Int) : jRun modV jR0 (jF0 t k) = some (.normal, jFA t k, jH) := by kernel_rfl
theorem jB_run (t : ByteArray) (k : Int) : jRun modV jR1 (jFA t k) = some (.normal, jFB t k, jH) := by kernel_rfl
theorem jC_run (t : ByteArray) (k : Int) : jRun modV jR2 (jFB t k) = some (.normal, jFC t k, jH) := by kernel_rfl
theorem jC_op : opd1 4 (ifB jC) = true := by kernel_rfl
theorem jC_val (t : ByteArray) (k : Int) : aev (jFC t k) (ifB jC) = .bool (!(Nat.ble t.data.toList.length 70000)) := by kernel_rfl
theorem jT_run (t : ByteArray) (k : Int) : jRun modV (ifT jC) (jFC t k) = some (.ret, jFT t k, jH) := by kernel_rfl
theorem jT_res (t : ByteArray) (k : Int) : ares Tryd.prog (jFT t k) jH [.tmp 4] = some [.bool true] := by kernel_rfl
theorem jS_run (t : ByteArray) (k : Int) : jRun modV (ifF jC) (jFC t k) = some (.normal, jFC t k, jH) := by kernel_rfl
theorem jM_run (t : ByteArray) (k : Int) : jRun modV jR4 (jFC t k) = some (.normal, jFM t k (modV k), jH) := by kernel_rfl

noncomputable def toldR (x : Option (Ex × List Value × Heap)) : Bool := match x with
  | some (.ret, fr, H) => match ares Tryd.prog fr H [.tmp 4] with
    | some [.bool b] => b
    | _ => false
  | _ => false

theorem toldR_spec {x : Option (Ex × List Value × Heap)} (h : toldR x = true) : ∃ fr H, x = some (.ret, fr, H) ∧ ares Tryd.prog fr H [.tmp 4] = some [.bool true] := by
  unfold toldR at h
  split at h
  · rename_i fr H
    split at h
    · rename_i b hb
      subst h
      exact ⟨fr, H, rfl, hb⟩
    · cases h
  · cases h

noncomputable def jTold (t : ByteArray) (k : Int) (c : Nat) : Bool := toldR (jRun modV jRest (jFM t k (.ofNat c)))
end Go.Proofs.YtokdiacjcbolfaaDoor.F
