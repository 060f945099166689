/- headgate/frame.Get: what it comes to, by what headgate/frame.got comes to, a panic among that. No condition. -/
import Derived.Test.YtdcojinnjpihaaaDoorXAbsPan
import Derived.Test.YtdcojinnjpihaaaDoorProg
namespace Go.Proofs.YtdcojinnjpihaaaDoor.X
open Go Go.RowKit
set_option linter.unusedVariables false
set_option linter.unusedSimpArgs false

noncomputable def gB : Code := bodyOf Tryd.prog 14
noncomputable def gB1 : Code := seqR gB
noncomputable def gB2 : Code := seqR gB1
noncomputable def gB3 : Code := seqR gB2
noncomputable def gB4 : Code := seqR gB3
noncomputable def gC : Code := bodyOf Tryd.prog 27
noncomputable def gC1 : Code := blkC (seqR gC)
noncomputable def gC2 : Code := seqR gC1
noncomputable def gC3 : Code := ifF gC2
noncomputable def gC4 : Code := seqR gC3
noncomputable def gC5 : Code := ifT gC4
noncomputable def gcall : CallF := runF Tryd.prog 0 nolib 4
noncomputable def ggo : Code → List Value → Heap → Option (Ex × List Value × Heap) := runC Tryd.prog 0 nolib 4
def gpn (k : Nat) : Value := .pointer (some ⟨k, 0, none⟩)
def gfr0 (s : ByteArray) : List Value := .string s :: List.replicate 15 undef
def gfr1 (s : ByteArray) : List Value := [.string s, undef, gpn 0, gpn 1, gpn 2, gpn 3] ++ List.replicate 10 undef
def gcap : List Value := [gpn 0, gpn 1, gpn 2, gpn 3]
def gfr2 (s : ByteArray) : List Value := [.string s, undef, gpn 0, gpn 1, gpn 2, gpn 3, .func (.func 27) #[] #[gpn 0, gpn 1, gpn 2, gpn 3]] ++ List.replicate 9 undef
def gfr3 (s : ByteArray) : List Value := [.string s, undef, gpn 0, gpn 1, gpn 2, gpn 3, .func (.func 27) #[] #[gpn 0, gpn 1, gpn 2, gpn 3], undef, .string s] ++ List.replicate 7 undef
noncomputable def gH1 : Heap := ((runT Tryd.prog 0 gcall ggo (seqL gB) (gfr0 ⟨#[]⟩) [] (heap0 0)).map (·.2.2.2)).getD (heap0 0)

theorem gN : NoNum Tryd.prog := noNum_of (by kernel_rfl)
theorem gM : Tryd.prog.follows .mixedOrders = true := by kernel_rfl
theorem gcall_ok : ∀ f args H v H', gcall f args H = some (v, H') → CallOk Tryd.prog 0 f args H v H' := runF_ok gN gM (nolib_ok _ _) 4
theorem ggo_ok : ∀ c fr H ex fr' H', ggo c fr H = some (ex, fr', H') → CodeOk Tryd.prog 0 c fr H ex fr' H' := (runC_ok gN gM (nolib_ok _ _) 4).1

theorem gtok1 (s : ByteArray) : TOk Tryd.prog 0 (seqL gB) (gfr0 s) [] (heap0 0) .normal (gfr1 s) [] gH1 := runT_ok gN gcall_ok ggo_ok _ _ _ _ _ _ _ _ (by kernel_rfl)
theorem gtok2 (s : ByteArray) : TOk Tryd.prog 0 (seqL gB1) (gfr1 s) [] gH1 .normal (gfr2 s) [(27, gcap)] gH1 := runT_ok gN gcall_ok ggo_ok _ _ _ _ _ _ _ _ (by kernel_rfl)

theorem gmu {k : Nat} {q : Loc} {p : Prop} (hk : mu0 0 k = some q) : p := by
  unfold mu0 at hk
  split at hk
  · rename_i h1; have := Nat.le_of_ble_eq_true h1; omega
  · cases hk

theorem gglob (μ : Nat → Option Loc) : Glob μ 0 := fun g hg => absurd hg (by omega)

theorem get_start (s : ByteArray) (w : World) (R : Ending → World → Prop) (Rg : World → Ending → World → Prop) (h : ∀ W, Below w.heap.size w W → Calls Tryd.prog 28 #[.string s] W (Rg W))
    (hk : ∀ (W0 W : World) (e : Ending) (μ : Nat → Option Loc) (a : Act) (Ds : List Deferred), Rg W0 e W → HR Tryd.prog w μ (ov gH1 fun _ => none) W0 → DR μ [(27, gcap)] Ds → FR Ds μ (gfr3 s) a → Free μ gH1.next →
      (∃ v', e = .returned v' ∧ wpList Tryd.prog (regOps (seqL gB2)) (Exit.then (gB3.wp Tryd.prog (bodyPostD Tryd.prog Tryd.f14 R)) (bodyPostD Tryd.prog Tryd.f14 R)) ((regOps (seqL gB2)).toList.drop 2) (a.put (some 9) v') W) ∨
      (∃ c, e = .panicked c ∧ bodyPostD Tryd.prog Tryd.f14 R (.panic c) a W)) : Calls Tryd.prog 14 #[.string s] w R := by
  have hsp : gB = .seq (seqL gB) gB1 := seq_split (by kernel_rfl)
  have hsp1 : gB1 = .seq (seqL gB1) gB2 := seq_split (by kernel_rfl)
  have hsp2 : gB2 = .seq (seqL gB2) gB3 := seq_split (by kernel_rfl)
  refine calls_of_wp_defers (fn := Tryd.f14) (c := gB) (by kernel_rfl) (by kernel_rfl) ?_
  have hf0 : FR [] (mu0 0) (gfr0 s) { tmps := #[Value.string s] ++ Array.replicate (Tryd.f14.ntmps - (#[Value.string s] : Array Value).size) undef, defers := [] } := by
    refine ⟨rfl, ?_⟩
    have e : (#[Value.string s] ++ Array.replicate (Tryd.f14.ntmps - (#[Value.string s] : Array Value).size) undef).toList = gfr0 s := by
      rw [Array.toList_append, Array.toList_replicate]; rfl
    rw [e]
    refine ⟨rfl, fun i x y hx hy => ?_⟩
    rw [hx] at hy; cases hy
    rcases i with _ | i
    · simp [gfr0] at hx; subst hx; exact .string s
    · have : x ∈ List.replicate 15 undef := List.mem_of_getElem? (i := i) (by simpa [gfr0] using hx)
      rw [List.eq_of_mem_replicate this]; exact VR.undef
  have hfree0 : Free (mu0 0) (heap0 0).next := fun k hk => by
    unfold mu0
    split
    · rename_i h1; have := Nat.le_of_ble_eq_true h1; omega
    · rfl
  have hw0 : HR Tryd.prog w (mu0 0) (ov (heap0 0) fun _ => none) w := ⟨Below.refl _ _, fun k c e hk => (by simp [ov, heap0, Heap.get, Trie.get] at hk), fun k c e hk => (by simp [ov, heap0, Heap.get, Trie.get] at hk), fun k k' c c' e e' l l' hk => (by simp [ov, heap0, Heap.get, Trie.get] at hk),
        fun k c e hk => (by simp [ov, heap0, Heap.get, Trie.get] at hk), fun k k' c c' e e' l l' hk => (by simp [ov, heap0, Heap.get, Trie.get] at hk)⟩
  rw [hsp]
  refine wp_seq (wp_mono ((gtok1 s).wp [] w (mu0 0) (fun _ => none) w _ hf0 .nil hfree0 (gglob _) hw0) fun e a1 W1 hp => ?_)
  obtain ⟨rfl, Ds1, μ1, hd1, _, hf1, hfree1, hw1⟩ := hp
  show gB1.wp _ _ _ _
  rw [hsp1]
  refine wp_seq (wp_mono ((gtok2 s).wp Ds1 w μ1 (fun _ => none) W1 a1 hf1 hd1 hfree1 (gglob _) hw1) fun e a2 W2 hp => ?_)
  obtain ⟨rfl, Ds2, μ2, hd2, _, hf2, hfree2, hw2⟩ := hp
  show gB2.wp _ _ _ _
  rw [hsp2, lit_split (c := seqL gB2) (by kernel_rfl)]
  refine wp_seq (wp_region_list ?_)
  have hcut : (regOps (seqL gB2)).toList = (regOps (seqL gB2)).toList.take 1 ++ ((regOps (seqL gB2)).toList.drop 1) := (List.take_append_drop 1 _).symm
  show wpList _ (regOps (seqL gB2)) _ _ _ _
  rw [hcut]
  refine runO_pre (call := gcall) gN gcall_ok _ _ (gfr2 s) gH1 (gfr3 s) gH1 μ2 a2 W2 (by kernel_rfl) hf2 hfree2 (gglob _) hw2 fun a3 W3 hp => ?_
  obtain ⟨μ3, e3, hf3, hfree3, hw3⟩ := hp
  have hcut2 : (regOps (seqL gB2)).toList.drop 1 = ((regOps (seqL gB2)).toList.getD 1 (default : Oper)) :: (regOps (seqL gB2)).toList.drop 2 := by kernel_rfl
  rw [hcut2]
  refine wpList_call (H := gH1) (f := 28) (args := [.string s]) (R := Rg W3) gN (by kernel_rfl) (by kernel_rfl) (by kernel_rfl) (by kernel_rfl) hf3 (gglob _) hw3 (fun args' hv => ?_) fun e W' hR => ?_
  · obtain ⟨y, ys, hy, h1, h2⟩ := hv.inv_cons
    obtain rfl := h2.inv_nil
    cases h1
    have : args' = #[.string s] := by apply Array.ext'; simpa using hy
    rw [this]
    exact h W3 hw3.below
  · have hdst : ((regOps (seqL gB2)).toList.getD 1 (default : Oper)).dst = some 9 := by kernel_rfl
    rw [hdst]
    exact hk W3 W' e μ3 a3 Ds2 hR hw3 (hd2.ext e3.ext) hf3 hfree3

def gtup (n : Int) (t : ByteArray) (z : Int) : Value := .tuple #[.int .u64 n, .string t, .int .i64 z]
def gfr4 (s : ByteArray) (n : Int) (t : ByteArray) (z : Int) : List Value := [.string s, undef, gpn 0, gpn 1, gpn 2, gpn 3, .func (.func 27) #[] #[gpn 0, gpn 1, gpn 2, gpn 3], undef, .string s, gtup n t z] ++ List.replicate 6 undef
noncomputable def gR4 (s : ByteArray) (n : Int) (t : ByteArray) (z : Int) : List Value × Heap := (runO Tryd.prog 0 gcall (regOps (seqL gB2)) ((regOps (seqL gB2)).toList.drop 2) (gfr4 s n t z) gH1).getD ([], heap0 0)
noncomputable def gR5 (s : ByteArray) (n : Int) (t : ByteArray) (z : Int) : Ex × List Value × Heap := ((runDp Tryd.prog 0 gcall (regOps (seqL gB3)) (gR4 s n t z).1 (gR4 s n t z).2).map fun x => (Ex.ret, x.1, x.2.1)).getD (.normal, [], heap0 0)
noncomputable def gR6 (s : ByteArray) (n : Int) (t : ByteArray) (z : Int) : Heap := (runDs Tryd.prog 0 gcall ggo [(27, gcap)] (gR5 s n t z).2.2).getD (heap0 0)

theorem get_ok (s : ByteArray) (n : Int) (t : ByteArray) (z : Int) (w : World) (h : ∀ W, Below w.heap.size w W → Calls Tryd.prog 28 #[.string s] W fun e W' => e = .returned (gtup n t z) ∧ Below W.heap.size W W') :
    Calls Tryd.prog 14 #[.string s] w fun e W' => e = .returned (.tuple #[.int .u64 n, .string t, .int .i64 z, .int .i64 0]) ∧ Below w.heap.size w W' := by
  refine (get_start s w (fun e W' => ∃ μ' v', e = Ending.returned v' ∧ ExtN 0 (mu0 0) μ' ∧ VR μ' (oneOf [Value.int .u64 n, .string t, .int .i64 z, .int .i64 0]) v' ∧ Free μ' (gR6 s n t z).next ∧ HR Tryd.prog w μ' (ov (gR6 s n t z) fun _ => none) W') (fun W e W' => e = .returned (gtup n t z) ∧ Below W.heap.size W W') h fun W0 W e μ a Ds hR hw hd hf hfree => .inl ?_).mono ?_
  rotate_left
  · rintro e W' ⟨μ', v', rfl, _, hv, _, hR⟩
    exact ⟨by rw [flat_eq (v := oneOf [Value.int .u64 n, .string t, .int .i64 z, .int .i64 0]) rfl hv]; rfl, hR.below⟩
  obtain ⟨rfl, hb⟩ := hR
  refine ⟨_, rfl, ?_⟩
  have hw := hw.of_below hb
  have hf4 : FR Ds μ (gfr4 s n t z) (a.put (some 9) (gtup n t z)) := hf.put (some 9) (v := gtup n t z) (flat_rel rfl)
  refine runO_ok (call := gcall) gN gcall_ok _ _ gH1 (gR4 s n t z).1 (gR4 s n t z).2 μ _ W (by kernel_rfl) hf4 hfree (gglob _) hw fun a4 W4 hp => ?_
  obtain ⟨μ4, e4, hf4, hfree4, hw4⟩ := hp
  have hc5 : CodeOk Tryd.prog 0 gB3 (gR4 s n t z).1 (gR4 s n t z).2 .ret (gR5 s n t z).2.1 (gR5 s n t z).2.2 := by
    have h1 : gB3 = .seq (seqL gB3) (seqR gB3) := seq_split (by kernel_rfl)
    rw [h1, drw_split (c := seqL gB3) (by kernel_rfl)]
    exact codeOk_seq (codeOk_drawn (call := gcall) (fr' := (gR5 s n t z).2.1) (H' := (gR5 s n t z).2.2) gN gM gcall_ok (by kernel_rfl) (by kernel_rfl)) (ggo_ok _ _ _ _ _ _ (by kernel_rfl))
  show gB3.wp _ _ _ _
  refine wp_mono (hc5.wp Ds w μ4 (fun _ => none) W4 a4 hf4 hfree4 (gglob _) hw4) fun e a5 W5 hp => ?_
  obtain ⟨rfl, μ5, e5, hf5, hfree5, hw5⟩ := hp
  have hds : runDs Tryd.prog 0 gcall ggo [(27, gcap)] (gR5 s n t z).2.2 = some (gR6 s n t z) := by kernel_rfl
  have hvs : ares Tryd.prog (gR5 s n t z).2.1 (gR6 s n t z) Tryd.f14.results.toList = some [.int .u64 n, .string t, .int .i64 z, .int .i64 0] := by kernel_rfl
  have hL := runDs_ok gN gcall_ok ggo_ok (fn := Tryd.f14) hvs (n := 0) (μ0 := mu0 0) (w0 := w) (E := fun _ => none) _ _ Ds Ds μ5 W5 hds (Nat.zero_le _) ⟨fun k q hk => gmu hk, fun k hk => absurd hk (by omega)⟩ ((hd.ext e4.ext).ext e5.ext) hf5 hfree5 (gglob _) hw5
  rw [← hf5.1] at hL
  exact hL

/-! ### A panic -/
def gpv (k : Int) : Value := .iface 61 (.agg #[.int .i64 k])
def gfc0 : List Value := gcap ++ List.replicate 11 undef
noncomputable def gfc1 (k : Int) : List Value := fput gfc0 (some 7) (gpv k)
noncomputable def gfc2 (k : Int) : List Value := fput (gfc1 k) (some 9) (.bool false)
noncomputable def gfc3 (k : Int) : List Value := fput (fput (fput (gfc2 k) (some 10) (.tuple #[.agg #[.int .i64 k], .bool true])) (some 11) (.bool true)) (some 12) (.agg #[.int .i64 k])
noncomputable def gRB (k : Int) : Ex × List Value × Heap := (ggo (seqL gC5) (gfc3 k) gH1).getD (.normal, [], heap0 0)
noncomputable def gRC (k : Int) : Ex × List Value × Heap := ((runDp Tryd.prog 0 gcall (regOps (seqR gC5)) (gRB k).2.1 (gRB k).2.2).map fun x => (Ex.normal, x.1, x.2.1)).getD (.normal, [], heap0 0)
noncomputable def goC : Oper := (regOps (seqL gC)).toList.getD 0 default

theorem get_pan (s : ByteArray) (k : Int) (w : World) (h : ∀ W, Below w.heap.size w W → Calls Tryd.prog 28 #[.string s] W fun e W' => e = .panicked [{ v := gpv k, recovered := false }] ∧ Below W.heap.size W W') :
    Calls Tryd.prog 14 #[.string s] w fun e W' => e = .returned (.tuple #[.int .u64 0, .string ⟨#[]⟩, .int .i64 0, .int .i64 k]) ∧ Below w.heap.size w W' := by
  refine get_start s w _ (fun W e W' => e = .panicked [{ v := gpv k, recovered := false }] ∧ Below W.heap.size W W') h fun W0 W e μ a Ds hR hw hd hf hfree => .inr ?_
  obtain ⟨rfl, hb⟩ := hR
  refine ⟨_, rfl, ?_⟩
  have hw := hw.of_below hb
  show Leaves _ _ _ _ _ _ _
  rw [hf.1]
  cases hd with
  | cons hd1 hds =>
    cases hds
    obtain ⟨cap, args, rfl, hv⟩ := hd1
    have hv : VL μ gcap (args ++ cap).toList := by simpa using hv
    have hsz : (args ++ cap).size = 4 := by have := hv.1; simpa [gcap] using this.symm
    refine leaves_cons (f := 27) (args := args ++ cap) (by simp) ?_ ?_
    · have hne := gN 27 Tryd.f27 (by kernel_rfl) (by kernel_rfl)
      have hfn : Tryd.prog.funcs[27]? = some Tryd.f27 := by kernel_rfl
      have hbn : Tryd.f27.body = some gC := by kernel_rfl
      simp [invoke, callFunc, hfn, hne, hbn]
    · refine callsD_of_wpS (fn := Tryd.f27) (c := gC) (by kernel_rfl) (by kernel_rfl) fun c0 cs hmode => ?_
      have hf0 : FR [] μ gfc0 { tmps := (args ++ cap) ++ Array.replicate (Tryd.f27.ntmps - (args ++ cap).size) undef, defers := [] } := by
        refine ⟨rfl, ?_⟩
        have hn : Tryd.f27.ntmps - (args ++ cap).size = 11 := by rw [hsz]; kernel_rfl
        simp only [hn]
        rw [Array.toList_append, Array.toList_replicate]
        refine hv.append ⟨rfl, fun i x y hx hy => ?_⟩
        rw [hx] at hy; cases hy
        rw [List.eq_of_mem_replicate (List.mem_of_getElem? hx)]; exact VR.undef
      generalize ({ tmps := (args ++ cap) ++ Array.replicate (Tryd.f27.ntmps - (args ++ cap).size) undef, defers := [] } : Act) = a0 at hf0 ⊢
      have hsp : gC = .seq (seqL gC) (seqR gC) := seq_split (by kernel_rfl)
      rw [hsp, lit_split (c := seqL gC) (by kernel_rfl)]
      refine wpS_seq (wpS_region ?_)
      have hrg : List.range (regOps (seqL gC)).size = [0] := by kernel_rfl
      rw [hrg]
      have ho : (regOps (seqL gC))[0]? = some goC := by kernel_rfl
      unfold wpOpsS
      simp only [ho]
      have hwant : awant (regOps (seqL gC)) gfc0 goC = true := by kernel_rfl
      rw [hf0.want, hwant, if_pos rfl, isRec_run (by kernel_rfl)]
      have hrec : recoverD (c0 :: cs) = some (gpv k, { c0 with mode := .panicking [{ v := gpv k, recovered := true }] } :: cs) := by simp [recoverD, hmode]
      simp only [hrec]
      have hdst : goC.dst = some 7 := by kernel_rfl
      rw [hdst]
      have hf1 : FR [] μ (gfc1 k) (a0.put (some 7) (gpv k)) := hf0.put (some 7) (v := gpv k) (.iface (flat_rel rfl))
      have hl7 : (a0.put (some 7) (gpv k)).tmps.toList.length = 15 := hf1.2.1.symm.trans (by rfl)
      have h7 : (a0.put (some 7) (gpv k)).tmps[7]? = some (gpv k) := by
        have h8 : (a0.tmps).size = 15 := by simpa [Act.put] using hl7
        simp [Act.put, h8]
      generalize a0.put (some 7) (gpv k) = a1 at hf1 hl7 h7 ⊢
      show Code.wpS _ _ _ _ _ _
      refine wpS_of_wp ?_
      rw [blk_split (c := seqR gC) (by kernel_rfl)]
      refine wp_block ?_
      show Code.wp _ gC1 _ _ _
      have hsp1 : gC1 = .seq (seqL gC1) gC2 := seq_split (by kernel_rfl)
      rw [hsp1, lit_split (c := seqL gC1) (by kernel_rfl)]
      refine wp_seq (wp_region_list ?_)
      have hl1 : (regOps (seqL gC1)).toList = [(regOps (seqL gC1)).toList.getD 0 default] := by kernel_rfl
      rw [hl1]
      have ha1 : Has 15 [(7, gpv k)] a1 := (hasNil (by simpa using hl7) hf1.1).add h7
      have hd9 : ((regOps (seqL gC1)).toList.getD 0 default).dst = some 9 := by kernel_rfl
      refine wpList_fix ha1 (.bool false) (by kernel_rfl) (by kernel_rfl) ?_
      rw [hd9]
      have hf2 : FR [] μ (gfc2 k) (a1.put (some 9) (.bool false)) := hf1.put (some 9) (v := .bool false) (.bool _)
      have ha2 : Has 15 [(7, gpv k)] (a1.put (some 9) (.bool false)) := ⟨by have := ha1.size; simpa [Act.put] using this, hf2.1, fun s v hs => by
        have h1 := ha1.slot s v hs
        have hs7 : s = 7 := by
          simp only [look] at hs
          split at hs
          · rename_i hb; exact (Nat.eq_of_beq_eq_true hb).symm
          · cases hs
        subst hs7
        show (a1.tmps.setIfInBounds 9 _)[7]? = some v
        rw [Array.getElem?_setIfInBounds, if_neg (by omega)]
        exact h1⟩
      have he9 : (a1.put (some 9) (.bool false)).eval (.tmp 9) = .bool false := by
        have := hf2.ev (gglob μ) (x := .tmp 9) rfl
        exact flat1_eq (v := .bool false) rfl this
      generalize a1.put (some 9) (.bool false) = a2 at hf2 ha2 he9 ⊢
      show Code.wp _ gC2 _ _ _
      rw [if_split (c := gC2) (by kernel_rfl)]
      have hb2 : ifB gC2 = .tmp 9 := by kernel_rfl
      rw [hb2]
      refine wp_cond_false he9 ?_
      show Code.wp _ gC3 _ _ _
      have hsp3 : gC3 = .seq (seqL gC3) gC4 := seq_split (by kernel_rfl)
      rw [hsp3, lit_split (c := seqL gC3) (by kernel_rfl)]
      refine wp_seq (wp_region_list ?_)
      have hl3 : (regOps (seqL gC3)).toList = [(regOps (seqL gC3)).toList.getD 0 default, (regOps (seqL gC3)).toList.getD 1 default, (regOps (seqL gC3)).toList.getD 2 default] := by kernel_rfl
      rw [hl3]
      refine wpList_fix ha2 (.tuple #[.agg #[.int .i64 k], .bool true]) (by kernel_rfl) (by kernel_rfl) ?_
      have hd10 : ((regOps (seqL gC3)).toList.getD 0 default).dst = some 10 := by kernel_rfl
      have hd11 : ((regOps (seqL gC3)).toList.getD 1 default).dst = some 11 := by kernel_rfl
      have hd12 : ((regOps (seqL gC3)).toList.getD 2 default).dst = some 12 := by kernel_rfl
      rw [hd10]
      have hf3 := hf2.put (some 10) (v := .tuple #[.agg #[.int .i64 k], .bool true]) (v' := .tuple #[.agg #[.int .i64 k], .bool true]) (flat_rel rfl)
      generalize a2.put (some 10) (.tuple #[.agg #[.int .i64 k], .bool true]) = a3 at hf3 ⊢
      have ha3 : Has 15 [(10, .tuple #[.agg #[.int .i64 k], .bool true])] a3 := by
        have hl : a3.tmps.toList.length = 15 := hf3.2.1.symm.trans (by rfl)
        refine (hasNil (by simpa using hl) hf3.1).add ?_
        obtain ⟨y, h1, h2⟩ := hf3.2.get (i := 10) (x := .tuple #[.agg #[.int .i64 k], .bool true]) (by rfl)
        rw [flat_eq rfl h2] at h1
        simpa using h1
      refine wpList_fix ha3 (.bool true) (by kernel_rfl) (by kernel_rfl) ?_
      rw [hd11]
      have hf4 := hf3.put (some 11) (v := .bool true) (v' := .bool true) (flat_rel rfl)
      generalize a3.put (some 11) (.bool true) = a4 at hf4 ⊢
      have ha4 : Has 15 [(10, .tuple #[.agg #[.int .i64 k], .bool true])] a4 := by
        have hl : a4.tmps.toList.length = 15 := hf4.2.1.symm.trans (by rfl)
        refine (hasNil (by simpa using hl) hf4.1).add ?_
        obtain ⟨y, h1, h2⟩ := hf4.2.get (i := 10) (x := .tuple #[.agg #[.int .i64 k], .bool true]) (by rfl)
        rw [flat_eq rfl h2] at h1
        simpa using h1
      refine wpList_fix ha4 (.agg #[.int .i64 k]) (by kernel_rfl) (by kernel_rfl) ?_
      rw [hd12]
      have hf5 : FR [] μ (gfc3 k) (a4.put (some 12) (.agg #[.int .i64 k])) := hf4.put (some 12) (v := .agg #[.int .i64 k]) (flat_rel rfl)
      generalize a4.put (some 12) (.agg #[.int .i64 k]) = a5 at hf5 ⊢
      have he11 : a5.eval (.tmp 11) = .bool true := flat1_eq (v := .bool true) rfl (hf5.ev (gglob μ) (x := .tmp 11) rfl)
      show Code.wp _ gC4 _ _ _
      rw [if_split (c := gC4) (by kernel_rfl)]
      have hb4 : ifB gC4 = .tmp 11 := by kernel_rfl
      rw [hb4]
      refine wp_cond_true he11 ?_
      show Code.wp _ gC5 _ _ _
      have hc : CodeOk Tryd.prog 0 gC5 (gfc3 k) gH1 .normal (gRC k).2.1 (gRC k).2.2 := by
        have h1 : gC5 = .seq (seqL gC5) (seqR gC5) := seq_split (by kernel_rfl)
        rw [h1, drw_split (c := seqR gC5) (by kernel_rfl)]
        exact codeOk_seq (fr1 := (gRB k).2.1) (H1 := (gRB k).2.2) (ggo_ok _ _ _ _ _ _ (by kernel_rfl)) (codeOk_drawn (call := gcall) (fr' := (gRC k).2.1) (H' := (gRC k).2.2) gN gM gcall_ok (by kernel_rfl) (by kernel_rfl))
      refine wp_mono (hc.wp [] w μ (fun _ => none) W a5 hf5 hfree (gglob μ) hw) fun e a6 W6 hp => ?_
      obtain ⟨rfl, μ6, e6, hf6, hfree6, hw6⟩ := hp
      obtain ⟨v27, r1, r2⟩ := results_ok (fn := Tryd.f27) (vs := []) (LeG.ov (gRC k).2.2 (fun _ => none)) hf6 hw6 (by kernel_rfl)
      refine ⟨hf6.1, _, rfl, v27, r1, ?_⟩
      obtain ⟨v14, q1, q2⟩ := results_ok (fn := Tryd.f14) (vs := [.int .u64 0, .string ⟨#[]⟩, .int .i64 0, .int .i64 k]) (LeG.ov (gRC k).2.2 (fun _ => none)) (hf.ext e6.ext) hw6 (by kernel_rfl)
      refine ⟨v14, q1, ?_, hw6.below⟩
      rw [flat_eq (v := oneOf [.int .u64 0, .string ⟨#[]⟩, .int .i64 0, .int .i64 k]) rfl q2]
      rfl
end Go.Proofs.YtdcojinnjpihaaaDoor.X
