import Derived.Test.YtokdiacjcbolfaaDoorCards
import Derived.Test.YtokdiacjcbolfaaDoorTie
import Derived.Test.YtokdiacjcbolfaaDoorBJournalSwitch6
set_option linter.unusedVariables false
set_option linter.unusedSimpArgs false
namespace Go.Proofs.YtokdiacjcbolfaaDoor.F
open Go Go.RowKit Go.Proofs.YtokdiacjcbolfaaDoor.X
set_option linter.unusedVariables false
set_option linter.unusedSimpArgs false
def Rest (N fr H : Nat) (D : q04) (s a : Nat) (fs : Frs) : Option (Nat × Frs) → Prop
 | none => ∃ c, DRel N D c [] ∧ JS fr H c s a fs
 | some p => ∃ c, DRel N D c [(fr + s % 2, slotB s a fs.length)] ∧ 2 ≤ s ∧ JS fr H c (s - 1) p.1 p.2 ∧ JS fr H (view c [(fr + s % 2, slotB s a fs.length)]) s a fs
section
variable {N fr H a s used : Nat} {D : q04} {base : ByteArray} {recs : List ByteArray} {fs : Frs} {lf : Option Nat} {prev : Option (Nat × Frs)}
theorem Live.rest (h : Live N fr H lf D s a fs prev) : Rest N fr H D s a fs prev := by
 cases prev with
 | none => obtain ⟨c, h1, _, h3⟩ := h; exact ⟨c, h1, h3⟩
 | some p => obtain ⟨c, h1, _, h3⟩ := h; exact ⟨c, h1, h3⟩
theorem crash_rest (K : Nat) (h : Rest N fr H D s a fs prev) (hH : fr + 4 + 2 * H ≤ N) (keep : List Int) (hK : 2 ≤ K) :
  ∃ D', q09.f K D keep = some D' ∧ (Live N fr H none D' s a fs none ∨ ∃ a' fs', prev = some (a', fs') ∧ Live N fr H none D' (s - 1) a' fs' none) := by
 cases prev with
 | none =>
  obtain ⟨c, h1, h3⟩ := h
  obtain ⟨D', e1, e2, e3, e4⟩ := crash_run K h1 keep (by simp) (by simp; omega)
  exact ⟨D', e1, .inl ⟨c, e2, ⟨e3, e4⟩, h3⟩⟩
 | some p =>
  obtain ⟨c, h1, hs, h3, h4⟩ := h
  obtain ⟨D', e1, e2, e3, e4⟩ := crash_run K h1 keep (by simp) (by simp; omega)
  refine ⟨D', e1, ?_⟩
  rcases crash_held h1 hs h3 h4 hH keep with h5 | h5
  ·exact .inl ⟨_, e2, ⟨e3, e4⟩, h5⟩
  ·exact .inr ⟨p.1, p.2, rfl, _, e2, ⟨e3, e4⟩, h5⟩
theorem arm_live {k : Nat} (h : Live N fr H lf D s a fs prev) (hk : k ≤ 1000000) : ∃ D', q2r.f D (k : Int) = some D' ∧ Live N fr H (some k) D' s a fs prev := by
 have hm : mx (k : Int) 0 = (k : Int) := by unfold mx; split <;> omega
 have up : ∀ {c hs}, DRel N D c hs → Fl D lf → DRel N (⟨D.f0, D.f1, D.f2, (⟨(), (), D.f3.f2⟩ : q03), true, mx (k : Int) 0, D.f6⟩ : q04) c hs ∧ Fl (⟨D.f0, D.f1, D.f2, (⟨(), (), D.f3.f2⟩ : q03), true, mx (k : Int) 0, D.f6⟩ : q04) (some k) := fun h hf => ⟨⟨h.n1, h.n2, h.l0, h.l1, h.safe, h.now, h.held, h.hok⟩, hf.1, rfl, hm, hk⟩
 refine ⟨_, rfl, ?_⟩
 cases prev with
 | none => obtain ⟨c, h1, h2, h3⟩ := h; exact ⟨c, (up h1 h2).1, (up h1 h2).2, h3⟩
 | some p => obtain ⟨c, h1, h2, h3⟩ := h; exact ⟨c, (up h1 h2).1, (up h1 h2).2, h3⟩
theorem torn_other (keep : List Int) (i : Nat) : ∀ (hs : Held) (c : Nat → ByteArray) (j : Nat), (∀ h ∈ hs, h.1 ≠ i) → torn c keep hs j i = c i
 | [], c, j, _ => rfl
 | h :: r, c, j, hk => by
  show torn (q3p c h (keepN keep j)) keep r (j + 1) i = _
  rw [torn_other keep i r _ _ (fun x hx => hk x (List.mem_cons_of_mem _ hx))]
  unfold q3p
  rw [if_neg (hk h List.mem_cons_self)]
set_option maxRecDepth 20000 in
theorem ckpt_armed (K : Nat) (h : Live N fr H lf D s a fs none) (text : ByteArray) (ht : text.size ≤ 65536) (hu : sec text.size ≤ H) (hN : fr + 4 + 2 * H ≤ N) (hs1 : s + 1 < 4000000000000000000) (hK : 600000 ≤ K) :
    ∃ e J' D', q0f.f K (mkJ fr H a s base recs used false false) D text = some (e, J', D') ∧
      ((e = 0 ∧ J' = mkJ fr H (1 - a) (s + 1) text [] (sec text.size) true false ∧ Live N fr H (less lf (sec text.size + 2)) D' (s + 1) (1 - a) [(s + 1, text)] (some (a, fs))) ∨
       (e = 41 ∧ ∀ keep, ∃ D'', q09.f K D' keep = some D'' ∧ Live N fr H none D'' s a fs none)) := by
  obtain ⟨c, h1, h2, h3⟩ := h
  have hN2 := h1.n2
  have ha := h3.a1
  have hsec : 1 ≤ sec text.size := by unfold sec; omega
  have hsec2 : sec text.size ≤ 200 := by unfold sec; omega
  obtain ⟨e, J', D', e1, e2⟩ := ckpt0_run (fr := fr) (H := H) (a := a) (s := s) (used := used) (base := base) (recs := recs) (held := false) K h1 h2 text ht ha hu hN (by omega) (by simp) hK
  refine ⟨e, J', D', ?_, ?_⟩
  · rw [ckpt_head K text ht hu D, if_neg (by simp)]
    exact e1
  have hp := q2p ((s + 1 : Nat) : Int) text
  have hcs := q2h (putB ((s + 1 : Nat) : Int) text) (fr + 4 + (1 - a) * H + 0)
  obtain ⟨n1, n2⟩ := h3.next ht (a' := 1 - a) (at_ := 0) (m := 1) (fs' := [(s + 1, text)]) (by omega) hs1 (fun i hi => h1.csize (by omega)) rfl (by omega) (by omega) (.inr ⟨rfl, rfl, rfl⟩) (by omega)
  rcases e2 with ⟨rfl, rfl, e2⟩ | ⟨rfl, e2⟩
  · left
    refine ⟨rfl, rfl, ?_⟩
    cases e2 with
    | done D' hc hd hf =>
      rw [List.nil_append] at hd
      exact ⟨_, hd, hf, by have := h3.s1; omega, n1, n2⟩
  · right
    refine ⟨rfl, fun keep => ?_⟩
    cases e2 with
    | cut t J' D' hc htt hd hdn hJ =>
      rw [List.nil_append] at hd
      have ht5 : t * 512 ≤ sec text.size * 512 := Nat.mul_le_mul_right _ htt
      have hcs' := hcs t 0 (by rw [hp]; omega)
      obtain ⟨D'', q1, q2, q3, q4⟩ := crash_run K hd keep (by rw [q20]; omega) (by rw [q20]; omega)
      refine ⟨D'', q1, _, q2, ⟨q3, q4⟩, ?_⟩
      have oth : ∀ i, (i < fr + 4 + (1 - a) * H + 0 ∨ fr + 4 + (1 - a) * H + 0 + sec text.size ≤ i) → torn c keep (q2i (putB ((s + 1 : Nat) : Int) text) (fr + 4 + (1 - a) * H + 0) 0 t) 0 i = c i := fun i hi => torn_other keep i _ _ _ (fun x hx => by have := (hcs' x hx).2; omega)
      have hfit := h3.fit
      refine h3.congr (oth _ (by omega)) (oth _ (by omega)) (fun i i1 i2 => oth i ?_)
      rcases (by omega : a = 0 ∨ a = 1) with rfl | rfl
      · omega
      · simp only [Nat.sub_self, Nat.zero_mul, Nat.one_mul] at *
        omega
    | late J' D' hc hd hdn hJ =>
      rw [List.nil_append] at hd
      obtain ⟨D'', q1, q2, q3, q4⟩ := crash_run K hd keep (by simp) (by simp; omega)
      exact ⟨D'', q1, _, q2, ⟨q3, q4⟩, n1⟩
theorem sync_armed (K : Nat) (h : Live N fr H lf D s a fs prev) (held : Bool) (hK : 600000 ≤ K) :
  ∃ e J' D', q10.f K (mkJ fr H a s base recs used held false) D = some (e, J', D') ∧ ((e = 0 ∧ Rest N fr H D' s a fs none) ∨ (e = 41 ∧ Rest N fr H D' s a fs prev)) := by
 obtain ⟨c, hs, h1, h2, h3, h4⟩ := h.now
 have hr := h.rest
 cases prev with
 | none =>
  obtain ⟨c, h1, h2, h4⟩ := h
  obtain ⟨D', e1, e2, e3⟩ := sync_run (fr := fr) (H := H) (a := a) (s := s) (used := used) (base := base) (recs := recs) (held := held) K h1 h2 (by simp) (by simp; omega)
  refine ⟨_, _, D', e1, ?_⟩
  cases hc : can lf 1 with
  | true => exact .inl ⟨rfl, _, (e2 hc).1, by rw [view_nil]; exact h4⟩
  | false => exact .inr ⟨rfl, _, (e3 hc).1, h4⟩
 | some p =>
  obtain ⟨c, h1, h2, h5, h6, h7⟩ := h
  obtain ⟨D', e1, e2, e3⟩ := sync_run (fr := fr) (H := H) (a := a) (s := s) (used := used) (base := base) (recs := recs) (held := held) K h1 h2 (by simp) (by simp; omega)
  refine ⟨_, _, D', e1, ?_⟩
  cases hc : can lf 1 with
  | true => exact .inl ⟨rfl, _, (e2 hc).1, h7⟩
  | false => exact .inr ⟨rfl, _, (e3 hc).1, h5, h6, h7⟩
end
end Go.Proofs.YtokdiacjcbolfaaDoor.F
namespace Go.Proofs.YtokdiacjcbolfaaDoor.F
open Go Go.RowKit Go.Proofs.YtokdiacjcbolfaaDoor.X
set_option linter.unusedVariables false
theorem mod_run (a : Int) (m : Nat) (ha : (-9223372036854775808) ≤ a ∧ a ≤ 9223372036854775807) (h1 : 1 ≤ m) (h2 : m ≤ 1000000) : ∃ r : Nat, q1l.f a (m : Int) = some (r : Int) ∧ r < m := by
 unfold q1l.f
 rw [if_neg (by omega), q0i (by omega)]
 have l1 := Int.tmod_lt_of_pos a (show (0 : Int) < (m : Int) by omega)
 have l2 := Int.lt_tmod_of_pos a (show (0 : Int) < (m : Int) by omega)
 rw [wi (by omega) (by omega)]
 have l3 := Int.tmod_lt_of_pos (Int.tmod a (m : Int) + (m : Int)) (show (0 : Int) < (m : Int) by omega)
 have l4 := Int.tmod_nonneg (m : Int) (show 0 ≤ Int.tmod a (m : Int) + (m : Int) by omega)
 exact ⟨(Int.tmod (Int.tmod a (m : Int) + (m : Int)) (m : Int)).toNat, by congr 1; omega, by omega⟩
end Go.Proofs.YtokdiacjcbolfaaDoor.F
namespace Go.Proofs.YtokdiacjcbolfaaDoor.F
open Go Go.RowKit Go.Proofs.YtokdiacjcbolfaaDoor.X
set_option linter.unusedVariables false
set_option linter.unusedSimpArgs false
theorem texts_loop (K : Nat) (l : List ByteArray) (hl : l.length ≤ 1000000) : ∀ (r fuel i : Nat), i + r = l.length → r < fuel → q0e.l0 K l l fuel (i : Int) = some true := by
 intro r
 induction r with
 | zero =>
  intro fuel i h1 h2
  obtain ⟨f, rfl⟩ : ∃ q, fuel = q + 1 := ⟨fuel - 1, by omega⟩
  show q0e.b0 K l l (q0e.l0 K l l f) (i : Int) = _
  unfold q0e.b0
  rw [if_neg (by omega)]
 | succ r ih =>
  intro fuel i h1 h2
  obtain ⟨f, rfl⟩ : ∃ q, fuel = q + 1 := ⟨fuel - 1, by omega⟩
  show q0e.b0 K l l (q0e.l0 K l l f) (i : Int) = _
  unfold q0e.b0
  rw [if_pos (by omega), q0i (by omega), q0i (by omega), if_pos rfl, wi (by omega) (by omega), show (i : Int) + 1 = ((i + 1 : Nat) : Int) by omega]
  exact ih f (i + 1) (by omega) (by omega)
theorem texts_run (K : Nat) (l : List ByteArray) (hl : l.length ≤ 1000000) (hK : l.length < K) : q0e.f K l l = some true := by
 unfold q0e.f
 rw [if_pos rfl]
 exact texts_loop K l hl l.length K 0 (by omega) hK
theorem base_run {fr H a s used : Nat} {base : ByteArray} {recs : List ByteArray} {held unfit : Bool} : q13.f (mkJ fr H a s base recs used held unfit) = some base := rfl
theorem texts_nil (K : Nat) (l : List ByteArray) (hK : 1 ≤ K) : ∃ z, q0e.f K [] l = some z := by
 unfold q0e.f
 split
 ·obtain ⟨f, hf⟩ : ∃ q, K = q + 1 := ⟨K - 1, by omega⟩
  refine ⟨true, ?_⟩
  have go : ∀ K', K' = f + 1 → q0e.l0 K [] l K' 0 = q0e.b0 K [] l (q0e.l0 K [] l f) 0 := by
   rintro K' rfl; rfl
  rw [go K hf]
  unfold q0e.b0
  rw [if_neg (by simp)]
 ·exact ⟨false, rfl⟩
end Go.Proofs.YtokdiacjcbolfaaDoor.F
namespace Go.Proofs.YtokdiacjcbolfaaDoor.F
open Go Go.RowKit Go.Proofs.YtokdiacjcbolfaaDoor.X
set_option linter.unusedVariables false
set_option linter.unusedSimpArgs false
def oldT : ByteArray := ⟨#[111, 108, 100]⟩
theorem j3_true (K : Nat) (e : Int) (x y : Bool) (h : x = true ∨ (e ≠ 0 ∧ y = true)) : q02.j3 K e x y = some true := by
 unfold q02.j3
 rcases h with rfl | ⟨h1, rfl⟩
 ·rw [if_pos rfl]; rfl
 ·cases x
  ·rw [if_neg (by simp), if_neg h1, if_pos rfl]; rfl
  ·rw [if_pos rfl]; rfl
theorem switch_end (K : Nat) (hK : 600000 ≤ K) (x : ByteArray) (l : List ByteArray) (hl : l.length ≤ 12) (keep : List Int) (hkeep : keep.length * 8 ≤ 140737488351232) (e : Int) {D D1 : q04} (h1 : q09.f K D keep = some D1)
  (h2 : (∃ s a n, Live 200 2 97 none D1 s a [(n, x)] none) ∨ (e ≠ 0 ∧ ∃ s a n gs, Live 200 2 97 none D1 s a ((n, oldT) :: gs) none ∧ gs.map (·.2) = l)) :
  q02.j1 K (x :: l) keep e D = some true := by
 unfold q02.j1
 rw [q0i (by simp; omega), List.nil_append, h1]
 simp only [Option.bind_some]
 have hx : rdL (⟨#[]⟩ : ByteArray) (x :: l) 0 = x := rfl
 have hd : (x :: l).drop (1 : Int).toNat = l := rfl
 obtain ⟨s, a, n, b, gs, hlive, hb⟩ : ∃ s a n b gs, Live 200 2 97 none D1 s a ((n, b) :: gs) none ∧ ((b = x ∧ gs = []) ∨ (e ≠ 0 ∧ b = oldT ∧ gs.map (·.2) = l)) := by
  rcases h2 with ⟨s, a, n, h⟩ | ⟨h0, s, a, n, gs, h, hg⟩
  ·exact ⟨s, a, n, x, [], h, .inl ⟨rfl, rfl⟩⟩
  ·exact ⟨s, a, n, oldT, gs, h, .inr ⟨h0, rfl, hg⟩⟩
 obtain ⟨D2, o1, _⟩ := open_live (S := 198) K hlive (by omega) (by omega) (by omega) (by omega)
 have o1' : q06.f K D1 2 198 = some (some (mkJ 2 97 a s b (gs.map (·.2)) (secs ((n, b) :: gs)) false false), 0, D2) := o1
 rw [o1']
 simp only [Option.bind_some, optc, if_true]
 have hrl : (gs.map (·.2)).length ≤ 12 := by
  rcases hb with ⟨_, rfl⟩ | ⟨_, _, hg⟩
  ·simp
  ·rw [hg]; exact hl
 rw [mkJ_eta, base_run, hx, records_run (by omega) false]
 simp only [Option.bind_some]
 have j2t : ∀ y : Bool, (y = true ∨ (e ≠ 0 ∧ b = oldT ∧ gs.map (·.2) = l)) → q02.j2 K (x :: l) e (mkJ 2 97 a s b (gs.map (·.2)) (secs ((n, b) :: gs)) false false) y = some true := by
  intro y hy
  unfold q02.j2
  rw [mkJ_eta, base_run, records_run (by omega) false]
  simp only [Option.bind_some]
  by_cases ho : b = (⟨#[111, 108, 100]⟩ : ByteArray)
  ·rw [if_pos ho, q0i (by simp; omega), hd]
   rcases hy with rfl | ⟨h0, _, hg⟩
   ·rcases hb with ⟨_, rfl⟩ | ⟨_, _, hg⟩
    ·obtain ⟨z, hz⟩ := texts_nil K l (by omega)
     rw [List.map_nil, hz]
     exact j3_true K e true z (.inl rfl)
    ·rw [hg, texts_run K l (by omega) (by omega)]
     exact j3_true K e true true (.inl rfl)
   ·rw [hg, texts_run K l (by omega) (by omega)]
    exact j3_true K e y true (.inr ⟨h0, rfl⟩)
  ·rw [if_neg ho]
   rcases hy with rfl | ⟨_, h, _⟩
   ·exact j3_true K e true false (.inl rfl)
   ·exact absurd h ho
 rcases hb with ⟨rfl, rfl⟩ | ⟨h0, hb1, hb2⟩
 ·rw [if_pos rfl]
  exact j2t _ (.inl rfl)
 ·split
  ·exact j2t _ (.inr ⟨h0, hb1, hb2⟩)
  ·exact j2t _ (.inr ⟨h0, hb1, hb2⟩)
structure SwitchAt (l : List ByteArray) (i : Nat) (D : q04) (s a : Nat) (gs : Frs) (prev : Option (Nat × Frs)) : Prop where
 live : Live 200 2 97 none D s a ((1, oldT) :: gs) prev
 recs : gs.map (·.2) = l.take i
 small : secs ((1, oldT) :: gs) ≤ 1 + 3 * i
 num : s ≤ 1 + i
theorem switch_loop (K : Nat) (hK : 600000 ≤ K) (x : ByteArray) (l : List ByteArray) (hl : l.length ≤ 8) (a1 : Int) (o1 : (-9223372036854775808) ≤ a1 ∧ a1 ≤ 9223372036854775807) (keep : List Int) (hkeep : keep.length * 8 ≤ 140737488351232) : ∀ (r fuel i : Nat) (held : Bool) (D : q04) (s a : Nat) (gs : Frs) (prev : Option (Nat × Frs)), i + r = l.length → r < fuel → SwitchAt l i D s a gs prev →
  q02.l0 K (x :: l) a1 keep fuel ((i + 1 : Nat) : Int) (mkJ 2 97 a s oldT (gs.map (·.2)) (secs ((1, oldT) :: gs)) held false) D = some true := by
 intro r
 have hw : (q0y.f).bind (fun t => (some t : Option Bool)) = some true := rfl
 induction r with
 | zero =>
  intro fuel i held D s a gs prev h1 h2 h
  obtain ⟨f, rfl⟩ : ∃ q, fuel = q + 1 := ⟨fuel - 1, by omega⟩
  obtain rfl : i = l.length := by omega
  show q02.b0 K (x :: l) a1 keep (q02.l0 K (x :: l) a1 keep f) ((l.length + 1 : Nat) : Int) _ D = _
  unfold q02.b0
  rw [if_neg (by simp), q0i (by simp)]
  have hx : rdL (⟨#[]⟩ : ByteArray) (x :: l) 0 = x := rfl
  rw [hx]
  by_cases hsz : x.size ≤ 1500
  rotate_left
  ·rw [if_pos (by omega)]; exact hw
  rw [if_neg (by omega)]
  obtain ⟨D1, e1, e2⟩ := sync_live (recs := gs.map (·.2)) (base := oldT) (used := secs ((1, oldT) :: gs)) K h.live held hK
  rw [e1]
  simp only [Option.bind_some, if_true]
  obtain ⟨k, hk, hk2⟩ := mod_run a1 20 o1 (by omega) (by omega)
  rw [show (20 : Int) = ((20 : Nat) : Int) from rfl, hk]
  simp only [Option.bind_some]
  obtain ⟨D2, p1, p2⟩ := arm_live (k := k) e2 (by omega)
  rw [p1]
  simp only [Option.bind_some]
  have hsec : sec x.size ≤ 3 := by unfold sec; omega
  have hrec : gs.map (·.2) = l := by rw [h.recs, List.take_of_length_le (Nat.le_refl _)]
  have hnum := h.num
  obtain ⟨e, J3, D3, q1, q2⟩ := ckpt_armed (recs := gs.map (·.2)) (base := oldT) (used := secs ((1, oldT) :: gs)) K p2 x (by omega) (by omega) (by omega) (by omega) hK
  rw [q1]
  simp only [Option.bind_some]
  rcases q2 with ⟨rfl, rfl, q2⟩ | ⟨rfl, q2⟩
  ·rw [if_pos rfl]
   obtain ⟨t, J4, D4, r1, r2⟩ := sync_armed (recs := []) (base := x) (used := sec x.size) K q2 true hK
   rw [r1]
   simp only [Option.bind_some]
   rcases r2 with ⟨rfl, r2⟩ | ⟨rfl, r2⟩
   ·obtain ⟨D5, w1, w2⟩ := crash_rest K r2 (by omega) keep (by omega)
    refine switch_end K hK x l (by omega) keep hkeep 0 w1 (.inl ?_)
    rcases w2 with w2 | ⟨_, _, w0, _⟩
    ·exact ⟨_, _, _, w2⟩
    ·cases w0
   ·obtain ⟨D5, w1, w2⟩ := crash_rest K r2 (by omega) keep (by omega)
    refine switch_end K hK x l (by omega) keep hkeep 41 w1 ?_
    rcases w2 with w2 | ⟨a', fs', w0, w2⟩
    ·exact .inl ⟨_, _, _, w2⟩
    ·injection w0 with w0
     injection w0 with w3 w4
     subst w4
     exact .inr ⟨by omega, _, _, _, gs, w2, hrec⟩
  ·rw [if_neg (by omega)]
   obtain ⟨D5, w1, w2⟩ := q2 keep
   exact switch_end K hK x l (by omega) keep hkeep 41 w1 (.inr ⟨by omega, _, _, _, gs, w2, hrec⟩)
 | succ r ih =>
  intro fuel i held D s a gs prev h1 h2 h
  obtain ⟨f, rfl⟩ : ∃ q, fuel = q + 1 := ⟨fuel - 1, by omega⟩
  show q02.b0 K (x :: l) a1 keep (q02.l0 K (x :: l) a1 keep f) ((i + 1 : Nat) : Int) _ D = _
  unfold q02.b0
  rw [if_pos (by simp; omega), q0i (by omega), show IntKind.wrap .i64 (((i + 1 : Nat) : Int) + 1) = ((i + 1 + 1 : Nat) : Int) by rw [wi (by omega) (by omega)]; omega]
  have hget : rdL (⟨#[]⟩ : ByteArray) (x :: l) ((i + 1 : Nat) : Int) = l[i] := by
   rw [rdN, List.getD_eq_getElem?_getD, List.getElem?_cons_succ, List.getElem?_eq_getElem (by omega)]; rfl
  rw [hget]
  by_cases hsz : (l[i]).size ≤ 1500
  rotate_left
  ·rw [if_pos (by omega)]; exact hw
  rw [if_neg (by omega)]
  have hsec : sec (l[i]).size ≤ 3 := by unfold sec; omega
  have hsm := h.small
  have hnum := h.num
  have hrl : (gs.map (·.2)).length = i := by rw [h.recs, List.length_take]; omega
  obtain ⟨D', e1, e2⟩ := append_live (recs := gs.map (·.2)) (base := oldT) K h.live held l[i] (by omega) (by omega) (by omega) (by omega) (by simp) hK
  rw [e1]
  simp only [Option.bind_some, if_true]
  have hr : gs.map (·.2) ++ [l[i]] = (gs ++ [(s + 1, l[i])]).map (·.2) := by simp
  rw [hr]
  refine ih f (i + 1) true D' (s + 1) a (gs ++ [(s + 1, l[i])]) _ (by omega) (by omega) ⟨e2, ?_, ?_, by omega⟩
  ·rw [← hr, h.recs, List.take_succ_eq_append_getElem (by omega)]
  ·show secs (((1, oldT) :: gs) ++ [(s + 1, l[i])]) ≤ _
   rw [q33]
   show _ + (sec (l[i]).size + 0) ≤ _
   omega
theorem q02.pure (a0 : List ByteArray) (a1 : Int) (a2 : List Int) (o0 : a0.length * 16 ≤ 140737488351232 ∧ ∀ y ∈ a0, y.size ≤ 140737488351232) (o1 : (-9223372036854775808) ≤ a1 ∧ a1 ≤ 9223372036854775807) (o2 : a2.length * 8 ≤ 140737488351232 ∧ ∀ y ∈ a2, (-9223372036854775808) ≤ y ∧ y ≤ 9223372036854775807) : ∃ K, q02.f K a0 a1 a2 = some true := by
 obtain ⟨K, hK⟩ : ∃ K : Nat, 600000 ≤ K := ⟨600000, Nat.le_refl _⟩
 refine ⟨K, ?_⟩
 have j0t : q02.j0 K a0 a1 a2 true = some true := by
  unfold q02.j0
  rw [if_pos rfl]; rfl
 unfold q02.f
 cases a0 with
 | nil => rw [if_pos (by simp)]; exact j0t
 | cons x l =>
  rw [if_neg (by simp; omega)]
  by_cases hl : (x :: l).length ≤ 8
  rotate_left
  ·rw [decide_eq_true (by omega)]; exact j0t
  rw [decide_eq_false (by omega)]
  unfold q02.j0
  rw [if_neg (by simp)]
  obtain ⟨D, d1, d2, d3, d4⟩ := new_run 200 (by omega) (by omega)
  rw [show (200 : Int) = ((200 : Nat) : Int) from rfl, d1]
  simp only [Option.bind_some, optc, if_true]
  obtain ⟨D', f1, f2⟩ := format_live K d2 ⟨d3, d4⟩ 2 198 (by omega) (by omega) oldT (by show 3 ≤ _; omega) (by show 1 ≤ 97; omega) hK
  have f1' : q1i.f K D 2 198 (⟨#[111, 108, 100]⟩ : ByteArray) = some (some (mkJ 2 97 0 1 oldT [] (secs [(1, oldT)]) false false), 0, D') := f1
  rw [f1']
  simp only [Option.bind_some, optc, if_true]
  exact switch_loop K hK x l (by simp at hl; omega) a1 o1 a2 o2.1 l.length K 0 false D' 1 0 [] none (by omega) (by simp at hl; omega) ⟨f2, rfl, by show 1 ≤ _; omega, by omega⟩
end Go.Proofs.YtokdiacjcbolfaaDoor.F
namespace Go.Proofs.YtokdiacjcbolfaaDoor.F
open Go Go.RowKit Go.ChangeShapes Go.WideShapes Go.ChangeAt Go.Proofs.YtokdiacjcbolfaaDoor.X
set_option linter.unusedVariables false
set_option linter.unusedSimpArgs false
theorem q02.op0 (W : World) : XTold Tryd.prog W 22 (fun cs => ∃ (a0 : List ByteArray) (A0_0 : Option Addr) (c0_0 : Nat), cs = [.slice A0_0 a0.length c0_0] ∧ (Spot (.slice A0_0 a0.length c0_0) → Rd 1 W (.slice A0_0 a0.length c0_0) a0.length (encs encS a0)) ∧ (a0.length * 16 ≤ 140737488351232 ∧ ∀ y ∈ a0, y.size ≤ 140737488351232)) := by
 refine XTold.mono (XTold.slice (sz := 1) Tryd.underlying22 (by kernel_rfl) (XTold.str Tryd.underlying9)) ?_
 rintro cs ⟨A1, c1, rows1, rfl, hR1, hr1, hb1, hc1⟩
 obtain ⟨xs1, rfl, hx1⟩ := rows_of (f := encS) (q := fun y => y.size ≤ 140737488351232) (fun row hm => by obtain ⟨n101, rfl, w101⟩ := hr1 row hm; exact ⟨n101, rfl, w101⟩)
 simp only [List.length_map] at hR1 hb1 hc1 ⊢
 rw [(by kernel_rfl : Tryd.prog.bytesOf 9 = 16)] at hb1
 exact ⟨xs1, A1, c1, rfl, fun h => by have := hR1 h; rwa [← List.flatMap_def] at this, ⟨hb1, hx1⟩⟩
theorem q02.op1 (W : World) : XTold Tryd.prog W 3 (fun cs => ∃ (a1 : Int), cs = [.int .i64 a1] ∧ ((-9223372036854775808) ≤ a1 ∧ a1 ≤ 9223372036854775807)) := by
 refine XTold.mono (XTold.int Tryd.underlying3) ?_
 rintro cs ⟨n1, rfl, w1⟩
 exact ⟨n1, rfl, bounds_i64 w1⟩
theorem q02.op2 (W : World) : XTold Tryd.prog W 23 (fun cs => ∃ (a2 : List Int) (A2_1 : Option Addr) (c2_1 : Nat), cs = [.slice A2_1 a2.length c2_1] ∧ (Spot (.slice A2_1 a2.length c2_1) → Rd 1 W (.slice A2_1 a2.length c2_1) a2.length (encs (encIK .i64) a2)) ∧ (a2.length * 8 ≤ 140737488351232 ∧ ∀ y ∈ a2, (-9223372036854775808) ≤ y ∧ y ≤ 9223372036854775807)) := by
 refine XTold.mono (XTold.slice (sz := 1) Tryd.underlying23 (by kernel_rfl) (XTold.int Tryd.underlying3)) ?_
 rintro cs ⟨A1, c1, rows1, rfl, hR1, hr1, hb1, hc1⟩
 obtain ⟨xs1, rfl, hx1⟩ := rows_of (f := encIK .i64) (q := fun y => (-9223372036854775808) ≤ y ∧ y ≤ 9223372036854775807) (fun row hm => by obtain ⟨n101, rfl, w101⟩ := hr1 row hm; exact ⟨n101, rfl, bounds_i64 w101⟩)
 simp only [List.length_map] at hR1 hb1 hc1 ⊢
 rw [(by kernel_rfl : Tryd.prog.bytesOf 3 = 8)] at hb1
 exact ⟨xs1, A1, c1, rfl, fun h => by have := hR1 h; rwa [← List.flatMap_def] at this, ⟨hb1, hx1⟩⟩
theorem q02.own : ownKnob Tryd.prog.godebug = none := by kernel_rfl
theorem q02.laidOut : laidOutB Tryd.prog = true := by kernel_rfl
theorem q02.flat1 : XFlat Tryd.prog 127 := (XFlat.array Tryd.underlying127 (XFlat.int Tryd.underlying97) (by kernel_rfl))
theorem q02.laid1 {W : World} (h : laidMet Tryd.prog Rows.journalSwitchRow.laid W) : CA W 1 0 (encs (encIK .u32) q0h).toArray :=
 laid_ca h (name := "headgate/crc.steps") (d := Rows.laid_headgate_crc_steps) rfl (by kernel_rfl) (by kernel_rfl) q02.flat1 (by kernel_rfl)
noncomputable def q02.laidWorld (os : Os) : World :=
 { World.holding Tryd.prog os ⟨#[], #[], []⟩ with heap := ((((World.holding Tryd.prog os ⟨#[], #[], []⟩).heap).modify 1 (putT (encs (encIK .u32) q0h).toArray)).modify 3 (putT (encs q1k.enc G_utf8_acceptRanges).toArray)).modify 2 (putT (encs (encIK .u8) G_utf8_first).toArray) }
theorem q02.laid_met (os : Os) : laidMet Tryd.prog Rows.journalSwitchRow.laid ((q02.laidWorld os).forCall (fun _ _ => 0) ⟨#[], #[Value.slice none 0 0, Value.int .i64 0, Value.slice none 0 0], []⟩).memory :=
 laidMet_of_run' 8 (by kernel_rfl) (by kernel_rfl)
theorem q02.reads (os : Os) {H : Type} (enc : TypeId × Value → H) : ∃ places, DataW.whole enc Tryd.prog ((q02.laidWorld os).forCall (fun _ _ => 0) ⟨#[], #[Value.slice none 0 0, Value.int .i64 0, Value.slice none 0 0], []⟩).memory Tryd.f6.params.toList Rows.journalSwitchSpec.vars false (#[Value.slice none 0 0, Value.int .i64 0, Value.slice none 0 0] : Array Value).toList 8 = some ([.nil, .lit (.int .i64 0), .nil], [], places) :=
 ⟨[], by kernel_rfl⟩
set_option maxRecDepth 100000 in
theorem q02.lifted (os : Os) (started : os.Started) (H : Type) (enc : TypeId × Value → H) (F : Stop.Interp) :
  ReturnsInHanded {} Tryd.checked os 6 .any ((OpenSpec.ofChange Rows.journalSwitchSpec).preRow enc Tryd.prog Tryd.f6 Rows.journalSwitchRow.domain false Rows.journalSwitchRow.laid) (((OpenSpec.ofChange Rows.journalSwitchSpec).at F).post enc Tryd.prog Tryd.f6 false true false false) := by
 obtain ⟨places, hx⟩ := q02.reads os enc
 refine returnsInHanded_of_row (C := Tryd.checked) (s := OpenSpec.ofChange Rows.journalSwitchSpec) q02.own started (by kernel_rfl) Tryd.func6
  (witness_row_at (enc := enc) (C := Tryd.checked) false (q02.laidWorld os) #[Value.slice none 0 0, Value.int .i64 0, Value.slice none 0 0] rfl (by kernel_rfl) (by kernel_rfl) (by kernel_rfl)
   (OpenSpec.preRow_of_cond 8 hx (by kernel_rfl) (fun k hk => by cases hk) (by kernel_rfl) (q02.laid_met os))) ?_
 intro W base args ds gs before hval0 hW hcnd _ hsz0 hL _ _
 have hsz : (DataW.weightsEach Tryd.prog (Tryd.f6.params.toList ++ Rows.journalSwitchSpec.plain.varTypes Tryd.prog) (ds ++ gs)).all (· ≤ reachBytes) = true := hsz0
 have hLl : laidMet Tryd.prog Rows.journalSwitchRow.laid W := hL
 have hval : ∀ (j : Nat) t v, Tryd.f6.params[j]? = some t → args[j]? = some v → Value.okWide Tryd.prog W .any base t v := hval0
 have hW' := hW
 obtain ⟨p, q, hA0, hV, rfl, hfz, hnd⟩ := hW
 have hA : DataW.TrodAll enc Tryd.prog W 0 (fun _ => true) true Tryd.f6.params.toList args.toList ds p := hA0
 rw [Tryd.params6] at hA hval hsz
 obtain ⟨v0, vs0, d0, ds0, p0, q0, hargs, rfl, rfl, h0, r0⟩ := trodAll_cons hA
 obtain ⟨v1, vs1, d1, ds1, p1, q1, rfl, rfl, rfl, h1, r1⟩ := trodAll_cons r0
 obtain ⟨v2, vs2, d2, ds2, p2, q2, rfl, rfl, rfl, h2, r2⟩ := trodAll_cons r1
 obtain ⟨rfl, rfl, rfl⟩ := trodAll_nil r2
 obtain rfl : args = #[v0, v1, v2] := by cases args; simp_all
 obtain ⟨rfl, rfl⟩ := trodVars_none hV
 have k0 := h0
 obtain ⟨a0, A0_0, c0_0, hc0, hs0_0, o0⟩ := (q02.op0 W).arg h0 hsz (j := 0) rfl rfl
 have sp0 := okWide_spot (hval 0 22 v0 rfl rfl)
 rw [hc0] at sp0
 have hr0_0 := hs0_0 (sp0 _ (by simp))
 obtain rfl := okWide_one (by kernel_rfl) (hval 0 22 v0 rfl rfl) hc0
 have k1 := h1
 obtain ⟨a1, hc1, o1⟩ := (q02.op1 W).arg h1 hsz (j := 1) rfl rfl
 obtain rfl := okWide_one (by kernel_rfl) (hval 1 3 v1 rfl rfl) hc1
 have k2 := h2
 obtain ⟨a2, A2_1, c2_1, hc2, hs2_1, o2⟩ := (q02.op2 W).arg h2 hsz (j := 2) rfl rfl
 have sp2 := okWide_spot (hval 2 23 v2 rfl rfl)
 rw [hc2] at sp2
 have hr2_1 := hs2_1 (sp2 _ (by simp))
 obtain rfl := okWide_one (by kernel_rfl) (hval 2 23 v2 rfl rfl) hc2
 clear hA0 hval0 hsz0 hsz
 obtain ⟨K, hK⟩ := q02.pure a0 a1 a2 o0 o1 o2
 refine (q02.calls K a0 a1 a2 A0_0 c0_0 A2_1 c2_1 true W (q02.laid1 hLl) hr0_0 hr2_1 hK).mono fun e W' ⟨he, HW⟩ => ?_
 have bel := HW.below
 subst he
 exact ⟨_, rfl, _, _, _, [], _, [], hW', trodAll_mk1 (shut_bool Tryd.underlying4 _), (trodAll_cons_mk (Below.trod q02.laidOut (by kernel_rfl) (of_decide_eq_true (by kernel_rfl)) k0 bel (trod_blocks k0)) (trodAll_cons_mk (Below.trod q02.laidOut (by kernel_rfl) (of_decide_eq_true (by kernel_rfl)) k1 bel (trod_blocks k1)) (trodAll_cons_mk (Below.trod q02.laidOut (by kernel_rfl) (of_decide_eq_true (by kernel_rfl)) k2 bel (trod_blocks k2)) trodAll_mk0))), rfl, bel.frame _, fun h => by cases h⟩
end Go.Proofs.YtokdiacjcbolfaaDoor.F
namespace Go.Proofs.YtokdiacjcbolfaaDoor
open Go Go.RowKit Go.ChangeShapes Go.WideShapes Go.ChangeAt Go.Proofs.YtokdiacjcbolfaaDoor.X Go.Proofs.YtokdiacjcbolfaaDoor.F
theorem journalSwitch_said : Rows.JournalSwitchSaid :=
 OpenClaim.holds_of_cond 6 Tryd.f6 rfl rfl rfl rfl rfl rfl rfl ⟨rfl, rfl, rfl, rfl, rfl⟩ rfl rfl rfl rfl rfl (by kernel_rfl) Tryd.func6 (by kernel_rfl)
  (of_decide_eq_true (by kernel_rfl)) (by unfold Func.isWrapper; first | (rw [if_pos (by decide +kernel)]; kernel_rfl) | (rw [if_neg (by decide +kernel)]; exact ⟨rfl, rfl⟩))
  (fun os started H enc _ F => by rw [OpenClaim.pre_eq_preRow]; exact q02.lifted os started H enc F)
theorem journalSwitch_plain (f : FuncId) (fn : Func) (hf : Tryd.pinned.checked.prog.funcNamed "headgate/headgatelaw06.JournalSwitch" = some f) (hfn : Tryd.pinned.checked.prog.funcs[f]? = some fn) :
  true = Tryd.pinned.checked.prog.looks [] ∧ ∀ (j : Nat) t, fn.params[j]? = some t → Tryd.pinned.checked.prog.wantsStandIn t = false := by
 obtain rfl : f = 6 := Option.some.inj ((show Tryd.prog.funcNamed "headgate/headgatelaw06.JournalSwitch" = some 6 by kernel_rfl).symm.trans hf) |>.symm
 obtain rfl : fn = Tryd.f6 := (Option.some.inj (Tryd.func6.symm.trans hfn)).symm
 refine ⟨by kernel_rfl, fun j t ht => ?_⟩
 rw [Tryd.params6] at ht
 have hm := Array.mem_of_getElem? ht
 simp only [List.mem_toArray, List.mem_cons, List.not_mem_nil, or_false] at hm
 rcases hm with rfl | rfl | rfl
 ·exact (show Tryd.prog.wantsStandIn 22 = false by kernel_rfl)
 ·exact (show Tryd.prog.wantsStandIn 3 = false by kernel_rfl)
 ·exact (show Tryd.prog.wantsStandIn 23 = false by kernel_rfl)
theorem journalSwitch_card : Rows.JournalSwitchCardSaid :=
 Claim7.holds_tied_plain_at .later [] _ _ _ _ journalSwitch_said (fun _ h => by cases h) (by kernel_rfl) (fun _ h => by cases h) journalSwitch_row_tie rfl ⟨rfl, rfl⟩ (by kernel_rfl) rfl journalSwitch_plain (by kernel_rfl)
end Go.Proofs.YtokdiacjcbolfaaDoor
