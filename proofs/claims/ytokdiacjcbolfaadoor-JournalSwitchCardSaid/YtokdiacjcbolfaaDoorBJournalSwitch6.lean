import Derived.Lib.TrimByte
import Derived.Test.YtokdiacjcbolfaaDoorBJournalSwitch5
set_option linter.unusedVariables false
set_option linter.unusedSimpArgs false
namespace Go.Proofs.YtokdiacjcbolfaaDoor.F
open Go Go.RowKit Go.Proofs.YtokdiacjcbolfaaDoor.X
set_option linter.unusedVariables false
set_option linter.unusedSimpArgs false
def q02.j3 (K : Nat) (x5408 : Int) (x5491 : Bool) (x5522 : Bool) : Option Bool :=
 if x5491 = true then ((q0y.f).bind fun t5527 => (some t5527)) else (if x5408 = 0 then (some false) else (if x5522 = true then ((q0y.f).bind fun t5533 => (some t5533)) else (some false)))
def q02.j2 (K : Nat) (a0 : List ByteArray) (x5408 : Int) (x5447 : q00) (x5491 : Bool) : Option Bool :=
 (q13.f (⟨(), x5447.f1, x5447.f2, x5447.f3, (⟨(), (), x5447.f4.f2⟩ : q03), x5447.f5, x5447.f6, x5447.f7, x5447.f8, x5447.f9⟩ : q00)).bind fun t5499 => (if t5499 = (⟨#[111, 108, 100]⟩ : ByteArray) then ((q11.f (⟨(), x5447.f1, x5447.f2, x5447.f3, (⟨(), (), x5447.f4.f2⟩ : q03), x5447.f5, x5447.f6, x5447.f7, x5447.f8, x5447.f9⟩ : q00)).bind fun t5504 => (asrt (1 ≤ (a0.length : Int)) ((q0e.f K t5504 (a0.drop (1 : Int).toNat)).bind fun t5517 => (q02.j3 K x5408 x5491 t5517)))) else (q02.j3 K x5408 x5491 false))
def q02.j1 (K : Nat) (a0 : List ByteArray) (a2 : List Int) (x5408 : Int) (x5409 : q04) : Option Bool :=
 asrt (([] : List Int).length + a2.length ≤ 17592186044416) ((q09.f K x5409 (([] : List Int) ++ a2)).bind fun t5427 => ((q06.f K t5427 2 198).bind fun t5436 => (optc t5436.1 (if t5436.2.1 = 0 then (none) else (some false)) (fun x5447 => (if t5436.2.1 = 0 then ((q13.f (⟨(), x5447.f1, x5447.f2, x5447.f3, (⟨(), (), x5447.f4.f2⟩ : q03), x5447.f5, x5447.f6, x5447.f7, x5447.f8, x5447.f9⟩ : q00)).bind fun t5472 => (if t5472 = (rdL (⟨#[]⟩ : ByteArray) a0 0) then ((q11.f (⟨(), x5447.f1, x5447.f2, x5447.f3, (⟨(), (), x5447.f4.f2⟩ : q03), x5447.f5, x5447.f6, x5447.f7, x5447.f8, x5447.f9⟩ : q00)).bind fun t5481 => (q02.j2 K a0 x5408 x5447 ((t5481.length : Int) == 0))) else (q02.j2 K a0 x5408 x5447 false))) else (some false))))))
def q02.b0 (K : Nat) (a0 : List ByteArray) (a1 : Int) (a2 : List Int) (again5290 : Int → q00 → q04 → Option Bool) (x5291 : Int) (x5292 : q00) (x5295 : q04) : Option Bool :=
 if x5291 < (a0.length : Int) then (asrt (0 ≤ x5291) (if ((rdL (⟨#[]⟩ : ByteArray) a0 x5291).size : Int) > 1500 then ((q0y.f).bind fun t5319 => (some t5319)) else ((q12.f K x5292 x5295 (rdL (⟨#[]⟩ : ByteArray) a0 x5291)).bind fun t5328 => (if t5328.1 = 0 then (again5290 (IntKind.wrap .i64 (x5291 + 1)) t5328.2.1 t5328.2.2) else (some false))))) else (asrt (0 < (a0.length : Int)) (if ((rdL (⟨#[]⟩ : ByteArray) a0 0).size : Int) > 1500 then ((q0y.f).bind fun t5350 => (some t5350)) else ((q10.f K x5292 x5295).bind fun t5358 => (if t5358.1 = 0 then ((q1l.f a1 20).bind fun t5371 => ((q2r.f t5358.2.2 t5371).bind fun t5375 => ((q0f.f K t5358.2.1 t5375 (rdL (⟨#[]⟩ : ByteArray) a0 0)).bind fun t5387 => (if t5387.1 = 0 then ((q10.f K t5387.2.1 t5387.2.2).bind fun t5400 => (q02.j1 K a0 a2 t5400.1 t5400.2.2)) else (q02.j1 K a0 a2 t5387.1 t5387.2.2))))) else (some false)))))
def q02.l0 (K : Nat) (a0 : List ByteArray) (a1 : Int) (a2 : List Int) : Nat → Int → q00 → q04 → Option Bool
 | 0, _, _, _ => none
 | k_ + 1, x5291, x5292, x5295 => q02.b0 K a0 a1 a2 (q02.l0 K a0 a1 a2 k_) x5291 x5292 x5295
def q02.j0 (K : Nat) (a0 : List ByteArray) (a1 : Int) (a2 : List Int) (x5133 : Bool) : Option Bool :=
 if x5133 = true then ((q0y.f).bind fun t5138 => (some t5138)) else ((dev_New.f 200).bind fun t5144 => (optc t5144.1 (none) (fun x5154 => ((q1i.f K x5154 2 198 (⟨#[111, 108, 100]⟩ : ByteArray)).bind fun t5162 => (optc t5162.1 (if t5144.2 = 0 then (if t5162.2.1 = 0 then (none) else (some false)) else (some false)) (fun x5173 => (if t5144.2 = 0 then (if t5162.2.1 = 0 then (q02.l0 K a0 a1 a2 K 1 x5173 t5162.2.2) else (some false)) else (some false))))))))
def q02.f (K : Nat) (a0 : List ByteArray) (a1 : Int) (a2 : List Int) : Option Bool :=
 if (a0.length : Int) < 1 then (q02.j0 K a0 a1 a2 true) else (q02.j0 K a0 a1 a2 (decide ((a0.length : Int) > 8)))
set_option maxRecDepth 100000 in
set_option maxHeartbeats 4000000 in
theorem q02.calls (K : Nat) (a0 : List ByteArray) (a1 : Int) (a2 : List Int) (A0_0 : Option Addr) (c0_0 : Nat) (A2_1 : Option Addr) (c2_1 : Nat) (r : Bool) (w : World) (hG1 : CA w 1 0 (encs (encIK .u32) q0h).toArray) (hr0_0 : Rd 1 w (.slice A0_0 a0.length c0_0) a0.length (encs encS a0)) (hr2_1 : Rd 1 w (.slice A2_1 a2.length c2_1) a2.length (encs (encIK .i64) a2)) (h : q02.f K a0 a1 a2 = some r) :
  Calls Tryd.prog 6 #[.slice A0_0 a0.length c0_0, .int .i64 a1, .slice A2_1 a2.length c2_1] w (fun e W' => e = .returned (.bool r) ∧ Wd w W' [] [] ) := by
 refine q17 (n := 128) (l := [(0, .slice A0_0 a0.length c0_0), (1, .int .i64 a1), (2, .slice A2_1 a2.length c2_1)]) Tryd.func6 rfl rfl (Nat.le_of_ble_eq_true KR) (q07 rfl (q07 rfl (q07 rfl (q0q _)))) ?_
 intro a ha
 have HW : Wd w w (([] : Blks) ++ ([] : Blks)) (([] : List OwnA)) := Wd.refl w
 unfold q02.f at h
 refine wp_seq_k (fun K5126 hK5127 => ?_)
 refine wp_region_lit ?_
 refine sp1 ha 6 (.bool false) ?_; clear ha a; intro a ha
 refine endl (thenN (hK5127 _ _ (wp_seq_k fun K5128 hK5129 => wp_seq_k fun K5130 hK5131 => ?_))); clear hK5127
 refine cutn (fun a W5134 => ∃ (x5133 : Bool), q02.j0 K a0 a1 a2 x5133 = some r ∧ Has 128 [(0, .slice A0_0 a0.length c0_0), (1, .int .i64 a1), (2, .slice A2_1 a2.length c2_1), (24, .bool x5133)] a ∧ Wd w W5134 (([] : Blks) ++ ([] : Blks)) (([] : List OwnA))) ?_ ?_
 ·
  refine wp_region_lit ?_
  refine sp4 ha 17 (.slice A0_0 a0.length c0_0) 18 (.int .i64 (a0.length : Int)) 19 (.bool (decide ((a0.length : Int) < 1))) 20 (.bool (decide ((a0.length : Int) < 1))) ?_; clear ha a; intro a ha
  by_cases hp5132 : (a0.length : Int) < 1
  ·
   replace h := q0b h hp5132
   replace ha := ha.bool 20 KR (decide_eq_true hp5132)
   refine stepo ha 21 KR ?_; clear ha a; intro a ha
   refine stepo ha 22 KR ?_; clear ha a; intro a ha
   refine stepo ha 23 KR ?_; clear ha a; intro a ha
   refine sp1 ha 24 (.bool true) ?_; clear ha a; intro a ha
   refine endl ?_
   exact thenN ⟨true, h, ha.sub (q05 KR (q05 KR (q05 KR (q05 KR (q0t _))))), (HW)⟩
  ·
   replace h := q0c h hp5132
   replace ha := ha.bool 20 KR (decide_eq_false hp5132)
   refine sp4 ha 21 (.slice A0_0 a0.length c0_0) 22 (.int .i64 (a0.length : Int)) 23 (.bool (decide ((a0.length : Int) > 8))) 24 (.bool (decide ((a0.length : Int) > 8))) ?_; clear ha a; intro a ha
   refine endl ?_
   exact thenN ⟨decide ((a0.length : Int) > 8), h, ha.sub (q05 KR (q05 KR (q05 KR (q05 KR (q0t _))))), (HW)⟩
 ·
  intro a W5134 hJ
  obtain ⟨x5133, h, ha, HW⟩ := hJ
  replace h : q02.j0 K a0 a1 a2 x5133 = some r := h
  unfold q02.j0 at h
  refine hK5131 _ _ ?_; clear hK5131
  by_cases hp5135 : x5133 = true
  ·
   replace h := q0b h hp5135
   refine condT ha KR KR (t := x5133) (hp5135) ?_
   refine wp_seq_k (fun K5136 hK5137 => ?_)
   refine wp_region_lit ?_
   obtain ⟨t5138, ht5139, h_⟩ := q08 h; replace h := h_; clear h_
   refine stepc ha 25 KR KR (q0y.calls t5138 _ (HW.ca0 hG1) ht5139) ?_; clear ha a; rintro e W5140 ⟨rfl, HX5141⟩
   refine ⟨_, rfl, ?_⟩; intro a ha; replace HW := HW.callw HX5141; clear HX5141
   refine sp1 ha 6 (.bool t5138) ?_; clear ha a; intro a ha
   refine endl (thenN (hK5137 _ _ ?_)); clear hK5137
   refine wp_ret ?_
   refine thenR ?_
   obtain rfl := Option.some.inj h
   exact finv ha _ _ rfl (.tmp (v := .bool t5138) KR .nil) (.bool t5138) rfl ⟨rfl, HW.pick [] [] (by decide) (by decide) rfl KR⟩
  ·
   replace h := q0c h hp5135
   refine condF ha KR KR (t := x5133) (q2w hp5135) ?_
   refine wp_skip ?_
   refine thenN (hK5129 _ _ (wp_seq_k fun K5142 hK5143 => wp_region_lit ?_)); clear hK5129
   obtain ⟨t5144, ht5145, h_⟩ := q08 h; replace h := h_; clear h_
   refine stepc ha 27 KR KR (dev_New.calls 200 t5144 _ _ ([] : Blks) ([] : Blks) (([] : List OwnA)) (HW) ht5145) ?_; clear ha a; rintro e W5149 ⟨b5146v, U5147, rfl, hO5153n, HX5150⟩
   refine ⟨_, rfl, ?_⟩; intro a ha; clear HW
   have hO5153 := hO5153n; clear hO5153n
   rcases e5155 : t5144.1 with _ | x5154
   ·
    rw [e5155] at h hO5153; replace h := optc_n h
    obtain ⟨hO5153v, hO5153u⟩ := hO5153; subst hO5153v; subst hO5153u
    have HW : Wd w W5149 (([] : Blks) ++ ([] : Blks)) (([] : List OwnA)) := Wd.sg [([] : Blks), ([] : Blks)] ([] : Blks) [] ([] : List OwnA) [([] : Blks)] [] HX5150 [0] [1] [] KR KR (by decide) KR; clear HX5150
    refine sp5 ha 26 (.tuple #[.pointer none, .int .i64 t5144.2]) 28 (.pointer none) 29 (.int .i64 t5144.2) 7 (.pointer none) 8 (.int .i64 t5144.2) ?_; clear ha a; intro a ha
    refine endl (thenN (hK5143 _ _ (wp_seq_k fun K5158 hK5159 => wp_region_lit ?_))); clear hK5143
    refine sp1 ha 31 (.pointer none) ?_; clear ha a; intro a ha
    exact (q1n h).elim
   ·
    rw [e5155] at h hO5153; replace h := optc_s h
    obtain ⟨b5156, hO5153v, hU5157⟩ := hO5153; subst hO5153v
    have HW : Wd w W5149 (U5147 ++ (([] : Blks) ++ ([] : Blks))) (([] : List OwnA)) := HX5150; clear HX5150
    refine sp5 ha 26 (.tuple #[(ptr b5156), .int .i64 t5144.2]) 28 ((ptr b5156)) 29 (.int .i64 t5144.2) 7 ((ptr b5156)) 8 (.int .i64 t5144.2) ?_; clear ha a; intro a ha
    refine endl (thenN (hK5143 _ _ (wp_seq_k fun K5160 hK5161 => wp_region_lit ?_))); clear hK5143
    refine sp1 ha 31 ((ptr b5156)) ?_; clear ha a; intro a ha
    obtain ⟨t5162, ht5163, h_⟩ := q08 h; replace h := h_; clear h_
    refine stepc ha 32 KR KR (q1i.calls K x5154 2 198 (⟨#[111, 108, 100]⟩ : ByteArray) b5156 U5147 t5162 _ _ ([] : Blks) ([] : Blks) (([] : List OwnA)) hG1 hU5157 (HW) ht5163) ?_; clear ha a; rintro e W5168 ⟨b5164v, U5165, U5167, rfl, hO5172n, hU5157n, HX5169⟩
    refine ⟨_, rfl, ?_⟩; intro a ha; clear HW
    clear hU5157; have hU5157 := hU5157n; clear hU5157n
    have hO5172 := hO5172n; clear hO5172n
    rcases e5174 : t5162.1 with _ | x5173
    ·
     rw [e5174] at h hO5172; replace h := optc_n h
     obtain ⟨hO5172v, hO5172u⟩ := hO5172; subst hO5172v; subst hO5172u
     have HW : Wd w W5168 (U5167 ++ (([] : Blks) ++ ([] : Blks))) (([] : List OwnA)) := Wd.sg [([] : Blks), U5167, ([] : Blks)] ([] : Blks) [] ([] : List OwnA) [U5167, ([] : Blks)] [] HX5169 [1, 0] [2] [] KR KR (by decide) KR; clear HX5169
     refine sp5 ha 30 (.tuple #[.pointer none, .int .i64 t5162.2.1]) 33 (.pointer none) 34 (.int .i64 t5162.2.1) 9 (.pointer none) 10 (.int .i64 t5162.2.1) ?_; clear ha a; intro a ha
     refine endl (thenN (hK5161 _ _ (wp_seq_k fun K5177 hK5178 => wp_seq_k fun K5179 hK5180 => wp_region_lit ?_))); clear hK5161
     refine sp3 ha 35 (.int .i64 t5144.2) 36 (.bool (t5144.2 != 0)) 37 (.bool (t5144.2 != 0)) ?_; clear ha a; intro a ha
     by_cases hp5181 : t5144.2 = 0
     ·
      replace h := q0b h hp5181
      replace ha := ha.bool 37 KR (q2f hp5181)
      refine sp3 ha 38 (.int .i64 t5162.2.1) 39 (.bool (t5162.2.1 != 0)) 40 (.bool (t5162.2.1 != 0)) ?_; clear ha a; intro a ha
      refine endl (thenN (hK5180 _ _ ?_)); clear hK5180
      by_cases hp5182 : t5162.2.1 = 0
      ·
       replace h := q0b h hp5182
       refine condF ha KR KR (t := (t5162.2.1 != 0)) (q2f hp5182) ?_
       refine wp_skip ?_
       refine thenN (hK5178 _ _ (wp_seq_k fun K5187 hK5188 => wp_seq_k fun K5189 hK5190 => wp_region_lit ?_)); clear hK5178
       refine sp1 ha 11 (.int .i64 1) ?_; clear ha a; intro a ha
       refine endl (thenN (hK5190 _ _ ?_)); clear hK5190
       refine wp_block ?_
       exact (q1n h).elim
      ·
       replace h := q0c h hp5182
       refine condT ha KR KR (t := (t5162.2.1 != 0)) (q2e hp5182) ?_
       refine wp_seq_k (fun K5183 hK5184 => ?_)
       refine wp_region_lit ?_
       refine sp1 ha 6 (.bool false) ?_; clear ha a; intro a ha
       refine endl (thenN (hK5184 _ _ ?_)); clear hK5184
       refine wp_ret ?_
       refine thenR ?_
       obtain rfl := Option.some.inj h
       exact finv ha _ _ rfl (.tmp (v := .bool false) KR .nil) (.bool false) rfl ⟨rfl, HW.pick [] [] (by decide) (by decide) rfl KR⟩
     ·
      replace h := q0c h hp5181
      replace ha := ha.bool 37 KR (q2e hp5181)
      refine stepo ha 38 KR ?_; clear ha a; intro a ha
      refine stepo ha 39 KR ?_; clear ha a; intro a ha
      refine sp1 ha 40 (.bool true) ?_; clear ha a; intro a ha
      refine endl (thenN (hK5180 _ _ ?_)); clear hK5180
      refine condT ha KR KR (t := true) (rfl) ?_
      refine wp_seq_k (fun K5185 hK5186 => ?_)
      refine wp_region_lit ?_
      refine sp1 ha 6 (.bool false) ?_; clear ha a; intro a ha
      refine endl (thenN (hK5186 _ _ ?_)); clear hK5186
      refine wp_ret ?_
      refine thenR ?_
      obtain rfl := Option.some.inj h
      exact finv ha _ _ rfl (.tmp (v := .bool false) KR .nil) (.bool false) rfl ⟨rfl, HW.pick [] [] (by decide) (by decide) rfl KR⟩
    ·
     rw [e5174] at h hO5172; replace h := optc_s h
     obtain ⟨b5175, hO5172v, hU5176⟩ := hO5172; subst hO5172v
     have HW : Wd w W5168 (U5165 ++ (U5167 ++ (([] : Blks) ++ ([] : Blks)))) (([] : List OwnA)) := HX5169; clear HX5169
     refine sp5 ha 30 (.tuple #[(ptr b5175), .int .i64 t5162.2.1]) 33 ((ptr b5175)) 34 (.int .i64 t5162.2.1) 9 ((ptr b5175)) 10 (.int .i64 t5162.2.1) ?_; clear ha a; intro a ha
     refine endl (thenN (hK5161 _ _ (wp_seq_k fun K5191 hK5192 => wp_seq_k fun K5193 hK5194 => wp_region_lit ?_))); clear hK5161
     refine sp3 ha 35 (.int .i64 t5144.2) 36 (.bool (t5144.2 != 0)) 37 (.bool (t5144.2 != 0)) ?_; clear ha a; intro a ha
     by_cases hp5195 : t5144.2 = 0
     ·
      replace h := q0b h hp5195
      replace ha := ha.bool 37 KR (q2f hp5195)
      refine sp3 ha 38 (.int .i64 t5162.2.1) 39 (.bool (t5162.2.1 != 0)) 40 (.bool (t5162.2.1 != 0)) ?_; clear ha a; intro a ha
      refine endl (thenN (hK5194 _ _ ?_)); clear hK5194
      by_cases hp5196 : t5162.2.1 = 0
      ·
       replace h := q0b h hp5196
       refine condF ha KR KR (t := (t5162.2.1 != 0)) (q2f hp5196) ?_
       refine wp_skip ?_
       refine thenN (hK5192 _ _ (wp_seq_k fun K5201 hK5202 => wp_seq_k fun K5203 hK5204 => wp_region_lit ?_)); clear hK5192
       refine sp1 ha 11 (.int .i64 1) ?_; clear ha a; intro a ha
       refine endl (thenN (hK5204 _ _ ?_)); clear hK5204
       refine wp_block ?_
       refine loopk (fun k => fun a W5298 => ∃ (x5291 : Int), ∃ (x5292 : q00), ∃ (U5293 : Blks), ∃ (x5295 : q04), ∃ (U5296 : Blks), q02.l0 K a0 a1 a2 k x5291 x5292 x5295 = some r ∧ Has 128 [(0, .slice A0_0 a0.length c0_0), (1, .int .i64 a1), (2, .slice A2_1 a2.length c2_1), (7, (ptr b5156)), (9, (ptr b5175)), (11, .int .i64 x5291)] a ∧ Wd w W5298 (U5293 ++ (U5296 ++ (([] : Blks) ++ ([] : Blks)))) (([] : List OwnA)) ∧ q00.At b5175 b5156 x5292 U5293 ∧ q04.At b5156  x5295 U5296) K ?_ ?_
       ·
        exact ⟨1, x5173, U5165, t5162.2.2, U5167, h, ha.sub (q05 KR (q05 KR (q05 KR (q05 KR (q05 KR (q05 KR (q0t _))))))), (HW), hU5176, hU5157⟩
       ·
        intro k a W5298 hI
        obtain ⟨x5291, x5292, U5293, x5295, U5296, h, ha, HW, hU5294, hU5297⟩ := hI
        cases k with
        | zero => exact (q1n (show none = some r from h)).elim
        | succ k5299 =>
         replace h : q02.b0 K a0 a1 a2 (q02.l0 K a0 a1 a2 k5299) x5291 x5292 x5295 = some r := h
         obtain ⟨again5290, hag5300⟩ : ∃ g_, g_ = q02.l0 K a0 a1 a2 k5299 := ⟨_, rfl⟩
         rw [← hag5300] at h
         unfold q02.b0 at h
         refine wp_seq_k (fun K5301 hK5302 => ?_)
         refine wp_seq_k (fun K5303 hK5304 => ?_)
         refine wp_region_lit ?_
         refine sp4 ha 41 (.int .i64 x5291) 42 (.slice A0_0 a0.length c0_0) 43 (.int .i64 (a0.length : Int)) 44 (.bool (decide (x5291 < (a0.length : Int)))) ?_; clear ha a; intro a ha
         refine endl (thenN (hK5304 _ _ ?_)); clear hK5304
         by_cases hp5305 : x5291 < (a0.length : Int)
         ·
          replace h := q0b h hp5305
          refine condT ha KR KR (t := decide (x5291 < (a0.length : Int))) (decide_eq_true hp5305) ?_
          refine wp_skip ?_
          refine thenN (hK5302 _ _ (wp_seq_k fun K5306 hK5307 => ?_)); clear hK5302
          refine wp_block ?_
          refine wp_seq_k (fun K5308 hK5309 => ?_)
          refine wp_seq_k (fun K5310 hK5311 => ?_)
          refine wp_region_lit ?_
          refine sp2 ha 47 (.slice A0_0 a0.length c0_0) 48 (.int .i64 x5291) ?_; clear ha a; intro a ha
          obtain ⟨hA5312, h_⟩ := q0d h; replace h := h_; clear h_
          refine stepie encS (⟨#[]⟩ : ByteArray) ha 49 (fun _ => rfl) (v := .slice A0_0 a0.length c0_0) (xs := a0) ((HW.rd0 hr0_0)) 22 9 (.tmp 47) (.tmp 48) .i64 x5291 rfl KR KR KR KR hA5312 (show (x5291 : Int) < ((a0).length : Int) from hp5305) KR ?_; clear ha a; intro b5313 off5314 a hC5315 ha
          refine stepl ha 50 hC5315 9 0 (.tmp 49) (.string (rdL (⟨#[]⟩ : ByteArray) a0 x5291)) rfl KR KR KR ?_; clear ha a; intro a ha
          refine sp2 ha 51 (.int .i64 ((rdL (⟨#[]⟩ : ByteArray) a0 x5291).size : Int)) 52 (.bool (decide (((rdL (⟨#[]⟩ : ByteArray) a0 x5291).size : Int) > 1500))) ?_; clear ha a; intro a ha
          refine endl (thenN (hK5311 _ _ ?_)); clear hK5311
          by_cases hp5316 : ((rdL (⟨#[]⟩ : ByteArray) a0 x5291).size : Int) > 1500
          ·
           replace h := q0b h hp5316
           refine condT ha KR KR (t := decide (((rdL (⟨#[]⟩ : ByteArray) a0 x5291).size : Int) > 1500)) (decide_eq_true hp5316) ?_
           refine wp_seq_k (fun K5317 hK5318 => ?_)
           refine wp_region_lit ?_
           obtain ⟨t5319, ht5320, h_⟩ := q08 h; replace h := h_; clear h_
           refine stepc ha 53 KR KR (q0y.calls t5319 _ (HW.ca0 hG1) ht5320) ?_; clear ha a; rintro e W5321 ⟨rfl, HX5322⟩
           refine ⟨_, rfl, ?_⟩; intro a ha; replace HW := HW.callw HX5322; clear HX5322
           refine sp1 ha 6 (.bool t5319) ?_; clear ha a; intro a ha
           refine endl (thenN (hK5318 _ _ ?_)); clear hK5318
           refine wp_ret ?_
           refine thenR ?_
           refine blkR ?_
           refine thenR ?_
           refine thenR ?_
           refine blkR ?_
           refine thenR ?_
           obtain rfl := Option.some.inj h
           exact finv ha _ _ rfl (.tmp (v := .bool t5319) KR .nil) (.bool t5319) rfl ⟨rfl, HW.pick [] [] (by decide) (by decide) rfl KR⟩
          ·
           replace h := q0c h hp5316
           refine condF ha KR KR (t := decide (((rdL (⟨#[]⟩ : ByteArray) a0 x5291).size : Int) > 1500)) (decide_eq_false hp5316) ?_
           refine wp_skip ?_
           refine thenN (hK5309 _ _ (wp_seq_k fun K5323 hK5324 => wp_region_lit ?_)); clear hK5309
           refine sp3 ha 54 ((ptr b5175)) 55 (.slice A0_0 a0.length c0_0) 56 (.int .i64 x5291) ?_; clear ha a; intro a ha
           refine stepie encS (⟨#[]⟩ : ByteArray) ha 57 (fun _ => rfl) (v := .slice A0_0 a0.length c0_0) (xs := a0) ((HW.rd0 hr0_0)) 22 9 (.tmp 55) (.tmp 56) .i64 x5291 rfl KR KR KR KR hA5312 (show (x5291 : Int) < ((a0).length : Int) from hp5305) KR ?_; clear ha a; intro b5325 off5326 a hC5327 ha
           refine stepl ha 58 hC5327 9 0 (.tmp 57) (.string (rdL (⟨#[]⟩ : ByteArray) a0 x5291)) rfl KR KR KR ?_; clear ha a; intro a ha
           obtain ⟨t5328, ht5329, h_⟩ := q08 h; replace h := h_; clear h_
           refine stepc ha 59 KR KR (q12.calls K x5292 x5295 (rdL (⟨#[]⟩ : ByteArray) a0 x5291) b5175 U5293 b5156 U5296 t5328 _ _ ([] : Blks) ([] : Blks) (([] : List OwnA)) hG1 hU5294 hU5297 (HW) ht5329) ?_; clear ha a; rintro e W5332 ⟨U5330, U5331, rfl, hU5294n, hU5297n, HX5333⟩
           refine ⟨_, rfl, ?_⟩; intro a ha; clear HW
           clear hU5294; have hU5294 := hU5294n; clear hU5294n
           clear hU5297; have hU5297 := hU5297n; clear hU5297n
           have HW : Wd w W5332 (U5330 ++ (U5331 ++ (([] : Blks) ++ ([] : Blks)))) (([] : List OwnA)) := HX5333; clear HX5333
           refine sp1 ha 60 (.bool (t5328.1 != 0)) ?_; clear ha a; intro a ha
           refine endl (thenN (hK5324 _ _ ?_)); clear hK5324
           by_cases hp5336 : t5328.1 = 0
           ·
            replace h := q0b h hp5336
            refine condF ha KR KR (t := (t5328.1 != 0)) (q2f hp5336) ?_
            refine wp_skip ?_
            refine blkN ?_
            refine thenN (hK5307 _ _ (wp_region_lit ?_)); clear hK5307
            refine sp3 ha 45 (.int .i64 x5291) 46 (.int .i64 (IntKind.wrap .i64 (x5291 + 1))) 11 (.int .i64 (IntKind.wrap .i64 (x5291 + 1))) ?_; clear ha a; intro a ha
            refine endl ?_
            exact thenN ⟨k5299, Nat.lt_succ_self k5299, IntKind.wrap .i64 (x5291 + 1), t5328.2.1, U5330, t5328.2.2, U5331, (by rw [← hag5300]; exact h), ha.sub (q05 KR (q05 KR (q05 KR (q05 KR (q05 KR (q05 KR (q0t _))))))), (HW), hU5294, hU5297⟩
           ·
            replace h := q0c h hp5336
            refine condT ha KR KR (t := (t5328.1 != 0)) (q2e hp5336) ?_
            refine wp_seq_k (fun K5337 hK5338 => ?_)
            refine wp_region_lit ?_
            refine sp1 ha 6 (.bool false) ?_; clear ha a; intro a ha
            refine endl (thenN (hK5338 _ _ ?_)); clear hK5338
            refine wp_ret ?_
            refine blkR ?_
            refine thenR ?_
            refine thenR ?_
            refine blkR ?_
            refine thenR ?_
            obtain rfl := Option.some.inj h
            exact finv ha _ _ rfl (.tmp (v := .bool false) KR .nil) (.bool false) rfl ⟨rfl, HW.pick [] [] (by decide) (by decide) rfl KR⟩
         ·
          replace h := q0c h hp5305
          refine condF ha KR KR (t := decide (x5291 < (a0.length : Int))) (decide_eq_false hp5305) ?_
          refine wp_exit ?_
          refine thenE ?_
          refine thenE ?_
          refine inBlk ?_
          refine thenN (hK5202 _ _ (wp_seq_k fun K5339 hK5340 => wp_seq_k fun K5341 hK5342 => wp_region_lit ?_)); clear hK5202
          refine sp1 ha 61 (.slice A0_0 a0.length c0_0) ?_; clear ha a; intro a ha
          obtain ⟨hA5343, h_⟩ := q0d h; replace h := h_; clear h_
          refine stepie encS (⟨#[]⟩ : ByteArray) ha 62 (fun _ => rfl) (v := .slice A0_0 a0.length c0_0) (xs := a0) ((HW.rd0 hr0_0)) 22 9 (.tmp 61) (.const (.int .i64 0)) .i64 0 rfl KR KR KR KR (by decide) (show (0 : Int) < ((a0).length : Int) from hA5343) KR ?_; clear ha a; intro b5344 off5345 a hC5346 ha
          refine stepl ha 63 hC5346 9 0 (.tmp 62) (.string (rdL (⟨#[]⟩ : ByteArray) a0 0)) rfl KR KR KR ?_; clear ha a; intro a ha
          refine sp2 ha 64 (.int .i64 ((rdL (⟨#[]⟩ : ByteArray) a0 0).size : Int)) 65 (.bool (decide (((rdL (⟨#[]⟩ : ByteArray) a0 0).size : Int) > 1500))) ?_; clear ha a; intro a ha
          refine endl (thenN (hK5342 _ _ ?_)); clear hK5342
          by_cases hp5347 : ((rdL (⟨#[]⟩ : ByteArray) a0 0).size : Int) > 1500
          ·
           replace h := q0b h hp5347
           refine condT ha KR KR (t := decide (((rdL (⟨#[]⟩ : ByteArray) a0 0).size : Int) > 1500)) (decide_eq_true hp5347) ?_
           refine wp_seq_k (fun K5348 hK5349 => ?_)
           refine wp_region_lit ?_
           obtain ⟨t5350, ht5351, h_⟩ := q08 h; replace h := h_; clear h_
           refine stepc ha 66 KR KR (q0y.calls t5350 _ (HW.ca0 hG1) ht5351) ?_; clear ha a; rintro e W5352 ⟨rfl, HX5353⟩
           refine ⟨_, rfl, ?_⟩; intro a ha; replace HW := HW.callw HX5353; clear HX5353
           refine sp1 ha 6 (.bool t5350) ?_; clear ha a; intro a ha
           refine endl (thenN (hK5349 _ _ ?_)); clear hK5349
           refine wp_ret ?_
           refine thenR ?_
           obtain rfl := Option.some.inj h
           exact finv ha _ _ rfl (.tmp (v := .bool t5350) KR .nil) (.bool t5350) rfl ⟨rfl, HW.pick [] [] (by decide) (by decide) rfl KR⟩
          ·
           replace h := q0c h hp5347
           refine condF ha KR KR (t := decide (((rdL (⟨#[]⟩ : ByteArray) a0 0).size : Int) > 1500)) (decide_eq_false hp5347) ?_
           refine wp_skip ?_
           refine thenN (hK5340 _ _ (wp_seq_k fun K5354 hK5355 => wp_seq_k fun K5356 hK5357 => wp_region_lit ?_)); clear hK5340
           refine sp1 ha 67 ((ptr b5175)) ?_; clear ha a; intro a ha
           obtain ⟨t5358, ht5359, h_⟩ := q08 h; replace h := h_; clear h_
           refine stepc ha 68 KR KR (q10.calls K x5292 x5295 b5175 U5293 b5156 U5296 t5358 _ _ ([] : Blks) ([] : Blks) (([] : List OwnA)) hU5294 hU5297 (HW) ht5359) ?_; clear ha a; rintro e W5362 ⟨U5360, U5361, rfl, hU5294n, hU5297n, HX5363⟩
           refine ⟨_, rfl, ?_⟩; intro a ha; clear HW
           clear hU5294; have hU5294 := hU5294n; clear hU5294n
           clear hU5297; have hU5297 := hU5297n; clear hU5297n
           have HW : Wd w W5362 (U5360 ++ (U5361 ++ (([] : Blks) ++ ([] : Blks)))) (([] : List OwnA)) := HX5363; clear HX5363
           refine sp1 ha 69 (.bool (t5358.1 != 0)) ?_; clear ha a; intro a ha
           refine endl (thenN (hK5357 _ _ ?_)); clear hK5357
           by_cases hp5366 : t5358.1 = 0
           ·
            replace h := q0b h hp5366
            refine condF ha KR KR (t := (t5358.1 != 0)) (q2f hp5366) ?_
            refine wp_skip ?_
            refine thenN (hK5355 _ _ (wp_seq_k fun K5369 hK5370 => wp_region_lit ?_)); clear hK5355
            refine sp2 ha 70 ((ptr b5156)) 71 (.int .i64 a1) ?_; clear ha a; intro a ha
            obtain ⟨t5371, ht5372, h_⟩ := q08 h; replace h := h_; clear h_
            refine stepc ha 72 KR KR (q1l.calls a1 20 t5371 _ ht5372) ?_; clear ha a; rintro e W5373 ⟨rfl, HX5374⟩
            refine ⟨_, rfl, ?_⟩; intro a ha; replace HW := HW.callw HX5374; clear HX5374
            obtain ⟨t5375, ht5376, h_⟩ := q08 h; replace h := h_; clear h_
            refine stepc ha 73 KR KR (q2r.calls t5358.2.2 t5371 b5156 U5361 t5375 _ _ ([] : Blks) (U5360 ++ (([] : Blks))) (([] : List OwnA)) hU5297 (Wd.sg [U5360, U5361, ([] : Blks)] ([] : Blks) [] ([] : List OwnA) [U5361, ([] : Blks), U5360] [] HW [1, 2, 0] [] [] KR KR (by decide) KR) ht5376) ?_; clear ha a; rintro e W5378 ⟨U5377, rfl, hU5297n, HX5379⟩
            refine ⟨_, rfl, ?_⟩; intro a ha; clear HW
            clear hU5297; have hU5297 := hU5297n; clear hU5297n
            have HW : Wd w W5378 (U5360 ++ (U5377 ++ (([] : Blks) ++ ([] : Blks)))) (([] : List OwnA)) := Wd.sg [U5377, ([] : Blks), U5360] ([] : Blks) [] ([] : List OwnA) [U5360, U5377, ([] : Blks)] [] HX5379 [2, 0, 1] [] [] KR KR (by decide) KR; clear HX5379
            refine endl (thenN (hK5370 _ _ (wp_seq_k fun K5382 hK5383 => wp_region_lit ?_))); clear hK5370
            refine sp2 ha 74 ((ptr b5175)) 75 (.slice A0_0 a0.length c0_0) ?_; clear ha a; intro a ha
            refine stepie encS (⟨#[]⟩ : ByteArray) ha 76 (fun _ => rfl) (v := .slice A0_0 a0.length c0_0) (xs := a0) ((HW.rd0 hr0_0)) 22 9 (.tmp 75) (.const (.int .i64 0)) .i64 0 rfl KR KR KR KR (by decide) (show (0 : Int) < ((a0).length : Int) from hA5343) KR ?_; clear ha a; intro b5384 off5385 a hC5386 ha
            refine stepl ha 77 hC5386 9 0 (.tmp 76) (.string (rdL (⟨#[]⟩ : ByteArray) a0 0)) rfl KR KR KR ?_; clear ha a; intro a ha
            obtain ⟨t5387, ht5388, h_⟩ := q08 h; replace h := h_; clear h_
            refine stepc ha 78 KR KR (q0f.calls K t5358.2.1 t5375 (rdL (⟨#[]⟩ : ByteArray) a0 0) b5175 U5360 b5156 U5377 t5387 _ _ ([] : Blks) ([] : Blks) (([] : List OwnA)) hG1 hU5294 hU5297 (HW) ht5388) ?_; clear ha a; rintro e W5391 ⟨U5389, U5390, rfl, hU5294n, hU5297n, HX5392⟩
            refine ⟨_, rfl, ?_⟩; intro a ha; clear HW
            clear hU5294; have hU5294 := hU5294n; clear hU5294n
            clear hU5297; have hU5297 := hU5297n; clear hU5297n
            have HW : Wd w W5391 (U5389 ++ (U5390 ++ (([] : Blks) ++ ([] : Blks)))) (([] : List OwnA)) := HX5392; clear HX5392
            refine sp1 ha 12 (.int .i64 t5387.1) ?_; clear ha a; intro a ha
            refine endl (thenN (hK5383 _ _ (wp_seq_k fun K5395 hK5396 => ?_))); clear hK5383
            refine cutn (fun a W5412 => ∃ (x5408 : Int), ∃ (x5409 : q04), ∃ (U5410 : Blks), q02.j1 K a0 a2 x5408 x5409 = some r ∧ Has 128 [(0, .slice A0_0 a0.length c0_0), (2, .slice A2_1 a2.length c2_1), (7, (ptr b5156)), (12, .int .i64 x5408)] a ∧ Wd w W5412 (U5410 ++ (([] : Blks) ++ ([] : Blks))) (([] : List OwnA)) ∧ q04.At b5156  x5409 U5410) ?_ ?_
            ·
             refine wp_seq_k (fun K5397 hK5398 => ?_)
             refine wp_region_lit ?_
             refine sp2 ha 79 (.int .i64 t5387.1) 80 (.bool (t5387.1 == 0)) ?_; clear ha a; intro a ha
             refine endl (thenN (hK5398 _ _ ?_)); clear hK5398
             by_cases hp5399 : t5387.1 = 0
             ·
              replace h := q0b h hp5399
              refine condT ha KR KR (t := (t5387.1 == 0)) (ieq_t hp5399) ?_
              refine wp_region_lit ?_
              refine sp1 ha 81 ((ptr b5175)) ?_; clear ha a; intro a ha
              obtain ⟨t5400, ht5401, h_⟩ := q08 h; replace h := h_; clear h_
              refine stepc ha 82 KR KR (q10.calls K t5387.2.1 t5387.2.2 b5175 U5389 b5156 U5390 t5400 _ _ ([] : Blks) ([] : Blks) (([] : List OwnA)) hU5294 hU5297 (HW) ht5401) ?_; clear ha a; rintro e W5404 ⟨U5402, U5403, rfl, hU5294n, hU5297n, HX5405⟩
              refine ⟨_, rfl, ?_⟩; intro a ha; clear HW
              clear hU5294; have hU5294 := hU5294n; clear hU5294n
              clear hU5297; have hU5297 := hU5297n; clear hU5297n
              have HW : Wd w W5404 (U5402 ++ (U5403 ++ (([] : Blks) ++ ([] : Blks)))) (([] : List OwnA)) := HX5405; clear HX5405
              refine sp1 ha 12 (.int .i64 t5400.1) ?_; clear ha a; intro a ha
              refine endl ?_
              exact thenN ⟨t5400.1, t5400.2.2, U5403, h, ha.sub (q05 KR (q05 KR (q05 KR (q05 KR (q0t _))))), (Wd.sg [U5402, U5403, ([] : Blks)] ([] : Blks) [] ([] : List OwnA) [U5403, ([] : Blks)] [] HW [1, 2] [0] [] KR KR (by decide) KR), hU5297⟩
             ·
              replace h := q0c h hp5399
              refine condF ha KR KR (t := (t5387.1 == 0)) (ieq_f hp5399) ?_
              refine wp_skip ?_
              exact thenN ⟨t5387.1, t5387.2.2, U5390, h, ha.sub (q05 KR (q05 KR (q05 KR (q05 KR (q0t _))))), (Wd.sg [U5389, U5390, ([] : Blks)] ([] : Blks) [] ([] : List OwnA) [U5390, ([] : Blks)] [] HW [1, 2] [0] [] KR KR (by decide) KR), hU5297⟩
            ·
             intro a W5412 hJ
             obtain ⟨x5408, x5409, U5410, h, ha, HW, hU5411⟩ := hJ
             replace h : q02.j1 K a0 a2 x5408 x5409 = some r := h
             unfold q02.j1 at h
             refine hK5396 _ _ ?_; clear hK5396
             refine wp_seq_k (fun K5413 hK5414 => ?_)
             refine wp_region_lit ?_
             refine sp1 ha 83 ((ptr b5156)) ?_; clear ha a; intro a ha
             refine stepbs ha HW 84 3 1 0 #[] [] (by decide) KR KR KR KR ?_; clear ha HW a; intro b5415 a W5416 HW ha
             replace HW : Wd w W5416 (U5410 ++ (([] : Blks) ++ ([] : Blks))) ((rw2 (some ⟨b5415, 0, none⟩) ([] : List Int) 0) :: ([] : List OwnA)) := HW
             replace ha := ha.turn 84 (v := .slice (some ⟨b5415, 0, none⟩) ([] : List Int).length 0) KR rfl
             refine sp1 ha 85 (.slice A2_1 a2.length c2_1) ?_; clear ha a; intro a ha
             obtain ⟨hA5418, h_⟩ := q0d h; replace h := h_; clear h_
             refine stepape (encIK .i64) ha HW 86 0 23 3 (.tmp 84) (.tmp 85) (.int .i64 0) 1 8 (.slice (some ⟨b5415, 0, none⟩) ([] : List Int).length 0) ([] : List Int) (.slice A2_1 a2.length c2_1) a2 KR rfl KR KR ((HW.rd0 hr2_1)) (fun _ => rfl) KR KR KR (by decide) (by have := hA5418; unfold maxLen; omega) (by have := hA5418; omega) KR ?_; clear ha HW a; intro A5419 c5420 a W5421 HW ha
             obtain ⟨N5424, hN5425, HW⟩ := Wd.rowFold (HW)
             replace HW := Wd.joinHead (N := N5424) (P := ([] : Blks)) (Wd.sg [N5424, U5410, ([] : Blks)] ([] : Blks) [] ([] : List OwnA) [N5424, ([] : Blks), U5410] [] HW [0, 2, 1] [] [] KR KR (by decide) KR)
             have hr5426 := RdF.own (w0 := w) (F := ([] : Blks)) hN5425
             replace HW := Wd.sg [N5424 ++ ([] : Blks), U5410] ([] : Blks) [] ([] : List OwnA) [U5410, N5424 ++ ([] : Blks)] [] HW [1, 0] [] [] KR KR (by decide) KR
             replace HW : Wd w W5421 (U5410 ++ ((N5424 ++ ([] : Blks)) ++ ([] : Blks))) (([] : List OwnA)) := HW
             replace hr5426 : RdF w (N5424 ++ ([] : Blks)) 1 (.slice A5419 (([] : List Int) ++ a2).length c5420) (([] : List Int) ++ a2).length (encs (encIK .i64) (([] : List Int) ++ a2)) := hr5426
             obtain ⟨t5427, ht5428, h_⟩ := q08 h; replace h := h_; clear h_
             refine stepc ha 87 KR KR (q09.calls K x5409 (([] : List Int) ++ a2) b5156 U5410 A5419 c5420 t5427 _ _ (N5424 ++ ([] : Blks)) ([] : Blks) (([] : List OwnA)) hU5411 hr5426 (HW) ht5428) ?_; clear ha a; rintro e W5430 ⟨U5429, rfl, hU5411n, HX5431⟩
             refine ⟨_, rfl, ?_⟩; intro a ha; clear HW
             clear hU5411; have hU5411 := hU5411n; clear hU5411n
             have HW : Wd w W5430 (U5429 ++ ((N5424 ++ ([] : Blks)) ++ ([] : Blks))) (([] : List OwnA)) := HX5431; clear HX5431
             refine endl (thenN (hK5414 _ _ (wp_seq_k fun K5434 hK5435 => wp_region_lit ?_))); clear hK5414
             refine sp1 ha 89 ((ptr b5156)) ?_; clear ha a; intro a ha
             obtain ⟨t5436, ht5437, h_⟩ := q08 h; replace h := h_; clear h_
             refine stepc ha 90 KR KR (q06.calls K t5427 2 198 b5156 U5429 t5436 _ _ (N5424 ++ ([] : Blks)) ([] : Blks) (([] : List OwnA)) hG1 hU5411 (HW) ht5437) ?_; clear ha a; rintro e W5442 ⟨b5438v, U5439, U5441, rfl, hO5446n, hU5411n, HX5443⟩
             refine ⟨_, rfl, ?_⟩; intro a ha; clear HW
             clear hU5411; have hU5411 := hU5411n; clear hU5411n
             have hO5446 := hO5446n; clear hO5446n
             rcases e5448 : t5436.1 with _ | x5447
             ·
              rw [e5448] at h hO5446; replace h := optc_n h
              obtain ⟨hO5446v, hO5446u⟩ := hO5446; subst hO5446v; subst hO5446u
              have HW : Wd w W5442 (U5441 ++ ((N5424 ++ ([] : Blks)) ++ ([] : Blks))) (([] : List OwnA)) := Wd.sg [([] : Blks), U5441, N5424 ++ ([] : Blks)] ([] : Blks) [] ([] : List OwnA) [U5441, N5424 ++ ([] : Blks)] [] HX5443 [1, 2] [0] [] KR KR (by decide) KR; clear HX5443
              refine sp5 ha 88 (.tuple #[.pointer none, .int .i64 t5436.2.1]) 91 (.pointer none) 92 (.int .i64 t5436.2.1) 13 (.pointer none) 14 (.int .i64 t5436.2.1) ?_; clear ha a; intro a ha
              refine endl (thenN (hK5435 _ _ (wp_seq_k fun K5451 hK5452 => wp_seq_k fun K5453 hK5454 => wp_region_lit ?_))); clear hK5435
              refine sp2 ha 93 (.int .i64 t5436.2.1) 94 (.bool (t5436.2.1 != 0)) ?_; clear ha a; intro a ha
              refine endl (thenN (hK5454 _ _ ?_)); clear hK5454
              by_cases hp5455 : t5436.2.1 = 0
              ·
               replace h := q0b h hp5455
               refine condF ha KR KR (t := (t5436.2.1 != 0)) (q2f hp5455) ?_
               refine wp_skip ?_
               refine thenN (hK5452 _ _ (wp_seq_k fun K5458 hK5459 => ?_)); clear hK5452
               exact (q1n h).elim
              ·
               replace h := q0c h hp5455
               refine condT ha KR KR (t := (t5436.2.1 != 0)) (q2e hp5455) ?_
               refine wp_seq_k (fun K5456 hK5457 => ?_)
               refine wp_region_lit ?_
               refine sp1 ha 6 (.bool false) ?_; clear ha a; intro a ha
               refine endl (thenN (hK5457 _ _ ?_)); clear hK5457
               refine wp_ret ?_
               refine thenR ?_
               obtain rfl := Option.some.inj h
               exact finv ha _ _ rfl (.tmp (v := .bool false) KR .nil) (.bool false) rfl ⟨rfl, HW.pick [] [] (by decide) (by decide) rfl KR⟩
             ·
              rw [e5448] at h hO5446; replace h := optc_s h
              obtain ⟨b5449, hO5446v, hU5450⟩ := hO5446; subst hO5446v
              have HW : Wd w W5442 (U5439 ++ (U5441 ++ ((N5424 ++ ([] : Blks)) ++ ([] : Blks)))) (([] : List OwnA)) := HX5443; clear HX5443
              refine sp5 ha 88 (.tuple #[(ptr b5449), .int .i64 t5436.2.1]) 91 ((ptr b5449)) 92 (.int .i64 t5436.2.1) 13 ((ptr b5449)) 14 (.int .i64 t5436.2.1) ?_; clear ha a; intro a ha
              refine endl (thenN (hK5435 _ _ (wp_seq_k fun K5460 hK5461 => wp_seq_k fun K5462 hK5463 => wp_region_lit ?_))); clear hK5435
              refine sp2 ha 93 (.int .i64 t5436.2.1) 94 (.bool (t5436.2.1 != 0)) ?_; clear ha a; intro a ha
              refine endl (thenN (hK5463 _ _ ?_)); clear hK5463
              by_cases hp5464 : t5436.2.1 = 0
              ·
               replace h := q0b h hp5464
               refine condF ha KR KR (t := (t5436.2.1 != 0)) (q2f hp5464) ?_
               refine wp_skip ?_
               refine thenN (hK5461 _ _ (wp_seq_k fun K5467 hK5468 => ?_)); clear hK5461
               refine cutn (fun a W5496 => ∃ (x5491 : Bool), ∃ A5492, ∃ c5493, q02.j2 K a0 x5408 x5447 x5491 = some r ∧ Has 128 [(0, .slice A0_0 a0.length c0_0), (12, .int .i64 x5408), (13, (ptr b5449)), (15, .bool x5491)] a ∧ Wd w W5496 ((b5449, .cells (ar1 b5156 x5447.f1 x5447.f2 x5447.f3 x5447.f4.f2 x5447.f5 A5492 x5447.f6.length c5493 x5447.f7 x5447.f8 x5447.f9) 57 (0, 0)) :: U5441 ++ ((N5424 ++ ([] : Blks)) ++ ([] : Blks))) ((rw0 A5492 x5447.f6 c5493) :: ([] : List OwnA)) ∧ q04.At b5156  t5436.2.2 U5441) ?_ ?_
               ·
                obtain ⟨A5469, c5470, HW⟩ := q00.unfold hU5450 (HW)
                replace HW : Wd w W5442 ((b5449, .cells (ar1 b5156 x5447.f1 x5447.f2 x5447.f3 x5447.f4.f2 x5447.f5 A5469 x5447.f6.length c5470 x5447.f7 x5447.f8 x5447.f9) 57 (0, 0)) :: U5441 ++ ((N5424 ++ ([] : Blks)) ++ ([] : Blks))) ((rw0 A5469 x5447.f6 c5470) :: ([] : List OwnA)) := HW; clear hU5450
                obtain ⟨t5472, ht5473, h_⟩ := q08 h; replace h := h_; clear h_
                obtain ⟨b5477, off5478, hA5479⟩ := Rd.addr ((HW.rd0 hr0_0)) (by decide) (show (0 : Int) < ((a0).length : Int) from hA5343)
                by_cases hp5480 : t5472 = (rdL (⟨#[]⟩ : ByteArray) a0 0)
                ·
                 replace h := q0b h hp5480
                 obtain ⟨t5481, ht5482, h_⟩ := q08 h; replace h := h_; clear h_
                 refine q2z 12 KR KR ha HW [.fix ((ptr b5449)), .fix (.string t5472), .fix (.slice A0_0 a0.length c0_0), .fix (.pointer (some ⟨b5477, off5478 + (0 : Int).toNat * 1, none⟩)), .fix (.string (rdL (⟨#[]⟩ : ByteArray) a0 0)), .fix (.bool (t5472.toList == (rdL (⟨#[]⟩ : ByteArray) a0 0).toList)), .fix (.bool (t5472.toList == (rdL (⟨#[]⟩ : ByteArray) a0 0).toList)), .fix ((ptr b5449)), .rd 1 t5481.length (encs encS t5481), .fix (.int .i64 (t5481.length : Int)), .fix (.bool ((t5481.length : Int) == 0)), .fix (.bool ((t5481.length : Int) == 0))] ?_ ?_
                 ·
                  refine ⟨?_, ?_, ?_, ?_, ?_, ?_, ?_, ?_, ?_, ?_, ?_, ?_, trivial⟩
                  ·
                   intro a wr hn hd HW hs; have ha := q0a hn hd
                   have ha := ha.add (seeE hs 13 ((ptr b5449)) KR KR)
                   refine yStep ha 95 KR ?_; intro l_ ha HK
                   refine stepp ha 95 ((ptr b5449)) KR KR ?_; intro ax hax; exact HK _ _ _ hax rfl (Below.refl _ _)
                  ·
                   intro a wr hn hd HW hs; have ha := q0a hn hd
                   have ha := ha.add (seeF hs 95 0 ((ptr b5449)) KR KR)
                   refine yStep ha 96 KR ?_; intro l_ ha HK
                   refine stepc ha 96 KR KR (q13.calls (⟨(), x5447.f1, x5447.f2, x5447.f3, (⟨(), (), x5447.f4.f2⟩ : q03), x5447.f5, x5447.f6, x5447.f7, x5447.f8, x5447.f9⟩ : q00) A5469 c5470 b5449 b5156 t5472 _ (HW.ca (i := 0) (b := b5449) (C := (ar1 b5156 x5447.f1 x5447.f2 x5447.f3 x5447.f4.f2 x5447.f5 A5469 x5447.f6.length c5470 x5447.f7 x5447.f8 x5447.f9)) (T := 57) (fr := (0, 0)) KR) (HW.rdo (i := 0) (q := (rw0 A5469 x5447.f6 c5470)) KR) ht5473) ?_; rintro e W5474 ⟨rfl, HX5475⟩
                   refine ⟨_, rfl, ?_⟩; intro ax hax; exact HK _ _ _ hax rfl HX5475.below
                  ·
                   intro a wr hn hd HW hs; have ha := q0a hn hd
                   have ha := ha.add (seeE hs 0 (.slice A0_0 a0.length c0_0) KR KR)
                   refine yStep ha 97 KR ?_; intro l_ ha HK
                   refine stepp ha 97 (.slice A0_0 a0.length c0_0) KR KR ?_; intro ax hax; exact HK _ _ _ hax rfl (Below.refl _ _)
                  ·
                   intro a wr hn hd HW hs; have ha := q0a hn hd
                   have ha := ha.add (seeF hs 97 2 (.slice A0_0 a0.length c0_0) KR KR)
                   replace ha := ha.turn 97 (u := .slice A0_0 a0.length c0_0) (v := .slice (some ⟨b5477, off5478, none⟩) a0.length c0_0) KR (by rw [hA5479])
                   refine yStep ha 98 KR ?_; intro l_ ha HK
                   refine stepif ha 98 (sz := 1) (len := a0.length) (b := b5477) (off := off5478) (c := c0_0) 22 9 (.tmp 97) (.const (.int .i64 0)) .i64 0 rfl KR KR KR KR (by decide) (show (0 : Int) < ((a0).length : Int) from hA5343) KR ?_; intro ax hax; exact HK _ _ _ hax rfl (Below.refl _ _)
                  ·
                   intro a wr hn hd HW hs; have ha := q0a hn hd
                   have ha := ha.add (seeF hs 98 3 (.pointer (some ⟨b5477, off5478 + (0 : Int).toNat * 1, none⟩)) KR KR)
                   refine yStep ha 99 KR ?_; intro l_ ha HK
                   refine stepl ha 99 (Rd.ca encS (⟨#[]⟩ : ByteArray) (fun _ => rfl) (by have h_ := ((HW.rd0 hr0_0)); rw [hA5479] at h_; exact h_) (by decide) (show (0 : Int) < ((a0).length : Int) from hA5343)) 9 0 (.tmp 98) (.string (rdL (⟨#[]⟩ : ByteArray) a0 0)) rfl KR KR KR ?_; intro ax hax; exact HK _ _ _ hax rfl (Below.refl _ _)
                  ·
                   intro a wr hn hd HW hs; have ha := q0a hn hd
                   have ha := ha.add (seeF hs 96 1 (.string t5472) KR KR)
                   have ha := ha.add (seeF hs 99 4 (.string (rdL (⟨#[]⟩ : ByteArray) a0 0)) KR KR)
                   refine yStep ha 100 KR ?_; intro l_ ha HK
                   refine stepp ha 100 (.bool (t5472.toList == (rdL (⟨#[]⟩ : ByteArray) a0 0).toList)) KR KR ?_; intro ax hax; exact HK _ _ _ hax rfl (Below.refl _ _)
                  ·
                   intro a wr hn hd HW hs; have ha := q0a hn hd
                   have ha := ha.add (seeF hs 100 5 (.bool (t5472.toList == (rdL (⟨#[]⟩ : ByteArray) a0 0).toList)) KR KR)
                   refine yStep ha 101 KR ?_; intro l_ ha HK
                   refine stepp ha 101 (.bool (t5472.toList == (rdL (⟨#[]⟩ : ByteArray) a0 0).toList)) KR KR ?_; intro ax hax; exact HK _ _ _ hax rfl (Below.refl _ _)
                  ·
                   intro a wr hn hd HW hs; have ha := q0a hn hd
                   have ha := ha.add (seeE hs 13 ((ptr b5449)) KR KR)
                   have ha := ha.add (seeF hs 101 6 (.bool (t5472.toList == (rdL (⟨#[]⟩ : ByteArray) a0 0).toList)) KR KR)
                   have ha := ha.bool 101 KR (q29 hp5480)
                   refine yStep ha 102 KR ?_; intro l_ ha HK
                   refine stepp ha 102 ((ptr b5449)) KR KR ?_; intro ax hax; exact HK _ _ _ hax rfl (Below.refl _ _)
                  ·
                   intro a wr hn hd HW hs; have ha := q0a hn hd
                   have ha := ha.add (seeF hs 102 7 ((ptr b5449)) KR KR)
                   have ha := ha.add (seeF hs 101 6 (.bool (t5472.toList == (rdL (⟨#[]⟩ : ByteArray) a0 0).toList)) KR KR)
                   have ha := ha.bool 101 KR (q29 hp5480)
                   refine yStep ha 103 KR ?_; intro l_ ha HK
                   refine stepc ha 103 KR KR (q11.calls (⟨(), x5447.f1, x5447.f2, x5447.f3, (⟨(), (), x5447.f4.f2⟩ : q03), x5447.f5, x5447.f6, x5447.f7, x5447.f8, x5447.f9⟩ : q00) A5469 c5470 b5449 b5156 t5481 _ (HW.ca (i := 0) (b := b5449) (C := (ar1 b5156 x5447.f1 x5447.f2 x5447.f3 x5447.f4.f2 x5447.f5 A5469 x5447.f6.length c5470 x5447.f7 x5447.f8 x5447.f9)) (T := 57) (fr := (0, 0)) KR) (HW.rdo (i := 0) (q := (rw0 A5469 x5447.f6 c5470)) KR) ht5482) ?_; rintro e W5486 ⟨A5483, c5484, rfl, HX5487⟩
                   refine ⟨_, rfl, ?_⟩; intro ax hax; exact HK _ _ _ hax (show Rd 1 _ _ t5481.length (encs encS t5481) from HX5487.rdo (i := 0) (q := (rw0 A5483 t5481 c5484)) KR) HX5487.below
                  ·
                   intro a wr hn hd HW hs; have ha := q0a hn hd
                   obtain ⟨A5483, c5484, he_, hR5488⟩ := seeR hs 103 8 1 t5481.length (encs encS t5481) KR KR; have ha := ha.add he_
                   have ha := ha.add (seeF hs 101 6 (.bool (t5472.toList == (rdL (⟨#[]⟩ : ByteArray) a0 0).toList)) KR KR)
                   have ha := ha.bool 101 KR (q29 hp5480)
                   refine yStep ha 104 KR ?_; intro l_ ha HK
                   refine stepp ha 104 (.int .i64 (t5481.length : Int)) KR KR ?_; intro ax hax; exact HK _ _ _ hax rfl (Below.refl _ _)
                  ·
                   intro a wr hn hd HW hs; have ha := q0a hn hd
                   have ha := ha.add (seeF hs 104 9 (.int .i64 (t5481.length : Int)) KR KR)
                   have ha := ha.add (seeF hs 101 6 (.bool (t5472.toList == (rdL (⟨#[]⟩ : ByteArray) a0 0).toList)) KR KR)
                   have ha := ha.bool 101 KR (q29 hp5480)
                   refine yStep ha 105 KR ?_; intro l_ ha HK
                   refine stepp ha 105 (.bool ((t5481.length : Int) == 0)) KR KR ?_; intro ax hax; exact HK _ _ _ hax rfl (Below.refl _ _)
                  ·
                   intro a wr hn hd HW hs; have ha := q0a hn hd
                   have ha := ha.add (seeF hs 101 6 (.bool (t5472.toList == (rdL (⟨#[]⟩ : ByteArray) a0 0).toList)) KR KR)
                   have ha := ha.bool 101 KR (q29 hp5480)
                   have ha := ha.add (seeF hs 105 10 (.bool ((t5481.length : Int) == 0)) KR KR)
                   refine yStep ha 106 KR ?_; intro l_ ha HK
                   refine stepp ha 106 (.bool ((t5481.length : Int) == 0)) KR KR ?_; intro ax hax; exact HK _ _ _ hax rfl (Below.refl _ _)
                 ·
                  intro a W5489 ha HW he hf
                  replace ha := ha.add (he 0 (.slice A0_0 a0.length c0_0) KR KR)
                  replace ha := ha.add (he 12 (.int .i64 x5408) KR KR)
                  replace ha := ha.add (he 13 ((ptr b5449)) KR KR)
                  replace ha := ha.add (gotF (m := 12) (j := 11) (d := 106) (v := .bool ((t5481.length : Int) == 0)) hf KR KR KR)
                  clear he hf
                  refine sp1 ha 15 (.bool ((t5481.length : Int) == 0)) ?_; clear ha a; intro a ha
                  refine endl ?_
                  exact thenN ⟨((t5481.length : Int) == 0), A5469, c5470, h, ha.sub (q05 KR (q05 KR (q05 KR (q05 KR (q0t _))))), (HW), hU5411⟩
                ·
                 replace h := q0c h hp5480
                 refine q2z 12 KR KR ha HW [.fix ((ptr b5449)), .fix (.string t5472), .fix (.slice A0_0 a0.length c0_0), .fix (.pointer (some ⟨b5477, off5478 + (0 : Int).toNat * 1, none⟩)), .fix (.string (rdL (⟨#[]⟩ : ByteArray) a0 0)), .fix (.bool (t5472.toList == (rdL (⟨#[]⟩ : ByteArray) a0 0).toList)), .fix (.bool (t5472.toList == (rdL (⟨#[]⟩ : ByteArray) a0 0).toList)), .fix undef, .fix undef, .fix undef, .fix undef, .fix (.bool false)] ?_ ?_
                 ·
                  refine ⟨?_, ?_, ?_, ?_, ?_, ?_, ?_, ?_, ?_, ?_, ?_, ?_, trivial⟩
                  ·
                   intro a wr hn hd HW hs; have ha := q0a hn hd
                   have ha := ha.add (seeE hs 13 ((ptr b5449)) KR KR)
                   refine yStep ha 95 KR ?_; intro l_ ha HK
                   refine stepp ha 95 ((ptr b5449)) KR KR ?_; intro ax hax; exact HK _ _ _ hax rfl (Below.refl _ _)
                  ·
                   intro a wr hn hd HW hs; have ha := q0a hn hd
                   have ha := ha.add (seeF hs 95 0 ((ptr b5449)) KR KR)
                   refine yStep ha 96 KR ?_; intro l_ ha HK
                   refine stepc ha 96 KR KR (q13.calls (⟨(), x5447.f1, x5447.f2, x5447.f3, (⟨(), (), x5447.f4.f2⟩ : q03), x5447.f5, x5447.f6, x5447.f7, x5447.f8, x5447.f9⟩ : q00) A5469 c5470 b5449 b5156 t5472 _ (HW.ca (i := 0) (b := b5449) (C := (ar1 b5156 x5447.f1 x5447.f2 x5447.f3 x5447.f4.f2 x5447.f5 A5469 x5447.f6.length c5470 x5447.f7 x5447.f8 x5447.f9)) (T := 57) (fr := (0, 0)) KR) (HW.rdo (i := 0) (q := (rw0 A5469 x5447.f6 c5470)) KR) ht5473) ?_; rintro e W5474 ⟨rfl, HX5475⟩
                   refine ⟨_, rfl, ?_⟩; intro ax hax; exact HK _ _ _ hax rfl HX5475.below
                  ·
                   intro a wr hn hd HW hs; have ha := q0a hn hd
                   have ha := ha.add (seeE hs 0 (.slice A0_0 a0.length c0_0) KR KR)
                   refine yStep ha 97 KR ?_; intro l_ ha HK
                   refine stepp ha 97 (.slice A0_0 a0.length c0_0) KR KR ?_; intro ax hax; exact HK _ _ _ hax rfl (Below.refl _ _)
                  ·
                   intro a wr hn hd HW hs; have ha := q0a hn hd
                   have ha := ha.add (seeF hs 97 2 (.slice A0_0 a0.length c0_0) KR KR)
                   replace ha := ha.turn 97 (u := .slice A0_0 a0.length c0_0) (v := .slice (some ⟨b5477, off5478, none⟩) a0.length c0_0) KR (by rw [hA5479])
                   refine yStep ha 98 KR ?_; intro l_ ha HK
                   refine stepif ha 98 (sz := 1) (len := a0.length) (b := b5477) (off := off5478) (c := c0_0) 22 9 (.tmp 97) (.const (.int .i64 0)) .i64 0 rfl KR KR KR KR (by decide) (show (0 : Int) < ((a0).length : Int) from hA5343) KR ?_; intro ax hax; exact HK _ _ _ hax rfl (Below.refl _ _)
                  ·
                   intro a wr hn hd HW hs; have ha := q0a hn hd
                   have ha := ha.add (seeF hs 98 3 (.pointer (some ⟨b5477, off5478 + (0 : Int).toNat * 1, none⟩)) KR KR)
                   refine yStep ha 99 KR ?_; intro l_ ha HK
                   refine stepl ha 99 (Rd.ca encS (⟨#[]⟩ : ByteArray) (fun _ => rfl) (by have h_ := ((HW.rd0 hr0_0)); rw [hA5479] at h_; exact h_) (by decide) (show (0 : Int) < ((a0).length : Int) from hA5343)) 9 0 (.tmp 98) (.string (rdL (⟨#[]⟩ : ByteArray) a0 0)) rfl KR KR KR ?_; intro ax hax; exact HK _ _ _ hax rfl (Below.refl _ _)
                  ·
                   intro a wr hn hd HW hs; have ha := q0a hn hd
                   have ha := ha.add (seeF hs 96 1 (.string t5472) KR KR)
                   have ha := ha.add (seeF hs 99 4 (.string (rdL (⟨#[]⟩ : ByteArray) a0 0)) KR KR)
                   refine yStep ha 100 KR ?_; intro l_ ha HK
                   refine stepp ha 100 (.bool (t5472.toList == (rdL (⟨#[]⟩ : ByteArray) a0 0).toList)) KR KR ?_; intro ax hax; exact HK _ _ _ hax rfl (Below.refl _ _)
                  ·
                   intro a wr hn hd HW hs; have ha := q0a hn hd
                   have ha := ha.add (seeF hs 100 5 (.bool (t5472.toList == (rdL (⟨#[]⟩ : ByteArray) a0 0).toList)) KR KR)
                   refine yStep ha 101 KR ?_; intro l_ ha HK
                   refine stepp ha 101 (.bool (t5472.toList == (rdL (⟨#[]⟩ : ByteArray) a0 0).toList)) KR KR ?_; intro ax hax; exact HK _ _ _ hax rfl (Below.refl _ _)
                  ·
                   intro a wr hn hd HW hs; have ha := q0a hn hd
                   have ha := ha.add (seeE hs 13 ((ptr b5449)) KR KR)
                   have ha := ha.add (seeF hs 101 6 (.bool (t5472.toList == (rdL (⟨#[]⟩ : ByteArray) a0 0).toList)) KR KR)
                   have ha := ha.bool 101 KR (q23 hp5480)
                   exact yo ha KR rfl
                  ·
                   intro a wr hn hd HW hs; have ha := q0a hn hd
                   have ha := ha.add (seeF hs 102 7 (undef) KR KR)
                   have ha := ha.add (seeF hs 101 6 (.bool (t5472.toList == (rdL (⟨#[]⟩ : ByteArray) a0 0).toList)) KR KR)
                   have ha := ha.bool 101 KR (q23 hp5480)
                   exact yo ha KR rfl
                  ·
                   intro a wr hn hd HW hs; have ha := q0a hn hd
                   have ha := ha.add (seeF hs 103 8 (undef) KR KR)
                   have ha := ha.add (seeF hs 101 6 (.bool (t5472.toList == (rdL (⟨#[]⟩ : ByteArray) a0 0).toList)) KR KR)
                   have ha := ha.bool 101 KR (q23 hp5480)
                   exact yo ha KR rfl
                  ·
                   intro a wr hn hd HW hs; have ha := q0a hn hd
                   have ha := ha.add (seeF hs 104 9 (undef) KR KR)
                   have ha := ha.add (seeF hs 101 6 (.bool (t5472.toList == (rdL (⟨#[]⟩ : ByteArray) a0 0).toList)) KR KR)
                   have ha := ha.bool 101 KR (q23 hp5480)
                   exact yo ha KR rfl
                  ·
                   intro a wr hn hd HW hs; have ha := q0a hn hd
                   have ha := ha.add (seeF hs 101 6 (.bool (t5472.toList == (rdL (⟨#[]⟩ : ByteArray) a0 0).toList)) KR KR)
                   have ha := ha.bool 101 KR (q23 hp5480)
                   have ha := ha.add (seeF hs 105 10 (undef) KR KR)
                   refine yStep ha 106 KR ?_; intro l_ ha HK
                   refine stepp ha 106 (.bool false) KR KR ?_; intro ax hax; exact HK _ _ _ hax rfl (Below.refl _ _)
                 ·
                  intro a W5490 ha HW he hf
                  replace ha := ha.add (he 0 (.slice A0_0 a0.length c0_0) KR KR)
                  replace ha := ha.add (he 12 (.int .i64 x5408) KR KR)
                  replace ha := ha.add (he 13 ((ptr b5449)) KR KR)
                  replace ha := ha.add (gotF (m := 12) (j := 11) (d := 106) (v := .bool false) hf KR KR KR)
                  clear he hf
                  refine sp1 ha 15 (.bool false) ?_; clear ha a; intro a ha
                  refine endl ?_
                  exact thenN ⟨false, A5469, c5470, h, ha.sub (q05 KR (q05 KR (q05 KR (q05 KR (q0t _))))), (HW), hU5411⟩
               ·
                intro a W5496 hJ
                obtain ⟨x5491, A5492, c5493, h, ha, HW, hU5495⟩ := hJ
                replace h : q02.j2 K a0 x5408 x5447 x5491 = some r := h
                unfold q02.j2 at h
                refine hK5468 _ _ ?_; clear hK5468
                refine wp_seq_k (fun K5497 hK5498 => ?_)
                refine cutn (fun a W5523 => ∃ (x5522 : Bool), q02.j3 K x5408 x5491 x5522 = some r ∧ Has 128 [(12, .int .i64 x5408), (15, .bool x5491), (16, .bool x5522)] a ∧ Wd w W5523 ((N5424 ++ ([] : Blks)) ++ ([] : Blks)) (([] : List OwnA))) ?_ ?_
                ·
                 obtain ⟨t5499, ht5500, h_⟩ := q08 h; replace h := h_; clear h_
                 by_cases hp5503 : t5499 = (⟨#[111, 108, 100]⟩ : ByteArray)
                 ·
                  replace h := q0b h hp5503
                  obtain ⟨t5504, ht5505, h_⟩ := q08 h; replace h := h_; clear h_
                  obtain ⟨hA5511, h_⟩ := q0d h; replace h := h_; clear h_
                  refine regionM 8 KR [.fix ((ptr b5449)), .fix (.string t5499), .fix (.bool (t5499.toList == (⟨#[111, 108, 100]⟩ : ByteArray).toList)), .fix (.bool (t5499.toList == (⟨#[111, 108, 100]⟩ : ByteArray).toList)), .fix ((ptr b5449)), (.pr (fun v_ => ∃ A_ c_, v_ = .slice A_ t5504.length c_)), .fix (.slice A0_0 a0.length c0_0), (.pr (fun v_ => ∃ A_ c_, v_ = .slice A_ (a0.drop (1 : Int).toNat).length c_ ∧ RdF w (N5424 ++ ([] : Blks)) 1 v_ (a0.drop (1 : Int).toNat).length (encs encS (a0.drop (1 : Int).toNat))))] [(5, 112, ⟨9, 1, t5504.length, encs encS t5504⟩)] KR (((b5449, .cells (ar1 b5156 x5447.f1 x5447.f2 x5447.f3 x5447.f4.f2 x5447.f5 A5492 x5447.f6.length c5493 x5447.f7 x5447.f8 x5447.f9) 57 (0, 0)) :: U5441 ++ ((N5424 ++ ([] : Blks)) ++ ([] : Blks))), ((rw0 A5492 x5447.f6 c5493) :: ([] : List OwnA))) ha HW ?_ ?_ ?_
                  ·
                   refine ⟨?_, ?_, ?_, ?_, ?_, ?_, ?_, ?_, trivial⟩
                   ·
                    show OpOk _ _ _ _ _ _ _ _ _ _
                    intro a wr hn hd HW hs; have ha := q0a hn hd
                    have ha := ha.add (seeE hs 13 ((ptr b5449)) KR KR)
                    refine yStep ha 107 KR ?_; intro l_ ha HK
                    refine stepp ha 107 ((ptr b5449)) KR KR ?_; intro ax hax; exact HK _ _ _ hax rfl (Below.refl _ _)
                   ·
                    show OpOk _ _ _ _ _ _ _ _ _ _
                    intro a wr hn hd HW hs; have ha := q0a hn hd
                    have ha := ha.add (seeF hs 107 0 ((ptr b5449)) KR KR)
                    refine yStep ha 108 KR ?_; intro l_ ha HK
                    refine stepc ha 108 KR KR (q13.calls (⟨(), x5447.f1, x5447.f2, x5447.f3, (⟨(), (), x5447.f4.f2⟩ : q03), x5447.f5, x5447.f6, x5447.f7, x5447.f8, x5447.f9⟩ : q00) A5492 c5493 b5449 b5156 t5499 _ (HW.ca (i := 0) (b := b5449) (C := (ar1 b5156 x5447.f1 x5447.f2 x5447.f3 x5447.f4.f2 x5447.f5 A5492 x5447.f6.length c5493 x5447.f7 x5447.f8 x5447.f9)) (T := 57) (fr := (0, 0)) KR) (HW.rdo (i := 0) (q := (rw0 A5492 x5447.f6 c5493)) KR) ht5500) ?_; rintro e W5501 ⟨rfl, HX5502⟩
                    refine ⟨_, rfl, ?_⟩; intro ax hax; exact HK _ _ _ hax rfl HX5502.below
                   ·
                    show OpOk _ _ _ _ _ _ _ _ _ _
                    intro a wr hn hd HW hs; have ha := q0a hn hd
                    have ha := ha.add (seeF hs 108 1 (.string t5499) KR KR)
                    refine yStep ha 109 KR ?_; intro l_ ha HK
                    refine stepp ha 109 (.bool (t5499.toList == (⟨#[111, 108, 100]⟩ : ByteArray).toList)) KR KR ?_; intro ax hax; exact HK _ _ _ hax rfl (Below.refl _ _)
                   ·
                    show OpOk _ _ _ _ _ _ _ _ _ _
                    intro a wr hn hd HW hs; have ha := q0a hn hd
                    have ha := ha.add (seeF hs 109 2 (.bool (t5499.toList == (⟨#[111, 108, 100]⟩ : ByteArray).toList)) KR KR)
                    refine yStep ha 110 KR ?_; intro l_ ha HK
                    refine stepp ha 110 (.bool (t5499.toList == (⟨#[111, 108, 100]⟩ : ByteArray).toList)) KR KR ?_; intro ax hax; exact HK _ _ _ hax rfl (Below.refl _ _)
                   ·
                    show OpOk _ _ _ _ _ _ _ _ _ _
                    intro a wr hn hd HW hs; have ha := q0a hn hd
                    have ha := ha.add (seeE hs 13 ((ptr b5449)) KR KR)
                    have ha := ha.add (seeF hs 110 3 (.bool (t5499.toList == (⟨#[111, 108, 100]⟩ : ByteArray).toList)) KR KR)
                    have ha := ha.bool 110 KR (q29 hp5503)
                    refine yStep ha 111 KR ?_; intro l_ ha HK
                    refine stepp ha 111 ((ptr b5449)) KR KR ?_; intro ax hax; exact HK _ _ _ hax rfl (Below.refl _ _)
                   ·
                    show MakeOk _ _ _ _ _ _ _ _ _
                    intro a wr hn hd HW hs; have ha := q0a hn hd
                    have ha := ha.add (seeF hs 111 4 ((ptr b5449)) KR KR)
                    have ha := ha.add (seeF hs 110 3 (.bool (t5499.toList == (⟨#[111, 108, 100]⟩ : ByteArray).toList)) KR KR)
                    have ha := ha.bool 110 KR (q29 hp5503)
                    refine yStepA ha 112 KR ?_; intro l_ ha HK
                    refine stepc ha 112 KR KR (q11.calls (⟨(), x5447.f1, x5447.f2, x5447.f3, (⟨(), (), x5447.f4.f2⟩ : q03), x5447.f5, x5447.f6, x5447.f7, x5447.f8, x5447.f9⟩ : q00) A5492 c5493 b5449 b5156 t5504 _ (HW.ca (i := 0) (b := b5449) (C := (ar1 b5156 x5447.f1 x5447.f2 x5447.f3 x5447.f4.f2 x5447.f5 A5492 x5447.f6.length c5493 x5447.f7 x5447.f8 x5447.f9)) (T := 57) (fr := (0, 0)) KR) (HW.rdo (i := 0) (q := (rw0 A5492 x5447.f6 c5493)) KR) ht5505) ?_; rintro e W5509 ⟨A5506, c5507, rfl, HX5510⟩
                    refine ⟨_, rfl, ?_⟩; intro ax hax; exact HK _ _ _ hax ⟨⟨_, _, rfl⟩, HX5510⟩
                   ·
                    show OpOk _ _ _ _ _ _ _ _ _ _
                    intro a wr hn hd HW hs; have ha := q0a hn hd
                    have ha := ha.add (seeE hs 0 (.slice A0_0 a0.length c0_0) KR KR)
                    have ha := ha.add (seeF hs 110 3 (.bool (t5499.toList == (⟨#[111, 108, 100]⟩ : ByteArray).toList)) KR KR)
                    have ha := ha.bool 110 KR (q29 hp5503)
                    refine yStep ha 113 KR ?_; intro l_ ha HK
                    refine stepp ha 113 (.slice A0_0 a0.length c0_0) KR KR ?_; intro ax hax; exact HK _ _ _ hax rfl (Below.refl _ _)
                   ·
                    show OpOk _ _ _ _ _ _ _ _ _ _
                    intro a wr hn hd HW hs; have ha := q0a hn hd
                    have ha := ha.add (seeF hs 113 6 (.slice A0_0 a0.length c0_0) KR KR)
                    have ha := ha.add (seeF hs 110 3 (.bool (t5499.toList == (⟨#[111, 108, 100]⟩ : ByteArray).toList)) KR KR)
                    have ha := ha.bool 110 KR (q29 hp5503)
                    refine yStep ha 114 KR ?_; intro l_ ha HK
                    refine stepslo encS ha 114 22 9 1 (fun _ => rfl) (.tmp 113) (.const (.int .i64 1)) .i64 1 (A := A0_0) (c := c0_0) a0 rfl KR KR KR KR (Rd.cap ((HW.rd0 hr0_0))) (by decide) (show (1 : Int) ≤ ((a0).length : Int) from hA5511) KR ?_; intro A5512 c5513 ax hT5514 hax
                    exact HK _ _ _ hax ⟨A5512, c5513, rfl, fun W_ bs_ os_ h1_ h2_ => hT5514 _ ((RdF.old hr0_0) W_ bs_ os_ h1_ h2_)⟩ (Below.refl _ _)
                  ·
                   intro p_ hp_; simp only [List.mem_cons, List.not_mem_nil, or_false] at hp_
                   rcases hp_ with rfl
                   all_goals exact KR
                  ·
                   intro a W5516 ha HW he hf
                   obtain ⟨_, he5_, A5506, c5507, rfl⟩ := gotK (m := 8) (j := 5) (d := 112) (f := (.pr (fun v_ => ∃ A_ c_, v_ = .slice A_ t5504.length c_))) hf KR KR KR; replace ha := ha.add he5_; have hg5_ := getD_some he5_; clear he5_
                   replace HW : Wd w W5516 ((b5449, .cells (ar1 b5156 x5447.f1 x5447.f2 x5447.f3 x5447.f4.f2 x5447.f5 A5492 x5447.f6.length c5493 x5447.f7 x5447.f8 x5447.f9) 57 (0, 0)) :: U5441 ++ ((N5424 ++ ([] : Blks)) ++ ([] : Blks))) ([(⟨9, 1, t5504.length, encs encS t5504⟩ : MkRow).own (a.tmps.getD 112 undef)] ++ ((rw0 A5492 x5447.f6 c5493) :: ([] : List OwnA))) := HW; rw [hg5_] at HW; clear hg5_
                   replace HW : Wd w W5516 ((b5449, .cells (ar1 b5156 x5447.f1 x5447.f2 x5447.f3 x5447.f4.f2 x5447.f5 A5492 x5447.f6.length c5493 x5447.f7 x5447.f8 x5447.f9) 57 (0, 0)) :: U5441 ++ ((N5424 ++ ([] : Blks)) ++ ([] : Blks))) ((rw0 A5506 t5504 c5507) :: (rw0 A5492 x5447.f6 c5493) :: ([] : List OwnA)) := HW
                   replace ha := ha.add (he 12 (.int .i64 x5408) KR KR)
                   replace ha := ha.add (he 15 (.bool x5491) KR KR)
                   replace ha := ha.add (gotF (m := 8) (j := 3) (d := 110) (v := .bool (t5499.toList == (⟨#[111, 108, 100]⟩ : ByteArray).toList)) hf KR KR KR)
                   obtain ⟨_, he_, A5512, c5513, rfl, hr5515⟩ := gotK (m := 8) (j := 7) (d := 114) (f := (.pr (fun v_ => ∃ A_ c_, v_ = .slice A_ (a0.drop (1 : Int).toNat).length c_ ∧ RdF w (N5424 ++ ([] : Blks)) 1 v_ (a0.drop (1 : Int).toNat).length (encs encS (a0.drop (1 : Int).toNat))))) hf KR KR KR; replace ha := ha.add he_; clear he_
                   clear he hf
                   replace ha := ha.bool 110 KR (q29 hp5503)
                   obtain ⟨t5517, ht5518, h_⟩ := q08 h; replace h := h_; clear h_
                   refine stepc ha 115 KR KR (q0e.calls K t5504 (a0.drop (1 : Int).toNat) A5506 c5507 A5512 c5513 t5517 _ (HW.rdo (i := 0) (q := (rw0 A5506 t5504 c5507)) KR) ((hr5515.rd HW (mem_flat (ss := [[(b5449, .cells (ar1 b5156 x5447.f1 x5447.f2 x5447.f3 x5447.f4.f2 x5447.f5 A5492 x5447.f6.length c5493 x5447.f7 x5447.f8 x5447.f9) 57 (0, 0))], U5441, N5424 ++ ([] : Blks)]) (bt := ([] : Blks)) 2 rfl))) ht5518) ?_; clear ha a; rintro e W5519 ⟨rfl, HX5520⟩
                   refine ⟨_, rfl, ?_⟩; intro a ha; replace HW := HW.callw HX5520; clear HX5520
                   refine sp2 ha 116 (.bool t5517) 16 (.bool t5517) ?_; clear ha a; intro a ha
                   refine endl ?_
                   exact thenN ⟨t5517, h, ha.sub (q05 KR (q05 KR (q05 KR (q0t _)))), (Wd.sg [[(b5449, .cells (ar1 b5156 x5447.f1 x5447.f2 x5447.f3 x5447.f4.f2 x5447.f5 A5492 x5447.f6.length c5493 x5447.f7 x5447.f8 x5447.f9) 57 (0, 0))], U5441, N5424 ++ ([] : Blks)] ([] : Blks) [(rw0 A5506 t5504 c5507), (rw0 A5492 x5447.f6 c5493)] ([] : List OwnA) [N5424 ++ ([] : Blks)] [] HW [2] [0, 1] [] KR KR (by decide) KR)⟩
                 ·
                  replace h := q0c h hp5503
                  refine regionGT 8 KR KR ha HW [.fix ((ptr b5449)), .fix (.string t5499), .fix (.bool (t5499.toList == (⟨#[111, 108, 100]⟩ : ByteArray).toList)), .fix (.bool (t5499.toList == (⟨#[111, 108, 100]⟩ : ByteArray).toList)), .fix undef, .fix undef, .fix undef, .fix undef] ?_ ?_
                  ·
                   refine ⟨?_, ?_, ?_, ?_, ?_, ?_, ?_, ?_, trivial⟩
                   ·
                    intro a wr hn hd HW hs; have ha := q0a hn hd
                    have ha := ha.add (seeE hs 13 ((ptr b5449)) KR KR)
                    refine yStep ha 107 KR ?_; intro l_ ha HK
                    refine stepp ha 107 ((ptr b5449)) KR KR ?_; intro ax hax; exact HK _ _ _ hax rfl (Below.refl _ _)
                   ·
                    intro a wr hn hd HW hs; have ha := q0a hn hd
                    have ha := ha.add (seeF hs 107 0 ((ptr b5449)) KR KR)
                    refine yStep ha 108 KR ?_; intro l_ ha HK
                    refine stepc ha 108 KR KR (q13.calls (⟨(), x5447.f1, x5447.f2, x5447.f3, (⟨(), (), x5447.f4.f2⟩ : q03), x5447.f5, x5447.f6, x5447.f7, x5447.f8, x5447.f9⟩ : q00) A5492 c5493 b5449 b5156 t5499 _ (HW.ca (i := 0) (b := b5449) (C := (ar1 b5156 x5447.f1 x5447.f2 x5447.f3 x5447.f4.f2 x5447.f5 A5492 x5447.f6.length c5493 x5447.f7 x5447.f8 x5447.f9)) (T := 57) (fr := (0, 0)) KR) (HW.rdo (i := 0) (q := (rw0 A5492 x5447.f6 c5493)) KR) ht5500) ?_; rintro e W5501 ⟨rfl, HX5502⟩
                    refine ⟨_, rfl, ?_⟩; intro ax hax; exact HK _ _ _ hax rfl HX5502.below
                   ·
                    intro a wr hn hd HW hs; have ha := q0a hn hd
                    have ha := ha.add (seeF hs 108 1 (.string t5499) KR KR)
                    refine yStep ha 109 KR ?_; intro l_ ha HK
                    refine stepp ha 109 (.bool (t5499.toList == (⟨#[111, 108, 100]⟩ : ByteArray).toList)) KR KR ?_; intro ax hax; exact HK _ _ _ hax rfl (Below.refl _ _)
                   ·
                    intro a wr hn hd HW hs; have ha := q0a hn hd
                    have ha := ha.add (seeF hs 109 2 (.bool (t5499.toList == (⟨#[111, 108, 100]⟩ : ByteArray).toList)) KR KR)
                    refine yStep ha 110 KR ?_; intro l_ ha HK
                    refine stepp ha 110 (.bool (t5499.toList == (⟨#[111, 108, 100]⟩ : ByteArray).toList)) KR KR ?_; intro ax hax; exact HK _ _ _ hax rfl (Below.refl _ _)
                   ·
                    intro a wr hn hd HW hs; have ha := q0a hn hd
                    have ha := ha.add (seeE hs 13 ((ptr b5449)) KR KR)
                    have ha := ha.add (seeF hs 110 3 (.bool (t5499.toList == (⟨#[111, 108, 100]⟩ : ByteArray).toList)) KR KR)
                    have ha := ha.bool 110 KR (q23 hp5503)
                    exact yo ha KR rfl
                   ·
                    intro a wr hn hd HW hs; have ha := q0a hn hd
                    have ha := ha.add (seeF hs 111 4 (undef) KR KR)
                    have ha := ha.add (seeF hs 110 3 (.bool (t5499.toList == (⟨#[111, 108, 100]⟩ : ByteArray).toList)) KR KR)
                    have ha := ha.bool 110 KR (q23 hp5503)
                    exact yo ha KR rfl
                   ·
                    intro a wr hn hd HW hs; have ha := q0a hn hd
                    have ha := ha.add (seeE hs 0 (.slice A0_0 a0.length c0_0) KR KR)
                    have ha := ha.add (seeF hs 110 3 (.bool (t5499.toList == (⟨#[111, 108, 100]⟩ : ByteArray).toList)) KR KR)
                    have ha := ha.bool 110 KR (q23 hp5503)
                    exact yo ha KR rfl
                   ·
                    intro a wr hn hd HW hs; have ha := q0a hn hd
                    have ha := ha.add (seeF hs 113 6 (undef) KR KR)
                    have ha := ha.add (seeF hs 110 3 (.bool (t5499.toList == (⟨#[111, 108, 100]⟩ : ByteArray).toList)) KR KR)
                    have ha := ha.bool 110 KR (q23 hp5503)
                    exact yo ha KR rfl
                  ·
                   intro a W5521 ha HW he hf
                   replace ha := ha.add (he 12 (.int .i64 x5408) KR KR)
                   replace ha := ha.add (he 15 (.bool x5491) KR KR)
                   replace ha := ha.add (gotF (m := 8) (j := 3) (d := 110) (v := .bool (t5499.toList == (⟨#[111, 108, 100]⟩ : ByteArray).toList)) hf KR KR KR)
                   clear he hf
                   replace ha := ha.bool 110 KR (q23 hp5503)
                   refine stepo ha 115 KR ?_; clear ha a; intro a ha
                   refine sp2 ha 116 (.bool false) 16 (.bool false) ?_; clear ha a; intro a ha
                   refine endl ?_
                   exact thenN ⟨false, h, ha.sub (q05 KR (q05 KR (q05 KR (q0t _)))), (Wd.sg [[(b5449, .cells (ar1 b5156 x5447.f1 x5447.f2 x5447.f3 x5447.f4.f2 x5447.f5 A5492 x5447.f6.length c5493 x5447.f7 x5447.f8 x5447.f9) 57 (0, 0))], U5441, N5424 ++ ([] : Blks)] ([] : Blks) [(rw0 A5492 x5447.f6 c5493)] ([] : List OwnA) [N5424 ++ ([] : Blks)] [] HW [2] [0, 1] [] KR KR (by decide) KR)⟩
                ·
                 intro a W5523 hJ
                 obtain ⟨x5522, h, ha, HW⟩ := hJ
                 replace h : q02.j3 K x5408 x5491 x5522 = some r := h
                 unfold q02.j3 at h
                 refine hK5498 _ _ ?_; clear hK5498
                 refine wp_seq_k (fun K5524 hK5525 => ?_)
                 refine wp_region_lit ?_
                 refine sp2 ha 117 (.bool x5491) 118 (.bool x5491) ?_; clear ha a; intro a ha
                 by_cases hp5526 : x5491 = true
                 ·
                  replace h := q0b h hp5526
                  replace ha := ha.bool 118 KR (hp5526)
                  refine stepo ha 119 KR ?_; clear ha a; intro a ha
                  refine stepo ha 120 KR ?_; clear ha a; intro a ha
                  refine stepo ha 121 KR ?_; clear ha a; intro a ha
                  refine stepo ha 122 KR ?_; clear ha a; intro a ha
                  refine stepo ha 123 KR ?_; clear ha a; intro a ha
                  refine sp2 ha 124 (.bool true) 125 (.bool true) ?_; clear ha a; intro a ha
                  obtain ⟨t5527, ht5528, h_⟩ := q08 h; replace h := h_; clear h_
                  refine stepc ha 126 KR KR (q0y.calls t5527 _ (HW.ca0 hG1) ht5528) ?_; clear ha a; rintro e W5529 ⟨rfl, HX5530⟩
                  refine ⟨_, rfl, ?_⟩; intro a ha; replace HW := HW.callw HX5530; clear HX5530
                  refine sp2 ha 127 (.bool t5527) 6 (.bool t5527) ?_; clear ha a; intro a ha
                  refine endl (thenN (hK5525 _ _ ?_)); clear hK5525
                  refine wp_ret ?_
                  obtain rfl := Option.some.inj h
                  exact finv ha _ _ rfl (.tmp (v := .bool t5527) KR .nil) (.bool t5527) rfl ⟨rfl, HW.pick [] [] (by decide) (by decide) rfl KR⟩
                 ·
                  replace h := q0c h hp5526
                  replace ha := ha.bool 118 KR (q2w hp5526)
                  refine sp3 ha 119 (.int .i64 x5408) 120 (.bool (x5408 != 0)) 121 (.bool (x5408 != 0)) ?_; clear ha a; intro a ha
                  by_cases hp5531 : x5408 = 0
                  ·
                   replace h := q0b h hp5531
                   replace ha := ha.bool 121 KR (q2f hp5531)
                   refine stepo ha 122 KR ?_; clear ha a; intro a ha
                   refine sp3 ha 123 (.bool false) 124 (.bool false) 125 (.bool false) ?_; clear ha a; intro a ha
                   refine stepo ha 126 KR ?_; clear ha a; intro a ha
                   refine sp2 ha 127 (.bool false) 6 (.bool false) ?_; clear ha a; intro a ha
                   refine endl (thenN (hK5525 _ _ ?_)); clear hK5525
                   refine wp_ret ?_
                   obtain rfl := Option.some.inj h
                   exact finv ha _ _ rfl (.tmp (v := .bool false) KR .nil) (.bool false) rfl ⟨rfl, HW.pick [] [] (by decide) (by decide) rfl KR⟩
                  ·
                   replace h := q0c h hp5531
                   replace ha := ha.bool 121 KR (q2e hp5531)
                   refine sp4 ha 122 (.bool x5522) 123 (.bool x5522) 124 (.bool x5522) 125 (.bool x5522) ?_; clear ha a; intro a ha
                   by_cases hp5532 : x5522 = true
                   ·
                    replace h := q0b h hp5532
                    replace ha := ha.bool 125 KR (hp5532)
                    obtain ⟨t5533, ht5534, h_⟩ := q08 h; replace h := h_; clear h_
                    refine stepc ha 126 KR KR (q0y.calls t5533 _ (HW.ca0 hG1) ht5534) ?_; clear ha a; rintro e W5535 ⟨rfl, HX5536⟩
                    refine ⟨_, rfl, ?_⟩; intro a ha; replace HW := HW.callw HX5536; clear HX5536
                    refine sp2 ha 127 (.bool t5533) 6 (.bool t5533) ?_; clear ha a; intro a ha
                    refine endl (thenN (hK5525 _ _ ?_)); clear hK5525
                    refine wp_ret ?_
                    obtain rfl := Option.some.inj h
                    exact finv ha _ _ rfl (.tmp (v := .bool t5533) KR .nil) (.bool t5533) rfl ⟨rfl, HW.pick [] [] (by decide) (by decide) rfl KR⟩
                   ·
                    replace h := q0c h hp5532
                    replace ha := ha.bool 125 KR (q2w hp5532)
                    refine stepo ha 126 KR ?_; clear ha a; intro a ha
                    refine sp2 ha 127 (.bool false) 6 (.bool false) ?_; clear ha a; intro a ha
                    refine endl (thenN (hK5525 _ _ ?_)); clear hK5525
                    refine wp_ret ?_
                    obtain rfl := Option.some.inj h
                    exact finv ha _ _ rfl (.tmp (v := .bool false) KR .nil) (.bool false) rfl ⟨rfl, HW.pick [] [] (by decide) (by decide) rfl KR⟩
              ·
               replace h := q0c h hp5464
               refine condT ha KR KR (t := (t5436.2.1 != 0)) (q2e hp5464) ?_
               refine wp_seq_k (fun K5465 hK5466 => ?_)
               refine wp_region_lit ?_
               refine sp1 ha 6 (.bool false) ?_; clear ha a; intro a ha
               refine endl (thenN (hK5466 _ _ ?_)); clear hK5466
               refine wp_ret ?_
               refine thenR ?_
               obtain rfl := Option.some.inj h
               exact finv ha _ _ rfl (.tmp (v := .bool false) KR .nil) (.bool false) rfl ⟨rfl, HW.pick [] [] (by decide) (by decide) rfl KR⟩
           ·
            replace h := q0c h hp5366
            refine condT ha KR KR (t := (t5358.1 != 0)) (q2e hp5366) ?_
            refine wp_seq_k (fun K5367 hK5368 => ?_)
            refine wp_region_lit ?_
            refine sp1 ha 6 (.bool false) ?_; clear ha a; intro a ha
            refine endl (thenN (hK5368 _ _ ?_)); clear hK5368
            refine wp_ret ?_
            refine thenR ?_
            obtain rfl := Option.some.inj h
            exact finv ha _ _ rfl (.tmp (v := .bool false) KR .nil) (.bool false) rfl ⟨rfl, HW.pick [] [] (by decide) (by decide) rfl KR⟩
      ·
       replace h := q0c h hp5196
       refine condT ha KR KR (t := (t5162.2.1 != 0)) (q2e hp5196) ?_
       refine wp_seq_k (fun K5197 hK5198 => ?_)
       refine wp_region_lit ?_
       refine sp1 ha 6 (.bool false) ?_; clear ha a; intro a ha
       refine endl (thenN (hK5198 _ _ ?_)); clear hK5198
       refine wp_ret ?_
       refine thenR ?_
       obtain rfl := Option.some.inj h
       exact finv ha _ _ rfl (.tmp (v := .bool false) KR .nil) (.bool false) rfl ⟨rfl, HW.pick [] [] (by decide) (by decide) rfl KR⟩
     ·
      replace h := q0c h hp5195
      replace ha := ha.bool 37 KR (q2e hp5195)
      refine stepo ha 38 KR ?_; clear ha a; intro a ha
      refine stepo ha 39 KR ?_; clear ha a; intro a ha
      refine sp1 ha 40 (.bool true) ?_; clear ha a; intro a ha
      refine endl (thenN (hK5194 _ _ ?_)); clear hK5194
      refine condT ha KR KR (t := true) (rfl) ?_
      refine wp_seq_k (fun K5199 hK5200 => ?_)
      refine wp_region_lit ?_
      refine sp1 ha 6 (.bool false) ?_; clear ha a; intro a ha
      refine endl (thenN (hK5200 _ _ ?_)); clear hK5200
      refine wp_ret ?_
      refine thenR ?_
      obtain rfl := Option.some.inj h
      exact finv ha _ _ rfl (.tmp (v := .bool false) KR .nil) (.bool false) rfl ⟨rfl, HW.pick [] [] (by decide) (by decide) rfl KR⟩
end Go.Proofs.YtokdiacjcbolfaaDoor.F
namespace Go.Proofs.YtokdiacjcbolfaaDoor.X
open Go Go.RowKit
set_option linter.unusedVariables false
set_option linter.unusedSimpArgs false
theorem wrapi64 (n : Int) : IntKind.wrap .i64 n = (n + 9223372036854775808) % 18446744073709551616 - 9223372036854775808 := by
 have e : IntKind.wrap .i64 n = if n % 18446744073709551616 ≥ 9223372036854775808 then n % 18446744073709551616 - 18446744073709551616 else n % 18446744073709551616 := by
  simp [IntKind.wrap, IntKind.bits, IntKind.signed]
 rw [e]
 split <;> omega
theorem wrapu64 (n : Int) : IntKind.wrap .u64 n = n % 18446744073709551616 := by simp [IntKind.wrap, IntKind.bits, IntKind.signed]
theorem wrapu32 (n : Int) : IntKind.wrap .u32 n = n % 4294967296 := by simp [IntKind.wrap, IntKind.bits, IntKind.signed]
theorem wrapu8 (n : Int) : IntKind.wrap .u8 n = n % 256 := by simp [IntKind.wrap, IntKind.bits, IntKind.signed]
theorem wi {n : Int} (h1 : -9223372036854775808 ≤ n) (h2 : n ≤ 9223372036854775807) : IntKind.wrap .i64 n = n := by rw [wrapi64]; omega
theorem wu {n : Int} (h1 : 0 ≤ n) (h2 : n ≤ 18446744073709551615) : IntKind.wrap .u64 n = n := by rw [wrapu64]; omega
theorem bt_lo (s : ByteArray) (i : Int) : 0 ≤ bt s i := by unfold bt; omega
theorem bt_hi (s : ByteArray) (i : Int) : bt s i ≤ 255 := by unfold bt; have := (s.data.toList.getD i.toNat 0).toNat_lt; omega
theorem bits_or (x y : Nat) (hx : x < 18446744073709551616) (hy : y < 18446744073709551616) : bor .u64 (x : Int) (y : Int) = ((x ||| y : Nat) : Int) := by
 have h : x ||| y < 2 ^ 64 := Nat.or_lt_two_pow (by omega) (by omega)
 have e : bor .u64 (x : Int) (y : Int) = IntKind.wrap .u64 ((BitVec.ofInt 64 x ||| BitVec.ofInt 64 y).toNat) := rfl
 rw [e, wrapu64, BitVec.toNat_or, BitVec.ofInt_natCast, BitVec.ofInt_natCast, BitVec.toNat_ofNat, BitVec.toNat_ofNat, Nat.mod_eq_of_lt (show x < 2 ^ 64 by omega), Nat.mod_eq_of_lt (show y < 2 ^ 64 by omega)]
 omega
theorem c256 (m : Nat) : ((256 ^ m : Nat) : Int) = 256 ^ m := by rw [Int.natCast_pow]; rfl
def be (s : ByteArray) (at_ : Int) : Nat → Int
 | 0 => 0
 | n + 1 => be s at_ n * 256 + bt s (at_ + n)
theorem be_lo (s : ByteArray) (p : Int) : ∀ n, 0 ≤ be s p n
 | 0 => by simp [be]
 | n + 1 => by have := be_lo s p n; have := bt_lo s (p + n); simp only [be]; omega
theorem be_hi (s : ByteArray) (p : Int) : ∀ n, be s p n < 256 ^ n
 | 0 => by simp [be]
 | n + 1 => by have := be_hi s p n; have := bt_hi s (p + n); simp only [be, Int.pow_succ]; omega
def le (s : ByteArray) (at_ : Int) : Nat → Int
 | 0 => 0
 | n + 1 => le s at_ n + bt s (at_ + n) * 256 ^ n
theorem or_up (a b m : Nat) (hb : b < 256) : a * 256 ^ (m + 1) ||| b * 256 ^ m = (a * 256 + b) * 256 ^ m := by
 have e : (256 : Nat) ^ m = 2 ^ (8 * m) := by rw [Nat.pow_mul]
 have e1 : a * 256 ^ (m + 1) = (a * 256) <<< (8 * m) := by rw [Nat.shiftLeft_eq, Nat.pow_succ, e]; ac_rfl
 have e2 : b * 256 ^ m = b <<< (8 * m) := by rw [Nat.shiftLeft_eq, e]
 have e3 : a * 256 ||| b = a * 256 + b := by
  have := Nat.two_pow_add_eq_or_of_lt (i := 8) (b := b) (by omega) a
  rw [Nat.mul_comm a 256]
  simpa using this.symm
 rw [e1, e2, ← Nat.shiftLeft_or_distrib, e3, Nat.shiftLeft_eq, e]
end Go.Proofs.YtokdiacjcbolfaaDoor.X
namespace Go.Proofs.YtokdiacjcbolfaaDoor.F
open Go Go.RowKit Go.Proofs.YtokdiacjcbolfaaDoor.X
set_option linter.unusedVariables false
set_option linter.unusedSimpArgs false
def inB (l : List Int) : Prop := ∀ y ∈ l, 0 ≤ y ∧ y ≤ 255
theorem inB_zero (n : Nat) : inB (List.replicate n 0) := fun y hy => by
 obtain rfl := List.eq_of_mem_replicate hy
 omega
theorem inB_take {l : List Int} (h : inB l) (n : Nat) : inB (l.take n) := fun y hy => h y (List.mem_of_mem_take hy)
theorem inB_drop {l : List Int} (h : inB l) (n : Nat) : inB (l.drop n) := fun y hy => h y (List.mem_of_mem_drop hy)
theorem nums_append (l m : List Int) : strOfNums l ++ strOfNums m = strOfNums (l ++ m) := by
 apply ByteArray.ext
 simp [strOfNums, ByteArray.data_append]
theorem nums_extract (l : List Int) (n m : Nat) : (strOfNums l).extract n m = strOfNums ((l.take m).drop n) := by
 apply ByteArray.ext
 simp [strOfNums, ByteArray.data_extract, List.map_drop, List.map_take, List.drop_take]
theorem bt_of (l : List Int) (h : inB l) (i : Int) : bt (strOfNums l) i = l.getD i.toNat 0 := by
 unfold bt
 rw [strOfNums_data, List.getD_eq_getElem?_getD, List.getD_eq_getElem?_getD, List.getElem?_map]
 cases e : l[i.toNat]? with
 | none => rfl
 | some x =>
  have := h x (List.mem_of_getElem? e)
  simp only [Option.map_some, Option.getD_some, UInt8.toNat_ofNat']
  omega
def numsOf (s : ByteArray) : List Int := s.data.toList.map fun b => (b.toNat : Int)
theorem q1v (s : ByteArray) : (numsOf s).length = s.size := by unfold numsOf; rw [List.length_map]; rfl
theorem numsOf_in (s : ByteArray) : inB (numsOf s) := fun y hy => by
 obtain ⟨b, _, rfl⟩ := List.mem_map.1 hy
 have := b.toNat_lt
 omega
theorem q27 (s : ByteArray) : strOfNums (numsOf s) = s := by
 apply ByteArray.ext
 unfold strOfNums numsOf
 rw [List.map_map]
 have : ((fun n : Int => UInt8.ofNat n.toNat) ∘ fun b : UInt8 => ((b.toNat : Nat) : Int)) = id := by
  funext b
  simp
 rw [this]
 simp
theorem bt_numsOf (s : ByteArray) (i : Int) : bt s i = (numsOf s).getD i.toNat 0 := by
 conv => lhs; rw [← q27 s]
 exact bt_of _ (numsOf_in s) i
theorem text_ext {s t : ByteArray} (hs : s.size = t.size) (h : ∀ i : Nat, i < s.size → bt s i = bt t i) : s = t := by
 rw [← q27 s, ← q27 t]
 congr 1
 apply List.ext_getElem
 ·rw [q1v, q1v, hs]
 ·intro i h1 h2
  have := h i (by rw [q1v] at h1; exact h1)
  rw [bt_numsOf, bt_numsOf, Int.toNat_natCast, List.getD_eq_getElem?_getD, List.getD_eq_getElem?_getD, List.getElem?_eq_getElem h1, List.getElem?_eq_getElem h2] at this
  exact this
theorem bt_left (s t : ByteArray) (i : Int) (h : i.toNat < s.size) : bt (s ++ t) i = bt s i := by
 unfold bt
 rw [ByteArray.data_append, Array.toList_append, List.getD_eq_getElem?_getD, List.getD_eq_getElem?_getD, List.getElem?_append_left (by simpa using h)]
theorem bt_right (s t : ByteArray) (i : Int) (h : s.size ≤ i.toNat) : bt (s ++ t) i = bt t (i - s.size) := by
 unfold bt
 rw [ByteArray.data_append, Array.toList_append, List.getD_eq_getElem?_getD, List.getD_eq_getElem?_getD, List.getElem?_append_right (by simpa using h)]
 have : (i - (s.size : Int)).toNat = i.toNat - s.size := by omega
 rw [this]; rfl
theorem q2c (s : ByteArray) (n m : Nat) (i : Int) (h0 : 0 ≤ i) (h : n + i.toNat < m) (hm : m ≤ s.size) : bt (s.extract n m) i = bt s (n + i) := by
 conv => lhs; rw [← q27 s, nums_extract]
 rw [bt_of _ (inB_drop (inB_take (numsOf_in s) _) _), bt_numsOf]
 rw [List.getD_eq_getElem?_getD, List.getD_eq_getElem?_getD, List.getElem?_drop, List.getElem?_take, if_pos h, show ((n : Int) + i).toNat = n + i.toNat by omega]
theorem q1f (s : ByteArray) (n m : Nat) (h : n ≤ m) (hm : m ≤ s.size) : (s.extract n m).size = m - n := by
 rw [ByteArray.size_extract]; omega
theorem bt_beyond (s : ByteArray) (i : Int) (h : s.size ≤ i.toNat) : bt s i = 0 := by
 rw [bt_numsOf, List.getD_eq_getElem?_getD, List.getElem?_eq_none (by rw [q1v]; exact h)]; rfl
theorem empty_nums : (⟨#[]⟩ : ByteArray) = strOfNums [] := rfl
theorem size0 (s : ByteArray) : s = ⟨#[]⟩ ↔ s.size = 0 := by
 constructor
 ·intro h; rw [h]; rfl
 ·intro h
  exact text_ext (by rw [h]; rfl) (fun i hi => by omega)
end Go.Proofs.YtokdiacjcbolfaaDoor.F
namespace Go.Proofs.YtokdiacjcbolfaaDoor.F
open Go Go.RowKit Go.Proofs.YtokdiacjcbolfaaDoor.X
set_option linter.unusedVariables false
set_option linter.unusedSimpArgs false
abbrev NB : ByteArray := ⟨#[]⟩
def ZS : ByteArray := strOfNums (List.replicate (512 : Int).toNat (0 : Int))
theorem ZS_size : ZS.size = 512 := by unfold ZS; rw [strOfNums_size, List.length_replicate]; rfl
theorem NB_ne {s : ByteArray} (h : s.size = 512) : s ≠ NB := by rintro rfl; cases h
abbrev Held := List (Nat × ByteArray)
def q2q (hs : Held) (i : Nat) : ByteArray := hs.foldl (fun o h => if h.1 = i then h.2 else o) NB
theorem lastOf_snoc (hs : Held) (h : Nat × ByteArray) (i : Nat) : q2q (hs ++ [h]) i = if h.1 = i then h.2 else q2q hs i := by simp [q2q, List.foldl_append]
def ats (hs : Held) (i : Nat) : Prop := ∃ h ∈ hs, h.1 = i
theorem q3h (hs : Held) (i : Nat) (hok : ∀ h ∈ hs, h.2.size = 512) : (ats hs i ∧ (q2q hs i).size = 512) ∨ (¬ ats hs i ∧ q2q hs i = NB) := by
 have key : ∀ (r : Held), (∀ h ∈ r, h.2.size = 512) → (ats r.reverse i ∧ (q2q r.reverse i).size = 512) ∨ (¬ ats r.reverse i ∧ q2q r.reverse i = NB) := by
  intro r
  induction r with
  | nil => intro _; exact .inr ⟨fun ⟨h, hh, _⟩ => by simp at hh, rfl⟩
  | cons h r ih =>
   intro hk
   rw [List.reverse_cons, lastOf_snoc]
   by_cases e : h.1 = i
   ·rw [if_pos e]
    exact .inl ⟨⟨h, by simp, e⟩, hk h List.mem_cons_self⟩
   ·rw [if_neg e]
    rcases ih (fun x hx => hk x (List.mem_cons_of_mem _ hx)) with ⟨⟨x, hx, hxe⟩, h2⟩ | ⟨h1, h2⟩
    ·exact .inl ⟨⟨x, by simp at hx ⊢; exact .inl hx, hxe⟩, h2⟩
    ·refine .inr ⟨fun ⟨x, hx, hxe⟩ => ?_, h2⟩
     simp only [List.mem_append, List.mem_singleton] at hx
     rcases hx with hx | hx
     ·exact h1 ⟨x, hx, hxe⟩
     ·subst hx; exact e hxe
 have := key hs.reverse (fun h hh => hok h (List.mem_reverse.mp hh))
 rwa [List.reverse_reverse] at this
structure DRel (N : Nat) (D : q04) (c : Nat → ByteArray) (hs : Held) : Prop where
 n1 : 1 ≤ N
 n2 : N ≤ 8192
 l0 : D.f0.length = N
 l1 : D.f1.length = N
 safe : ∀ i, i < N → (D.f0.getD i NB = NB ∧ c i = ZS) ∨ ((D.f0.getD i NB).size = 512 ∧ c i = D.f0.getD i NB)
 now : ∀ i, i < N → D.f1.getD i NB = q2q hs i
 held : D.f2 = hs.map fun h => (⟨(h.1 : Int), h.2⟩ : q01)
 hok : ∀ h ∈ hs, h.1 < N ∧ h.2.size = 512
def view (c : Nat → ByteArray) (hs : Held) (i : Nat) : ByteArray := if q2q hs i = NB then c i else q2q hs i
section
variable {N : Nat} {D : q04} {c : Nat → ByteArray} {hs : Held}
theorem DRel.csize (h : DRel N D c hs) {i : Nat} (hi : i < N) : (c i).size = 512 := by
 rcases h.safe i hi with ⟨_, e⟩ | ⟨e, e2⟩
 ·rw [e]; exact ZS_size
 ·rw [e2]; exact e
theorem DRel.hsize (h : DRel N D c hs) : ∀ x ∈ hs, x.2.size = 512 := fun x hx => (h.hok x hx).2
theorem DRel.vsize (h : DRel N D c hs) {i : Nat} (hi : i < N) : (view c hs i).size = 512 := by
 unfold view
 rcases q3h hs i h.hsize with ⟨_, e⟩ | ⟨_, e⟩
 ·rw [if_neg (NB_ne e)]; exact e
 ·rw [if_pos e]; exact h.csize hi
theorem q2t (D : q04) : (⟨D.f0, D.f1, D.f2, (⟨(), (), D.f3.f2⟩ : q03), D.f4, D.f5, D.f6⟩ : q04) = D := rfl
theorem rdN (l : List ByteArray) (i : Nat) : rdL (⟨#[]⟩ : ByteArray) l (i : Int) = l.getD i NB := rfl
theorem kept_run (h : DRel N D c hs) (i : Nat) (hi : i < N) : q1x.f D (i : Int) = some (c i) := by
 unfold q1x.f
 rw [q0i (by omega), q0i (by rw [h.l0]; omega), rdN]
 rcases h.safe i hi with ⟨e, e2⟩ | ⟨e, e2⟩
 ·rw [if_pos e, e2]; rfl
 ·rw [if_neg (NB_ne e), e2]
theorem sector_run (h : DRel N D c hs) (i : Nat) (hi : i < N) : q1c.f D (i : Int) = some (view c hs i) := by
 unfold q1c.f
 rw [q0i (by omega), q0i (by rw [h.l1]; omega), rdN, h.now i hi, q2t, kept_run h i hi]
 unfold view
 split
 ·rfl
 ·rfl
def joinS (v : Nat → ByteArray) : Nat → Nat → ByteArray
 | _, 0 => NB
 | at_, n + 1 => v at_ ++ joinS v (at_ + 1) n
theorem joinS_size {v : Nat → ByteArray} : ∀ (n at_ : Nat), (∀ i, at_ ≤ i → i < at_ + n → (v i).size = 512) → (joinS v at_ n).size = n * 512
 | 0, at_, _ => by show 0 = _; omega
 | n + 1, at_, h => by
  show (v at_ ++ joinS v (at_ + 1) n).size = _
  rw [ByteArray.size_append, h at_ (Nat.le_refl _) (by omega), joinS_size n (at_ + 1) (fun i h1 h2 => h i (by omega) (by omega))]
  omega
theorem nb_app (a : ByteArray) : a ++ NB = a := by show a ++ ByteArray.empty = a; simp
theorem app_nb (a : ByteArray) : NB ++ a = a := by show ByteArray.empty ++ a = a; simp
theorem read_loop (K : Nat) (h : DRel N D c hs) (at_ n : Nat) (hn : at_ + n ≤ N) : ∀ (r k i : Nat) (x : ByteArray), i + r = n → r < k → x.size = i * 512 → q0n.l0 K D (at_ : Int) (n : Int) k (i : Int) x = some (x ++ joinS (view c hs) (at_ + i) r, 0)
 | 0, k + 1, i, x, h1, h2, hx => by
  show q0n.b0 K D (at_ : Int) (n : Int) (q0n.l0 K D (at_ : Int) (n : Int) k) (i : Int) x = _
  unfold q0n.b0
  rw [if_neg (by omega)]
  show some (x, 0) = some (x ++ NB, 0)
  rw [nb_app]
 | r + 1, k + 1, i, x, h1, h2, hx => by
  show q0n.b0 K D (at_ : Int) (n : Int) (q0n.l0 K D (at_ : Int) (n : Int) k) (i : Int) x = _
  unfold q0n.b0
  have hN := h.n2
  have hv := h.vsize (i := at_ + i) (by omega)
  rw [if_pos (by omega), wi (by omega) (by omega), q2t, show (at_ : Int) + (i : Int) = ((at_ + i : Nat) : Int) by omega, sector_run h (at_ + i) (by omega)]
  simp only [Option.bind_some]
  rw [q0i (by rw [hx, hv]; omega), wi (by omega) (by omega), show (i : Int) + 1 = ((i + 1 : Nat) : Int) by omega, read_loop K h at_ n hn r k (i + 1) _ (by omega) (by omega) (by rw [ByteArray.size_append, hx, hv]; omega)]
  show _ = some (x ++ (view c hs (at_ + i) ++ joinS (view c hs) (at_ + i + 1) r), 0)
  rw [← ByteArray.append_assoc]
  rfl
 | _, 0, i, x, h1, h2, hx => by omega
theorem read_run (K : Nat) (h : DRel N D c hs) (hd : D.f6 = false) (at_ n : Nat) (hn : at_ + n ≤ N) (hK : n < K) : q0n.f K D (at_ : Int) (n : Int) = some (joinS (view c hs) at_ n, 0) := by
 unfold q0n.f
 have hN := h.n2
 rw [if_neg (by omega), if_neg (by omega), if_neg (by rw [h.l0]; omega)]
 unfold q0n.j0
 rw [if_neg (by rw [h.l0, wi (by omega) (by omega)]; simp; omega), if_neg (by rw [hd]; simp)]
 have := read_loop K h at_ n hn n K 0 NB (by omega) hK rfl
 rw [app_nb] at this
 exact this
end
theorem new_run (n : Nat) (h1 : 1 ≤ n) (h2 : n ≤ 8192) : ∃ D, dev_New.f (n : Int) = some (some D, 0) ∧ DRel n D (fun _ => ZS) [] ∧ D.f6 = false ∧ D.f4 = false := by
 unfold dev_New.f
 rw [if_neg (by omega), if_neg (by omega), q0i (by omega), q0i (by omega)]
 refine ⟨_, rfl, ⟨h1, h2, by simp, by simp, fun i hi => .inl ⟨?_, rfl⟩, fun i hi => ?_, rfl, fun h hh => by cases hh⟩, rfl, rfl⟩
 ·simp [List.getD_eq_getElem?_getD, hi]
 ·simp [List.getD_eq_getElem?_getD, hi]; rfl
def Fl (D : q04) (lf : Option Nat) : Prop := D.f6 = false ∧ match lf with
 | none => D.f4 = false
 | some k => D.f4 = true ∧ D.f5 = (k : Int) ∧ k ≤ 1000000
def less (lf : Option Nat) (m : Nat) : Option Nat := lf.map (· - m)
def can (lf : Option Nat) (m : Nat) : Bool := match lf with
 | none => true
 | some k => decide (m ≤ k)
theorem operation_run (K : Nat) {N : Nat} {D : q04} {c : Nat → ByteArray} {hs : Held} {lf : Option Nat} (h : DRel N D c hs) (hf : Fl D lf) : ∃ D', q0z.f K D = some (can lf 1, D') ∧ DRel N D' c hs ∧ (can lf 1 = true → Fl D' (less lf 1)) ∧ (can lf 1 = false → D'.f6 = true) := by
 unfold q0z.f
 obtain ⟨h6, h4⟩ := hf
 rw [if_neg (by rw [h6]; simp)]
 cases lf with
 | none =>
  simp only at h4
  rw [if_neg (by rw [h4]; simp)]
  exact ⟨_, rfl, ⟨h.n1, h.n2, h.l0, h.l1, h.safe, h.now, h.held, h.hok⟩, fun _ => ⟨h6, h4⟩, (fun hx => nomatch hx)⟩
 | some k =>
  obtain ⟨h4, h5, hk⟩ := h4
  rw [if_pos h4]
  by_cases hz : k = 0
  ·subst hz
   rw [if_pos (by rw [h5]; rfl)]
   exact ⟨_, rfl, ⟨h.n1, h.n2, h.l0, h.l1, h.safe, h.now, h.held, h.hok⟩, (fun hx => nomatch hx), fun _ => rfl⟩
  ·rw [if_neg (by rw [h5]; omega)]
   have hc : can (some k) 1 = true := by simp [can]; omega
   rw [hc]
   refine ⟨_, rfl, ⟨h.n1, h.n2, h.l0, h.l1, h.safe, h.now, h.held, h.hok⟩, fun _ => ⟨h6, h4, ?_, by show k - 1 ≤ _; omega⟩, (fun hx => nomatch hx)⟩
   show IntKind.wrap .i64 (D.f5 - 1) = ((k - 1 : Nat) : Int)
   rw [h5, wi (by omega) (by omega)]
   omega
def chunk (data : ByteArray) (i : Nat) : ByteArray := data.extract (i * 512) ((i + 1) * 512)
def q2i (data : ByteArray) (at_ : Nat) : Nat → Nat → Held
 | _, 0 => []
 | i, r + 1 => (at_ + i, chunk data i) :: q2i data at_ (i + 1) r
theorem q3j (data : ByteArray) (i : Nat) (h : (i + 1) * 512 ≤ data.size) : (chunk data i).size = 512 := by
 unfold chunk
 rw [ByteArray.size_extract]
 omega
def doneN (lf : Option Nat) (m : Nat) : Nat := match lf with
 | none => m
 | some k => min m k
theorem q16 {l : List ByteArray} {j : Nat} {v : ByteArray} (hj : j < l.length) (i : Nat) : (l.set j v).getD i NB = if j = i then v else l.getD i NB := by
 rw [List.getD_eq_getElem?_getD, List.getElem?_set]
 by_cases e : j = i
 ·subst e; simp [hj]
 ·simp [e, List.getD_eq_getElem?_getD]
theorem tdiv512 (s m : Nat) (h : s = m * 512) : Int.tdiv (s : Int) 512 = (m : Int) := by
 rw [Int.tdiv_eq_ediv_of_nonneg (by omega), h]
 omega
theorem tmod512 (s m : Nat) (h : s = m * 512) : Int.tmod (s : Int) 512 = 0 := by
 rw [Int.tmod_eq_emod_of_nonneg (by omega), h]
 omega
theorem DRel.snoc {N : Nat} {D : q04} {c : Nat → ByteArray} {hs : Held} (h : DRel N D c hs) {j : Nat} {v : ByteArray} (hj : j < N) (hv : v.size = 512) (ops : Int) (f4 : Bool) (f5 : Int) (f6 : Bool) :
  DRel N (⟨D.f0, D.f1.set j v, D.f2 ++ [(⟨(j : Int), v⟩ : q01)], (⟨(), (), ops⟩ : q03), f4, f5, f6⟩ : q04) c (hs ++ [(j, v)]) := by
 refine ⟨h.n1, h.n2, h.l0, by simp [h.l1], h.safe, fun i hi => ?_, ?_, fun x hx => ?_⟩
 ·rw [lastOf_snoc]
  show (D.f1.set j v).getD i NB = _
  rw [q16 (by rw [h.l1]; exact hj), h.now i hi]
 ·show D.f2 ++ _ = _
  rw [h.held, List.map_append]
  rfl
 ·rcases List.mem_append.mp hx with hx | hx
  ·exact h.hok x hx
  ·rw [List.mem_singleton.mp hx]
   exact ⟨hj, hv⟩
theorem write_loop (K : Nat) {N : Nat} {c : Nat → ByteArray} (at_ m : Nat) (data : ByteArray) (hm : data.size = m * 512) (hN : at_ + m ≤ N) (hN2 : N ≤ 8192) : ∀ (r k i : Nat) (D : q04) (hs : Held) (lf : Option Nat), i + r = m → r < k → DRel N D c hs → Fl D lf → hs.length + r ≤ 1000000 →
  ∃ D', q0l.l0 K (at_ : Int) data k (i : Int) D.f0 D.f1 D.f2 D.f3.f2 D.f4 D.f5 D.f6 = some (if can lf r then 0 else 41, D') ∧ DRel N D' c (hs ++ q2i data at_ i (doneN lf r)) ∧ (can lf r = true → Fl D' (less lf r)) ∧ (can lf r = false → D'.f6 = true)
 | 0, k + 1, i, D, hs, lf, h1, h2, h, hf, hh => by
  refine ⟨D, ?_, ?_, fun _ => ?_, fun hx => ?_⟩
  ·show q0l.b0 K (at_ : Int) data (q0l.l0 K (at_ : Int) data k) (i : Int) D.f0 D.f1 D.f2 D.f3.f2 D.f4 D.f5 D.f6 = _
   unfold q0l.b0
   have hq := tdiv512 data.size m hm
   rw [if_neg (by rw [hq, wi (by omega) (by omega)]; omega)]
   have : can lf 0 = true := by cases lf <;> simp [can]
   rw [this]
   rfl
  ·have : doneN lf 0 = 0 := by cases lf <;> simp [doneN]
   rw [this]
   show DRel N D c (hs ++ [])
   rw [List.append_nil]
   exact h
  ·have : less lf 0 = lf := by cases lf <;> simp [less]
   rw [this]; exact hf
  ·have : can lf 0 = true := by cases lf <;> simp [can]
   rw [this] at hx; cases hx
 | r + 1, k + 1, i, D, hs, lf, h1, h2, h, hf, hh => by
  show ∃ D', q0l.b0 K (at_ : Int) data (q0l.l0 K (at_ : Int) data k) (i : Int) D.f0 D.f1 D.f2 D.f3.f2 D.f4 D.f5 D.f6 = _ ∧ _
  unfold q0l.b0
  have hq := tdiv512 data.size m hm
  rw [if_pos (by rw [hq, wi (by omega) (by omega)]; omega), q2t]
  obtain ⟨D1, e1, e2, e3, e4⟩ := operation_run K h hf
  rw [e1]
  simp only [Option.bind_some]
  by_cases hc : can lf 1 = true
  ·rw [if_pos hc]
   have hf1 := e3 hc
   have hs512 := q3j data i (by rw [hm]; omega)
   have w1 : IntKind.wrap .i64 ((i : Int) * 512) = ((i * 512 : Nat) : Int) := by rw [wi (by omega) (by omega)]; omega
   have w2 : IntKind.wrap .i64 (IntKind.wrap .i64 ((i : Int) + 1) * 512) = (((i + 1) * 512 : Nat) : Int) := by rw [wi (n := (i : Int) + 1) (by omega) (by omega), wi (by omega) (by omega)]; omega
   have w3 : IntKind.wrap .i64 ((at_ : Int) + (i : Int)) = ((at_ + i : Nat) : Int) := by rw [wi (by omega) (by omega)]; omega
   rw [w1, w2, w3]
   have hext : data.extract (((i * 512 : Nat) : Int) : Int).toNat ((((i + 1) * 512 : Nat) : Int) : Int).toNat = chunk data i := rfl
   rw [hext]
   have hlen : D1.f2.length = hs.length := by rw [e2.held, List.length_map]
   rw [q0i (by omega), q0i (by omega), q0i (by rw [hm]; omega), q0i (by rw [hlen]; simp; omega), q0i (by omega), q0i (by rw [e2.l1]; omega)]
   rw [wi (by omega) (by omega), show (i : Int) + 1 = ((i + 1 : Nat) : Int) by omega]
   have hsn := e2.snoc (j := at_ + i) (v := chunk data i) (by omega) hs512 D1.f3.f2 D1.f4 D1.f5 D1.f6
   have hfn : Fl (⟨D1.f0, D1.f1.set (at_ + i) (chunk data i), D1.f2 ++ [(⟨((at_ + i : Nat) : Int), chunk data i⟩ : q01)], (⟨(), (), D1.f3.f2⟩ : q03), D1.f4, D1.f5, D1.f6⟩ : q04) (less lf 1) := hf1
   obtain ⟨D', g1, g2, g3, g4⟩ := write_loop K at_ m data hm hN hN2 r k (i + 1) _ _ _ (by omega) (by omega) hsn hfn (by simp; omega)
   have c1 : can lf (r + 1) = can (less lf 1) r := by
    cases lf with
    | none => rfl
    | some q =>
     have : 1 ≤ q := by simpa [can] using hc
     simp only [can, less, Option.map_some, decide_eq_decide]
     omega
   have c2 : doneN lf (r + 1) = doneN (less lf 1) r + 1 := by
    cases lf with
    | none => rfl
    | some q =>
     have : 1 ≤ q := by simpa [can] using hc
     simp only [doneN, less, Option.map_some]
     omega
   have c3 : less lf (r + 1) = less (less lf 1) r := by
    cases lf with
    | none => rfl
    | some q => simp only [less, Option.map_some]; congr 1; omega
   rw [c1, c2, c3]
   refine ⟨D', g1, ?_, g3, g4⟩
   rw [List.append_assoc] at g2
   exact g2
  ·have hc' : can lf 1 = false := by simpa using hc
   rw [if_neg hc]
   have c1 : can lf (r + 1) = false := by
    cases lf with
    | none => simp [can] at hc'
    | some q => simp [can] at hc' ⊢; omega
   have c2 : doneN lf (r + 1) = 0 := by
    cases lf with
    | none => simp [can] at hc'
    | some q => simp [can] at hc'; simp only [doneN]; omega
   rw [c1, c2]
   refine ⟨D1, rfl, ?_, fun hx => (by cases hx), fun _ => e4 hc'⟩
   show DRel N D1 c (hs ++ [])
   rw [List.append_nil]
   exact e2
 | _, 0, i, D, hs, lf, h1, h2, h, hf, hh => by omega
theorem write_run (K : Nat) {N : Nat} {c : Nat → ByteArray} {D : q04} {hs : Held} {lf : Option Nat} (h : DRel N D c hs) (hf : Fl D lf) (at_ m : Nat) (data : ByteArray) (hm : data.size = m * 512) (hN : at_ + m ≤ N) (hh : hs.length + m ≤ 1000000) (hK : m < K) :
  ∃ D', q0l.f K D (at_ : Int) data = some (if can lf m then 0 else 41, D') ∧ DRel N D' c (hs ++ q2i data at_ 0 (doneN lf m)) ∧ (can lf m = true → Fl D' (less lf m)) ∧ (can lf m = false → D'.f6 = true) := by
 have hN2 := h.n2
 have e1 := tmod512 data.size m hm
 have e2 := tdiv512 data.size m hm
 unfold q0l.f
 rw [if_pos e1, if_neg (by omega), if_neg (by rw [h.l0]; omega), q2t]
 unfold q0l.j0
 rw [if_neg (by rw [e2, h.l0, wi (by omega) (by omega), wi (by omega) (by omega)]; simp; omega), if_neg (by rw [hf.1]; simp)]
 exact write_loop K at_ m data hm hN hN2 m K 0 D hs lf (by omega) hK h hf hh
def done (hs : Held) (j i : Nat) : Prop := ∃ q, q < j ∧ ∃ h, hs[q]? = some h ∧ h.1 = i
theorem q2m {hs : Held} {j : Nat} {h : Nat × ByteArray} (hj : hs[j]? = some h) (i : Nat) : done hs (j + 1) i ↔ h.1 = i ∨ done hs j i := by
 constructor
 ·rintro ⟨q, hq, x, hx, e⟩
  by_cases e2 : q = j
  ·subst e2; rw [hj] at hx; cases hx; exact .inl e
  ·exact .inr ⟨q, by omega, x, hx, e⟩
 ·rintro (e | ⟨q, hq, x, hx, e⟩)
  ·exact ⟨j, by omega, h, hj, e⟩
  ·exact ⟨q, by omega, x, hx, e⟩
theorem done_all {hs : Held} (i : Nat) : done hs hs.length i ↔ ats hs i := by
 constructor
 ·rintro ⟨q, _, x, hx, e⟩; exact ⟨x, List.mem_of_getElem? hx, e⟩
 ·rintro ⟨x, hx, e⟩
  obtain ⟨q, hq⟩ := List.getElem?_of_mem hx
  exact ⟨q, (List.getElem?_eq_some_iff.1 hq).1, x, hq, e⟩
theorem heldAt {D : q04} {hs : Held} (hd : D.f2 = hs.map fun h => (⟨(h.1 : Int), h.2⟩ : q01)) {j : Nat} {h : Nat × ByteArray} (hj : hs[j]? = some h) : rdL q01.z D.f2 (j : Int) = ⟨(h.1 : Int), h.2⟩ := by
 unfold rdL
 rw [hd, Int.toNat_natCast, List.getD_eq_getElem?_getD, List.getElem?_map, hj]
 rfl
open Classical in
noncomputable def setS (D : q04) (hs : Held) (j i : Nat) : ByteArray := if done hs j i ∧ D.f1.getD i NB ≠ NB then D.f1.getD i NB else D.f0.getD i NB
open Classical in
noncomputable def setN (D : q04) (hs : Held) (j i : Nat) : ByteArray := if done hs j i then NB else D.f1.getD i NB
theorem settle_loop (K : Nat) {N : Nat} (D : q04) (hs : Held) (hd : D.f2 = hs.map fun h => (⟨(h.1 : Int), h.2⟩ : q01)) (hok : ∀ h ∈ hs, h.1 < N) (hlen : hs.length ≤ 1000000) : ∀ (r k j : Nat) (S W : List ByteArray), j + r = hs.length → r < k → S.length = N → W.length = N → (∀ i, i < N → S.getD i NB = setS D hs j i) → (∀ i, i < N → W.getD i NB = setN D hs j i) →
  ∃ S' W', q0r.l0 K D k (j : Int) S W = some (⟨S', W', ([] : List q01), (⟨(), (), D.f3.f2⟩ : q03), D.f4, D.f5, D.f6⟩ : q04) ∧ S'.length = N ∧ W'.length = N ∧ (∀ i, i < N → S'.getD i NB = setS D hs hs.length i) ∧ (∀ i, i < N → W'.getD i NB = setN D hs hs.length i)
 | 0, k + 1, j, S, W, h1, h2, h3, h4, h5, h6 => by
  have hj : j = hs.length := by omega
  subst hj
  refine ⟨S, W, ?_, h3, h4, h5, h6⟩
  show q0r.b0 K D (q0r.l0 K D k) (hs.length : Int) S W = _
  unfold q0r.b0
  rw [if_neg (by rw [hd, List.length_map]; omega)]
 | r + 1, k + 1, j, S, W, h1, h2, h3, h4, h5, h6 => by
  obtain ⟨h, hj⟩ : ∃ h, hs[j]? = some h := ⟨hs[j]'(by omega), List.getElem?_eq_getElem (by omega)⟩
  have hhN := hok h (List.mem_of_getElem? hj)
  show ∃ S' W', q0r.b0 K D (q0r.l0 K D k) (j : Int) S W = _ ∧ _
  unfold q0r.b0
  rw [if_pos (by rw [hd, List.length_map]; omega), q0i (by omega), heldAt hd hj]
  simp only
  have w1 : IntKind.wrap .i64 ((j : Int) + 1) = ((j + 1 : Nat) : Int) := by rw [wi (by omega) (by omega)]; omega
  rw [q0i (by omega), q0i (by rw [h4]; omega), rdN, w1]
  by_cases he : W.getD h.1 NB = NB
  ·rw [if_pos he]
   refine settle_loop K D hs hd hok hlen r k (j + 1) S W (by omega) (by omega) h3 h4 (fun i hi => ?_) (fun i hi => ?_)
   ·rw [h5 i hi]
    unfold setS
    by_cases e : h.1 = i
    ·subst e
     rw [h6 h.1 hi] at he
     unfold setN at he
     by_cases hdn : done hs j h.1
     ·have : done hs (j + 1) h.1 := (q2m hj _).mpr (.inr hdn)
      simp [hdn, this]
     ·rw [if_neg hdn] at he
      rw [he]; simp
    ·have : done hs (j + 1) i = done hs j i := propext (by rw [q2m hj]; simp [e])
     rw [this]
   ·by_cases e : h.1 = i
    ·subst e
     have : done hs (j + 1) h.1 := (q2m hj _).mpr (.inl rfl)
     rw [he]
     unfold setN
     rw [if_pos this]
    ·have : done hs (j + 1) i = done hs j i := propext (by rw [q2m hj]; simp [e])
     rw [h6 i hi]
     unfold setN
     rw [this]
  ·rw [if_neg he, q0i (by rw [h3]; omega)]
   have hdn : ¬ done hs j h.1 := by
    intro hdn
    rw [h6 h.1 hhN] at he
    unfold setN at he
    rw [if_pos hdn] at he
    exact he rfl
   have hWd : W.getD h.1 NB = D.f1.getD h.1 NB := by rw [h6 h.1 hhN]; unfold setN; rw [if_neg hdn]
   have hdn1 : done hs (j + 1) h.1 := (q2m hj _).mpr (.inl rfl)
   refine settle_loop K D hs hd hok hlen r k (j + 1) _ _ (by omega) (by omega) (by rw [List.length_set]; exact h3) (by rw [List.length_set]; exact h4) (fun i hi => ?_) (fun i hi => ?_)
   ·show (S.set h.1 (W.getD h.1 NB)).getD i NB = _
    rw [q16 (by rw [h3]; exact hhN)]
    unfold setS
    by_cases e : h.1 = i
    ·subst e
     rw [if_pos rfl, if_pos ⟨hdn1, by rw [← hWd]; exact he⟩, hWd]
    ·have : done hs (j + 1) i = done hs j i := propext (by rw [q2m hj]; simp [e])
     rw [if_neg e, h5 i hi]
     unfold setS
     rw [this]
   ·show (W.set h.1 NB).getD i NB = _
    rw [q16 (by rw [h4]; exact hhN)]
    unfold setN
    by_cases e : h.1 = i
    ·subst e
     rw [if_pos rfl, if_pos hdn1]
    ·have : done hs (j + 1) i = done hs j i := propext (by rw [q2m hj]; simp [e])
     rw [if_neg e, h6 i hi]
     unfold setN
     rw [this]
 | _, 0, j, S, W, h1, h2, h3, h4, h5, h6 => by omega
theorem settle_run (K : Nat) {N : Nat} (D : q04) (hs : Held) (hd : D.f2 = hs.map fun h => (⟨(h.1 : Int), h.2⟩ : q01)) (hok : ∀ h ∈ hs, h.1 < N) (hlen : hs.length ≤ 1000000) (hK : hs.length < K) (l0 : D.f0.length = N) (l1 : D.f1.length = N) :
  ∃ S' W', q0r.f K D = some (⟨S', W', ([] : List q01), (⟨(), (), D.f3.f2⟩ : q03), D.f4, D.f5, D.f6⟩ : q04) ∧ S'.length = N ∧ W'.length = N ∧ (∀ i, i < N → S'.getD i NB = setS D hs hs.length i) ∧ (∀ i, i < N → W'.getD i NB = setN D hs hs.length i) := by
 have hno : ∀ i, ¬ done hs 0 i := fun i ⟨q, hq, _⟩ => by omega
 exact settle_loop K D hs hd hok hlen hs.length K 0 D.f0 D.f1 (by omega) hK l0 l1 (fun i hi => by unfold setS; rw [if_neg (fun h => hno i h.1)]) (fun i hi => by unfold setN; rw [if_neg (hno i)])
theorem flush_run (K : Nat) {N : Nat} {c : Nat → ByteArray} {D : q04} {hs : Held} {lf : Option Nat} (h : DRel N D c hs) (hf : Fl D lf) (hh : hs.length ≤ 1000000) (hK : hs.length < K) :
  ∃ D', q1z.f K D = some (if can lf 1 then 0 else 41, D') ∧ (can lf 1 = true → DRel N D' (view c hs) [] ∧ Fl D' (less lf 1)) ∧ (can lf 1 = false → DRel N D' c hs ∧ D'.f6 = true) := by
 unfold q1z.f
 obtain ⟨D1, e1, e2, e3, e4⟩ := operation_run K h hf
 rw [e1]
 simp only [Option.bind_some]
 by_cases hc : can lf 1 = true
 ·rw [if_pos hc]
  obtain ⟨S, W, g1, g2, g3, g4, g5⟩ := settle_run K D1 hs e2.held (fun x hx => (e2.hok x hx).1) hh hK e2.l0 e2.l1
  rw [g1]
  simp only [Option.bind_some, hc, if_true]
  refine ⟨_, rfl, fun _ => ⟨⟨h.n1, h.n2, g2, g3, fun i hi => ?_, fun i hi => ?_, rfl, fun x hx => by cases hx⟩, e3 hc⟩, fun hx => by cases hx⟩
  ·show (S.getD i NB = NB ∧ _) ∨ ((S.getD i NB).size = 512 ∧ _ = S.getD i NB)
   rw [g4 i hi]
   unfold setS view
   rw [e2.now i hi]
   rcases q3h hs i h.hsize with ⟨ha, hz⟩ | ⟨ha, hz⟩
   ·rw [if_pos ⟨(done_all i).mpr ha, NB_ne hz⟩, if_neg (NB_ne hz)]
    exact .inr ⟨hz, rfl⟩
   ·rw [if_neg (fun hx => ha ((done_all i).mp hx.1)), if_pos hz]
    exact e2.safe i hi
  ·show W.getD i NB = _
   rw [g5 i hi]
   unfold setN
   rcases q3h hs i h.hsize with ⟨ha, hz⟩ | ⟨ha, hz⟩
   ·rw [if_pos ((done_all i).mpr ha)]; rfl
   ·rw [if_neg (fun hx => ha ((done_all i).mp hx)), e2.now i hi, hz]; rfl
 ·have hc' : can lf 1 = false := by simpa using hc
  rw [if_neg hc]
  simp only [hc', Bool.false_eq_true, if_false]
  exact ⟨D1, rfl, fun hx => (by cases hx), fun _ => ⟨e2, e4 hc'⟩⟩
def keepN (keep : List Int) (j : Nat) : Nat := if j < keep.length then (mn (mx (rdL (0 : Int) keep (j : Int)) 0) 512).toNat else 0
theorem keepN_le (keep : List Int) (j : Nat) : keepN keep j ≤ 512 := by
 unfold keepN mn mx
 split
 ·repeat (first | split | omega)
 ·omega
def q3p (c : Nat → ByteArray) (h : Nat × ByteArray) (n : Nat) (i : Nat) : ByteArray := if h.1 = i then h.2.extract 0 n ++ (c h.1).extract n 512 else c i
def torn (c : Nat → ByteArray) (keep : List Int) : Held → Nat → Nat → ByteArray
 | [], _, i => c i
 | h :: r, j, i => torn (q3p c h (keepN keep j)) keep r (j + 1) i
theorem tearAt_size {c : Nat → ByteArray} {h : Nat × ByteArray} {n N : Nat} (hn : n ≤ 512) (hh : h.2.size = 512) (hN : h.1 < N) (hc : ∀ i, i < N → (c i).size = 512) (i : Nat) (hi : i < N) : (q3p c h n i).size = 512 := by
 unfold q3p
 split
 ·rw [ByteArray.size_append, ByteArray.size_extract, ByteArray.size_extract, hh, hc h.1 hN]; omega
 ·exact hc i hi
theorem mnmx (x : Int) : 0 ≤ mn (mx x 0) 512 ∧ mn (mx x 0) 512 ≤ 512 := by
 unfold mn mx
 repeat (first | split | omega)
theorem tear_loop (K : Nat) {N : Nat} {c : Nat → ByteArray} {D : q04} {hs : Held} (h : DRel N D c hs) (keep : List Int) (hh : hs.length ≤ 1000000) (hK : hs.length < K) : ∀ (rs : Held) (k j : Nat) (W : List ByteArray) (cj : Nat → ByteArray), hs.drop j = rs → j ≤ hs.length → rs.length < k → W.length = N →
  (∀ i, i < N → (cj i).size = 512) → (∀ i, i < N → done hs j i → W.getD i NB = cj i) → (∀ i, i < N → ¬ done hs j i → W.getD i NB = NB ∧ cj i = c i) →
  ∃ D', q09.l1 K D keep k (j : Int) W = some D' ∧ DRel N D' (torn cj keep rs j) [] ∧ D'.f6 = false ∧ D'.f4 = false
 | [], k + 1, j, W, cj, hr, hj, hk, hW, h1, h2, h3 => by
  have hj' : j = hs.length := by
   have := congrArg List.length hr
   simp only [List.length_drop, List.length_nil] at this
   omega
  subst hj'
  show ∃ D', q09.b1 K D keep (q09.l1 K D keep k) (hs.length : Int) W = some D' ∧ _
  unfold q09.b1
  rw [if_neg (by rw [h.held, List.length_map]; omega)]
  obtain ⟨S, W', g1, g2, g3, g4, g5⟩ := settle_run K (N := N) (⟨D.f0, W, D.f2, (⟨(), (), D.f3.f2⟩ : q03), D.f4, D.f5, D.f6⟩ : q04) hs h.held (fun x hx => (h.hok x hx).1) hh hK h.l0 hW
  rw [g1]
  refine ⟨_, rfl, ⟨h.n1, h.n2, g2, g3, fun i hi => ?_, fun i hi => ?_, rfl, fun x hx => (by cases hx)⟩, rfl, rfl⟩
  ·show (S.getD i NB = NB ∧ cj i = ZS) ∨ ((S.getD i NB).size = 512 ∧ cj i = S.getD i NB)
   rw [g4 i hi]
   unfold setS
   by_cases hd : done hs hs.length i
   ·have e := h2 i hi hd
    have hs5 := h1 i hi
    rw [if_pos ⟨hd, by show W.getD i NB ≠ NB; rw [e]; exact NB_ne hs5⟩]
    show (W.getD i NB = NB ∧ _) ∨ ((W.getD i NB).size = 512 ∧ cj i = W.getD i NB)
    rw [e]
    exact .inr ⟨hs5, rfl⟩
   ·rw [if_neg (fun hx => hd hx.1), (h3 i hi hd).2]
    exact h.safe i hi
  ·show W'.getD i NB = _
   rw [g5 i hi]
   unfold setN
   by_cases hd : done hs hs.length i
   ·rw [if_pos hd]; rfl
   ·rw [if_neg hd]
    exact (h3 i hi hd).1
 | x :: rs, k + 1, j, W, cj, hr, hj, hk, hW, h1, h2, h3 => by
  have hxj : hs[j]? = some x := by
   have := congrArg (fun l => l[0]?) hr
   simpa using this
  have hjl : j < hs.length := (List.getElem?_eq_some_iff.1 hxj).1
  obtain ⟨hxN, hx5⟩ := h.hok x (List.mem_of_getElem? hxj)
  have hN2 := h.n2
  have hc5 := h1 x.1 hxN
  have one : ∀ n : Nat, n ≤ 512 → (∃ D', q09.l1 K D keep k ((j + 1 : Nat) : Int) (W.set x.1 (x.2.extract 0 n ++ (cj x.1).extract n 512)) = some D' ∧ DRel N D' (torn (q3p cj x n) keep rs (j + 1)) [] ∧ D'.f6 = false ∧ D'.f4 = false) := by
   intro n hn
   have hsz := tearAt_size (c := cj) (h := x) hn hx5 hxN h1
   have hval : q3p cj x n x.1 = x.2.extract 0 n ++ (cj x.1).extract n 512 := by unfold q3p; rw [if_pos rfl]
   refine tear_loop K h keep hh hK rs k (j + 1) _ (q3p cj x n) ?_ (by omega) (by simp at hk; omega) (by rw [List.length_set]; exact hW) hsz (fun i hi hd => ?_) (fun i hi hd => ?_)
   ·have := congrArg (List.drop 1) hr
    rwa [List.drop_drop] at this
   ·rw [q16 (by rw [hW]; exact hxN)]
    by_cases e : x.1 = i
    ·subst e; rw [if_pos rfl, hval]
    ·rw [if_neg e]
     rcases (q2m hxj i).mp hd with e2 | e2
     ·exact absurd e2 e
     ·rw [h2 i hi e2]; unfold q3p; rw [if_neg e]
   ·rw [q16 (by rw [hW]; exact hxN)]
    have e : ¬ x.1 = i := fun e => hd ((q2m hxj i).mpr (.inl e))
    have hd' : ¬ done hs j i := fun hx => hd ((q2m hxj i).mpr (.inr hx))
    rw [if_neg e]
    refine ⟨(h3 i hi hd').1, ?_⟩
    unfold q3p
    rw [if_neg e]
    exact (h3 i hi hd').2
  have jrun : ∀ n : Int, 0 ≤ n → n ≤ 512 → q09.j0 K D (q09.l1 K D keep k) (j : Int) W n = q09.l1 K D keep k ((j + 1 : Nat) : Int) (W.set x.1 (x.2.extract 0 n.toNat ++ (cj x.1).extract n.toNat 512)) := by
   intro n hn0 hn
   unfold q09.j0
   rw [heldAt h.held hxj]
   simp only
   have hsec : q1c.f (⟨D.f0, W, D.f2, (⟨(), (), D.f3.f2⟩ : q03), D.f4, D.f5, D.f6⟩ : q04) (x.1 : Int) = some (cj x.1) := by
    unfold q1c.f
    rw [q0i (by omega), q0i (by show (x.1 : Int) < (W.length : Int); rw [hW]; omega), rdN]
    show (if W.getD x.1 NB = NB then _ else some (W.getD x.1 NB)) = _
    by_cases hd : done hs j x.1
    ·rw [h2 x.1 hxN hd, if_neg (NB_ne hc5)]
    ·rw [if_pos (h3 x.1 hxN hd).1, (h3 x.1 hxN hd).2]
     have := kept_run h x.1 hxN
     unfold q1x.f at this ⊢
     simp only at this ⊢
     rw [this]
     rfl
   rw [q0i hn0, q0i (by rw [hx5]; omega), hsec]
   simp only [Option.bind_some]
   rw [q0i (by rw [hc5]; omega), q0i (by rw [ByteArray.size_extract, ByteArray.size_extract, hx5, hc5]; omega), q0i (by omega), q0i (by rw [hW]; omega), wi (by omega) (by omega), show (j : Int) + 1 = ((j + 1 : Nat) : Int) by omega, hc5]
   rfl
  show ∃ D', q09.b1 K D keep (q09.l1 K D keep k) (j : Int) W = some D' ∧ DRel N D' (torn (q3p cj x (keepN keep j)) keep rs (j + 1)) [] ∧ _
  unfold q09.b1
  rw [if_pos (by rw [h.held, List.length_map]; omega), q0i (by omega)]
  unfold keepN
  by_cases hkl : j < keep.length
  ·rw [if_pos (by omega), if_pos hkl]
   have hm := mnmx (rdL (0 : Int) keep (j : Int))
   rw [jrun _ hm.1 hm.2]
   exact one _ (by omega)
  ·rw [if_neg (by omega), if_neg hkl, jrun 0 (by omega) (by omega)]
   exact one 0 (by omega)
 | _, 0, j, W, cj, hr, hj, hk, hW, h1, h2, h3 => by omega
theorem clear_loop (K : Nat) {N : Nat} {c : Nat → ByteArray} {D : q04} {hs : Held} (h : DRel N D c hs) (keep : List Int) (hh : hs.length ≤ 1000000) : ∀ (r k j : Nat) (W : List ByteArray), j + r = hs.length → r < k → W.length = N → (∀ i, i < N → W.getD i NB = NB ∨ ∃ q, j ≤ q ∧ ∃ x, hs[q]? = some x ∧ x.1 = i) →
  ∃ W', q09.l0 K D keep k (j : Int) W = q09.l1 K D keep K 0 W' ∧ W'.length = N ∧ ∀ i, i < N → W'.getD i NB = NB := by
 intro r
 induction r with
 | zero =>
  intro k j W h1 h2 h3 h4
  obtain ⟨k, rfl⟩ : ∃ q, k = q + 1 := ⟨k - 1, by omega⟩
  refine ⟨W, ?_, h3, fun i hi => ?_⟩
  ·show q09.b0 K D keep (q09.l0 K D keep k) (j : Int) W = _
   unfold q09.b0
   rw [if_neg (by rw [h.held, List.length_map]; omega)]
  ·rcases h4 i hi with e | ⟨q, hq, x, hx, _⟩
   ·exact e
   ·have := (List.getElem?_eq_some_iff.1 hx).1
    omega
 | succ r ih =>
  intro k j W h1 h2 h3 h4
  obtain ⟨k, rfl⟩ : ∃ q, k = q + 1 := ⟨k - 1, by omega⟩
  obtain ⟨x, hj⟩ : ∃ x, hs[j]? = some x := ⟨hs[j]'(by omega), List.getElem?_eq_getElem (by omega)⟩
  obtain ⟨hxN, hx5⟩ := h.hok x (List.mem_of_getElem? hj)
  obtain ⟨W', e1, e2, e3⟩ := ih k (j + 1) (W.set x.1 NB) (by omega) (by omega) (by rw [List.length_set]; exact h3) (fun i hi => by
   rw [q16 (by rw [h3]; exact hxN)]
   by_cases e : x.1 = i
   ·rw [if_pos e]; exact .inl rfl
   ·rw [if_neg e]
    rcases h4 i hi with e2 | ⟨q, hq, y, hy, e2⟩
    ·exact .inl e2
    ·refine .inr ⟨q, ?_, y, hy, e2⟩
     by_cases e3 : q = j
     ·subst e3; rw [hj] at hy; cases hy; exact absurd e2 e
     ·omega)
  refine ⟨W', ?_, e2, e3⟩
  rw [← e1]
  show q09.b0 K D keep (q09.l0 K D keep k) (j : Int) W = _
  unfold q09.b0
  rw [if_pos (by rw [h.held, List.length_map]; omega), q0i (by omega), heldAt h.held hj]
  simp only
  rw [q0i (by omega), q0i (by rw [h3]; omega), wi (by omega) (by omega), show (j : Int) + 1 = ((j + 1 : Nat) : Int) by omega]
  rfl
theorem crash_run (K : Nat) {N : Nat} {c : Nat → ByteArray} {D : q04} {hs : Held} (h : DRel N D c hs) (keep : List Int) (hh : hs.length ≤ 1000000) (hK : hs.length < K) :
  ∃ D', q09.f K D keep = some D' ∧ DRel N D' (torn c keep hs 0) [] ∧ D'.f6 = false ∧ D'.f4 = false := by
 unfold q09.f
 obtain ⟨W, e1, e2, e3⟩ := clear_loop K h keep hh hs.length K 0 D.f1 (by omega) hK h.l1 (fun i hi => by
  rcases q3h hs i h.hsize with ⟨⟨x, hx, e⟩, _⟩ | ⟨_, e⟩
  ·obtain ⟨q, hq⟩ := List.getElem?_of_mem hx
   exact .inr ⟨q, Nat.zero_le _, x, hq, e⟩
  ·exact .inl ((h.now i hi).trans e))
 rw [show (0 : Int) = ((0 : Nat) : Int) from rfl, e1]
 exact tear_loop K h keep hh hK hs K 0 W c rfl (Nat.zero_le _) hK e2 (fun i hi => h.csize hi) (fun i hi ⟨q, hq, _⟩ => by omega) (fun i hi _ => ⟨e3 i hi, rfl⟩)
end Go.Proofs.YtokdiacjcbolfaaDoor.F
namespace Go.Proofs.YtokdiacjcbolfaaDoor.F
open Go Go.RowKit Go.Proofs.YtokdiacjcbolfaaDoor.X
set_option linter.unusedVariables false
set_option linter.unusedSimpArgs false
def shL (i : Nat) : Int := 8 * (i : Int)
def lb (v : Int) (i : Nat) : Int := v / 256 ^ i % 256
def ltB (v : Int) (n : Nat) : List Int := (List.range n).map (lb v)
theorem ltB_length (v : Int) (n : Nat) : (ltB v n).length = n := by simp [ltB]
theorem shiftsL_loop (n : Nat) (hn : n ≤ 8) : ∀ (m K j : Nat), m ≤ n → q0k.l0 K (n : Int) false (m + 1 + j) ((List.range (n - m)).map shL) ((n : Int) - m) = some ((List.range n).map shL) := by
 intro m
 induction m with
 | zero =>
  intro K j h
  rw [show 0 + 1 + j = j + 1 by omega, q0k.l0]
  unfold q0k.b0
  rw [if_neg (by simp)]; rfl
 | succ m ih =>
  intro K j h
  rw [show m + 1 + 1 + j = (m + 1 + j) + 1 by omega, q0k.l0]
  unfold q0k.b0
  have e1 : IntKind.wrap .i64 ((n : Int) - (m + 1 : Nat) + 1) = (n : Int) - m := by rw [wi] <;> omega
  have e2 : IntKind.wrap .i64 (8 * ((n : Int) - (m + 1 : Nat))) = shL (n - (m + 1)) := by
   unfold shL
   simp only [wrapi64]
   omega
  have e3 : (List.range (n - (m + 1))).map shL ++ [shL (n - (m + 1))] = (List.range (n - m)).map shL := by
   rw [show n - m = (n - (m + 1)) + 1 by omega, List.range_succ, List.map_append]; rfl
  rw [if_pos (by omega), if_neg (by simp), q0i (by simp; omega), e1, e2, e3]
  exact ih K j (by omega)
theorem shifts_little (n : Nat) (hn : n ≤ 8) (K : Nat) : q0k.f (K + 9) (n : Int) false = some ((List.range n).map shL) := by
 have h := shiftsL_loop n hn n (K + 9) (K + 8 - n) (Nat.le_refl n)
 rw [show n + 1 + (K + 8 - n) = K + 9 by omega] at h
 unfold q0k.f
 simpa using h
theorem putL_loop (v : Int) (hv : 0 ≤ v) (n : Nat) (hn : n ≤ 8) : ∀ (m K j : Nat), m ≤ n →
  q0g.l0 K v ((List.range n).map shL) (m + 1 + j) ((List.range (n - m)).map (lb v)) ((n : Int) - m) = some (strOfNums (ltB v n)) := by
 intro m
 induction m with
 | zero =>
  intro K j h
  rw [show 0 + 1 + j = j + 1 by omega, q0g.l0]
  unfold q0g.b0
  rw [if_neg (by simp)]; simp [ltB]
 | succ m ih =>
  intro K j h
  have hi : ((n : Int) - (m + 1 : Nat)).toNat = n - (m + 1) := by omega
  have er : rdL (0 : Int) ((List.range n).map shL) ((n : Int) - (m + 1 : Nat)) = 8 * ((n - (m + 1) : Nat) : Int) := by
   unfold rdL
   rw [hi, List.getD_eq_getElem?_getD, List.getElem?_map, List.getElem?_range (by omega)]
   rfl
  have e1 : IntKind.wrap .i64 ((n : Int) - (m + 1 : Nat) + 1) = (n : Int) - m := by rw [wi] <;> omega
  have e2 : IntKind.wrap .u8 (sshr .u64 v (8 * ((n - (m + 1) : Nat) : Int))) = lb v (n - (m + 1)) := by
   rw [wrapu8]
   unfold sshr lb
   have : min (8 * ((n - (m + 1) : Nat) : Int)).toNat IntKind.u64.bits = 8 * (n - (m + 1)) := by simp only [IntKind.bits]; omega
   rw [this, show (2 : Int) ^ (8 * (n - (m + 1))) = 256 ^ (n - (m + 1)) by rw [Int.pow_mul]; rfl, Int.fdiv_eq_ediv_of_nonneg _ (Int.pow_nonneg (by omega))]
  have e3 : (List.range (n - (m + 1))).map (lb v) ++ [lb v (n - (m + 1))] = (List.range (n - m)).map (lb v) := by
   rw [show n - m = (n - (m + 1)) + 1 by omega, List.range_succ, List.map_append]; rfl
  rw [show m + 1 + 1 + j = (m + 1 + j) + 1 by omega, q0g.l0]
  unfold q0g.b0
  rw [if_pos (by simp; omega), q0i (by omega), er, q0i (by omega), q0i (by simp; omega), e1, e2, e3]
  exact ih K j (by omega)
theorem q1b.is (v : Int) (hv : 0 ≤ v) (n K : Nat) (h1 : 1 ≤ n) (hn : n ≤ 8) : q1b.f (K + 9) v (n : Int) = some (strOfNums (ltB v n)) := by
 unfold q1b.f q0g.f
 rw [if_neg (by omega), if_neg (by omega), shifts_little n hn]
 simp only [Option.bind_some]
 have := putL_loop v hv n hn n (K + 9) (K + 8 - n) (Nat.le_refl n)
 rw [show n + 1 + (K + 8 - n) = K + 9 by omega] at this
 simp only [Nat.sub_self, List.range_zero, List.map_nil, Int.sub_self] at this
 rw [this]; rfl
theorem size_ltB (v : Int) (n : Nat) : (strOfNums (ltB v n)).size = n := by rw [strOfNums_size, ltB_length]
end Go.Proofs.YtokdiacjcbolfaaDoor.F
namespace Go.Proofs.YtokdiacjcbolfaaDoor.F
open Go Go.RowKit Go.Proofs.YtokdiacjcbolfaaDoor.X
set_option linter.unusedVariables false
set_option linter.unusedSimpArgs false
def t1 (x : Nat) : Nat := if x % 2 = 1 then (x / 2) ^^^ 2197175160 else x / 2
theorem xor4 (a b c : Nat) : (a ^^^ c) ^^^ (b ^^^ c) = a ^^^ b := by
 apply Nat.eq_of_testBit_eq; intro i; simp only [Nat.testBit_xor]; cases a.testBit i <;> cases b.testBit i <;> cases c.testBit i <;> rfl
theorem xor3 (a b c : Nat) : (a ^^^ c) ^^^ b = (a ^^^ b) ^^^ c := by
 apply Nat.eq_of_testBit_eq; intro i; simp only [Nat.testBit_xor]; cases a.testBit i <;> cases b.testBit i <;> cases c.testBit i <;> rfl
theorem xor_half (a b : Nat) : (a ^^^ b) / 2 = (a / 2) ^^^ (b / 2) := by
 apply Nat.eq_of_testBit_eq; intro i
 simp only [Nat.testBit_xor, ← Nat.testBit_succ]
theorem xor_par (a b : Nat) : (a ^^^ b) % 2 = (a + b) % 2 := by
 have h := Nat.testBit_xor a b 0
 simp only [Nat.testBit_zero] at h
 have key : ∀ n : Nat, decide (n % 2 = 1) = true ∨ n % 2 = 0 := fun n => by rcases Nat.mod_two_eq_zero_or_one n with h | h <;> simp [h]
 rcases Nat.mod_two_eq_zero_or_one a with ha | ha <;> rcases Nat.mod_two_eq_zero_or_one b with hb | hb <;> rcases Nat.mod_two_eq_zero_or_one (a ^^^ b) with hc | hc <;> simp [ha, hb, hc] at h <;> omega
theorem t1_xor (a b : Nat) : t1 (a ^^^ b) = t1 a ^^^ t1 b := by
 unfold t1
 rw [xor_half, xor_par]
 rcases Nat.mod_two_eq_zero_or_one a with ha | ha <;> rcases Nat.mod_two_eq_zero_or_one b with hb | hb
 ·rw [if_neg (by omega), if_neg (by omega), if_neg (by omega)]
 ·rw [if_pos (by omega), if_neg (by omega), if_pos (by omega)]
  apply Nat.eq_of_testBit_eq; intro i; simp only [Nat.testBit_xor]; cases (a / 2).testBit i <;> cases (b / 2).testBit i <;> cases Nat.testBit 2197175160 i <;> rfl
 ·rw [if_pos (by omega), if_pos (by omega), if_neg (by omega), xor3]
 ·rw [if_neg (by omega), if_pos (by omega), if_pos (by omega), xor4]
theorem t1_even (m : Nat) : t1 (2 * m) = m := by unfold t1; rw [if_neg (by omega)]; omega
theorem t1_lt {x : Nat} (h : x < 4294967296) : t1 x < 4294967296 := by
 unfold t1
 split
 ·exact Nat.xor_lt_two_pow (n := 32) (by omega) (by omega)
 ·omega
def t4 (x : Nat) : Nat := t1 (t1 (t1 (t1 x)))
theorem t4_lt {x : Nat} (h : x < 4294967296) : t4 x < 4294967296 := t1_lt (t1_lt (t1_lt (t1_lt h)))
theorem add_xor (q r : Nat) (hr : r < 16) : 16 * q + r = (16 * q) ^^^ r := by
 apply Nat.eq_of_testBit_eq; intro i
 have e1 : (16 * q + r).testBit i = if i < 4 then r.testBit i else q.testBit (i - 4) := Nat.testBit_two_pow_mul_add (i := 4) q hr i
 have e2 : (16 * q).testBit i = (decide (i ≥ 4) && q.testBit (i - 4)) := Nat.testBit_two_pow_mul (i := 4) (a := q) (j := i)
 rw [e1, Nat.testBit_xor, e2]
 by_cases h : i < 4
 ·rw [if_pos h, decide_eq_false (by omega)]; simp
 ·rw [if_neg h, decide_eq_true (by omega), Nat.testBit_lt_two_pow (x := r) (i := i) (Nat.lt_of_lt_of_le hr (by have : 2 ^ 4 ≤ 2 ^ i := Nat.pow_le_pow_right (by omega) (by omega); simpa using this))]
  simp
theorem t4_steps : ∀ r, r < 16 → t4 r = (q0h.getD r 0).toNat := by decide
theorem t4_of (q r : Nat) (hr : r < 16) : t4 (16 * q + r) = q ^^^ (q0h.getD r 0).toNat := by
 rw [← t4_steps r hr, add_xor q r hr]
 unfold t4
 rw [t1_xor, t1_xor, t1_xor, t1_xor, show 16 * q = 2 * (2 * (2 * (2 * q))) by omega, t1_even, t1_even, t1_even, t1_even]
theorem bxor32 (x y : Nat) (hx : x < 4294967296) (hy : y < 4294967296) : bxor .u32 (x : Int) (y : Int) = ((x ^^^ y : Nat) : Int) := by
 have e : bxor .u32 (x : Int) (y : Int) = IntKind.wrap .u32 ((BitVec.ofInt 32 x ^^^ BitVec.ofInt 32 y).toNat) := rfl
 rw [e, BitVec.toNat_xor, BitVec.toNat_ofInt, BitVec.toNat_ofInt, wrapu32]
 have hz : x ^^^ y < 4294967296 := Nat.xor_lt_two_pow (n := 32) hx hy
 have e1 : ((x : Int) % ((2 ^ 32 : Nat) : Int)).toNat = x := by simp only [Nat.reducePow]; omega
 have e2 : ((y : Int) % ((2 ^ 32 : Nat) : Int)).toNat = y := by simp only [Nat.reducePow]; omega
 rw [e1, e2]
 omega
theorem band32 (x : Nat) (hx : x < 4294967296) : band .u32 (x : Int) 15 = ((x % 16 : Nat) : Int) := by
 have e : band .u32 (x : Int) 15 = IntKind.wrap .u32 ((BitVec.ofInt 32 x &&& BitVec.ofInt 32 15).toNat) := rfl
 rw [e, BitVec.toNat_and, BitVec.toNat_ofInt, BitVec.toNat_ofInt, wrapu32]
 have e1 : ((x : Int) % ((2 ^ 32 : Nat) : Int)).toNat = x := by simp only [Nat.reducePow]; omega
 have e2 : ((15 : Int) % ((2 ^ 32 : Nat) : Int)).toNat = 2 ^ 4 - 1 := by decide
 rw [e1, e2, Nat.and_two_pow_sub_one_eq_mod]
 simp only [Nat.reducePow]
 omega
theorem steps_lt (r : Nat) (hr : r < 16) : (q0h.getD r 0) = (((q0h.getD r 0).toNat : Nat) : Int) ∧ (q0h.getD r 0).toNat < 4294967296 := by
 have : ∀ r, r < 16 → (q0h.getD r 0) = (((q0h.getD r 0).toNat : Nat) : Int) ∧ (q0h.getD r 0).toNat < 4294967296 := by decide
 exact this r hr
def bsN (s : ByteArray) : List Nat := s.data.toList.map (·.toNat)
theorem bsN_length (s : ByteArray) : (bsN s).length = s.size := by unfold bsN; rw [List.length_map]; rfl
theorem bsN_lt (s : ByteArray) : ∀ b ∈ bsN s, b < 256 := fun b hb => by
 simp only [bsN, List.mem_map] at hb
 obtain ⟨x, _, rfl⟩ := hb
 exact x.toNat_lt
theorem bt_bsN (s : ByteArray) (i : Nat) : bt s (i : Int) = (((bsN s).getD i 0 : Nat) : Int) := by
 unfold bt bsN
 simp only [Int.toNat_natCast, List.getD_eq_getElem?_getD, List.getElem?_map]
 cases s.data.toList[i]? <;> rfl
def crcS (w b : Nat) : Nat := t4 (t4 (w ^^^ b))
theorem crcS_lt {w b : Nat} (hw : w < 4294967296) (hb : b < 256) : crcS w b < 4294967296 := t4_lt (t4_lt (Nat.xor_lt_two_pow (n := 32) hw (by omega)))
def crcW (w : Nat) (l : List Nat) : Nat := l.foldl crcS w
theorem crcW_lt : ∀ (l : List Nat) (w : Nat), w < 4294967296 → (∀ b ∈ l, b < 256) → crcW w l < 4294967296
 | [], w, hw, _ => hw
 | b :: l, w, hw, h => crcW_lt l (crcS w b) (crcS_lt hw (h b List.mem_cons_self)) fun x hx => h x (List.mem_cons_of_mem _ hx)
def crcN (l : List Nat) : Nat := 4294967295 ^^^ crcW 4294967295 l
theorem crcN_lt (l : List Nat) (h : ∀ b ∈ l, b < 256) : crcN l < 4294967296 := Nat.xor_lt_two_pow (n := 32) (by omega) (crcW_lt l _ (by omega) h)
def dig (s : ByteArray) : ByteArray := strOfNums (ltB ((crcN (bsN s) : Nat) : Int) 4)
theorem q31 (s : ByteArray) : (dig s).size = 4 := size_ltB _ _
theorem drop_cons (l : List Nat) (i : Nat) (h : i < l.length) : l.drop i = l.getD i 0 :: l.drop (i + 1) := by
 rw [List.drop_eq_getElem_cons h, List.getD_eq_getElem?_getD, List.getElem?_eq_getElem h]; rfl
theorem more_loop (s : ByteArray) (hs : (s.size : Int) ≤ 4611686018427387904) (K : Nat) : ∀ (m j i w : Nat), i + m = s.size → w < 4294967296 →
  q1p.l0 K s (m + 1 + j) (w : Int) (i : Int) = some (((4294967295 ^^^ crcW w ((bsN s).drop i) : Nat) : Int)) := by
 intro m
 induction m with
 | zero =>
  intro j i w hi hw
  rw [show 0 + 1 + j = j + 1 by omega, q1p.l0, q1p.b0, if_neg (by omega), List.drop_of_length_le (by rw [bsN_length]; omega)]
  rw [show (4294967295 : Int) = ((4294967295 : Nat) : Int) from rfl, bxor32 _ _ (by omega) hw]
  rfl
 | succ m ih =>
  intro j i w hi hw
  have hil : i < (bsN s).length := by rw [bsN_length]; omega
  have hb : (bsN s).getD i 0 < 256 := by
   rw [List.getD_eq_getElem?_getD, List.getElem?_eq_getElem hil]
   exact bsN_lt s _ (List.getElem_mem hil)
  have e0 : IntKind.wrap .u32 (((bsN s).getD i 0 : Nat) : Int) = (((bsN s).getD i 0 : Nat) : Int) := by rw [wrapu32]; omega
  have hv : w ^^^ (bsN s).getD i 0 < 4294967296 := Nat.xor_lt_two_pow (n := 32) hw (by omega)
  have half : ∀ v : Nat, v < 4294967296 → bxor .u32 ((v : Int).fdiv 16) (rdL (0 : Int) q0h (band .u32 (v : Int) 15)) = ((t4 v : Nat) : Int) := by
   intro v hv
   obtain ⟨h1, h2⟩ := steps_lt (v % 16) (by omega)
   rw [band32 v hv]
   unfold rdL
   rw [Int.toNat_natCast, h1, Int.fdiv_eq_ediv_of_nonneg _ (by omega), show (v : Int) / 16 = ((v / 16 : Nat) : Int) by omega, bxor32 _ _ (by omega) h2]
   rw [← t4_of (v / 16) (v % 16) (by omega), show 16 * (v / 16) + v % 16 = v by omega]
  have r1 : 0 ≤ band .u32 ((w ^^^ (bsN s).getD i 0 : Nat) : Int) 15 ∧ band .u32 ((w ^^^ (bsN s).getD i 0 : Nat) : Int) 15 < 16 := by rw [band32 _ hv]; omega
  have r2 : 0 ≤ band .u32 ((t4 (w ^^^ (bsN s).getD i 0) : Nat) : Int) 15 ∧ band .u32 ((t4 (w ^^^ (bsN s).getD i 0) : Nat) : Int) 15 < 16 := by rw [band32 _ (t4_lt hv)]; omega
  rw [show m + 1 + 1 + j = (m + 1 + j) + 1 by omega, q1p.l0, q1p.b0, if_pos (by omega), q0i (by omega), bt_bsN, e0, bxor32 _ _ hw (by omega), half _ hv, q0i r1.1, q0i r1.2, q0i r2.1, q0i r2.2, half _ (t4_lt hv),
   show IntKind.wrap .i64 ((i : Int) + 1) = ((i + 1 : Nat) : Int) by rw [wi] <;> omega, ih j (i + 1) _ (by omega) (t4_lt (t4_lt hv)), drop_cons _ i hil]
  rfl
theorem q1m.is (s : ByteArray) (hs : (s.size : Int) ≤ 4611686018427387904) (K : Nat) (hK : s.size + 9 ≤ K) : q1m.f K s = some (dig s) := by
 obtain ⟨j, rfl⟩ : ∃ j, K = s.size + 9 + j := ⟨K - (s.size + 9), by omega⟩
 unfold q1m.f crc_Sum.f q1p.f
 have h0 : bxor .u32 4294967295 0 = ((4294967295 : Nat) : Int) := by decide
 have h1 := more_loop s hs (s.size + 9 + j) s.size (8 + j) 0 4294967295 (by omega) (by omega)
 rw [show s.size + 1 + (8 + j) = s.size + 9 + j by omega] at h1
 rw [h0, show (0 : Int) = ((0 : Nat) : Int) from rfl, h1]
 simp only [Option.bind_some, List.drop_zero]
 have h2 := crcN_lt (bsN s) (bsN_lt s)
 have e : IntKind.wrap .u64 (((4294967295 ^^^ crcW 4294967295 (bsN s) : Nat)) : Int) = ((crcN (bsN s) : Nat) : Int) := by rw [wu] <;> unfold crcN at * <;> omega
 rw [e, show s.size + 9 + j = (s.size + j) + 9 by omega, show (4 : Int) = ((4 : Nat) : Int) from rfl, q1b.is _ (by omega) 4 _ (by omega) (by omega)]
 rfl
end Go.Proofs.YtokdiacjcbolfaaDoor.F
namespace Go.Proofs.YtokdiacjcbolfaaDoor.F
open Go Go.RowKit Go.Proofs.YtokdiacjcbolfaaDoor.X
set_option linter.unusedVariables false
set_option linter.unusedSimpArgs false
def shB (n : Nat) (i : Nat) : Int := 8 * ((n : Int) - 1 - i)
theorem shifts_loop (n : Nat) (hn : n ≤ 8) : ∀ (m K : Nat), m ≤ n → q0k.l0 K (n : Int) true (m + 1) ((List.range (n - m)).map (shB n)) ((n : Int) - m) = some ((List.range n).map (shB n)) := by
 intro m
 induction m with
 | zero => intro K h; simp [q0k.l0, q0k.b0]
 | succ m ih =>
  intro K h
  rw [q0k.l0, q0k.b0, if_pos (by omega), if_pos rfl, q0i (by simp; omega)]
  have e1 : IntKind.wrap .i64 ((n : Int) - (m + 1 : Nat) + 1) = (n : Int) - m := by rw [wi] <;> omega
  have e2 : IntKind.wrap .i64 (8 * IntKind.wrap .i64 (IntKind.wrap .i64 ((n : Int) - 1) - ((n : Int) - (m + 1 : Nat)))) = shB n (n - (m + 1)) := by
   unfold shB
   simp only [wrapi64]
   omega
  have e3 : (List.range (n - (m + 1))).map (shB n) ++ [shB n (n - (m + 1))] = (List.range (n - m)).map (shB n) := by
   rw [show n - m = (n - (m + 1)) + 1 by omega, List.range_succ, List.map_append]; rfl
  rw [e1, e2, e3]
  exact ih K (by omega)
theorem shifts_big (n : Nat) (hn : n ≤ 8) (K : Nat) : q0k.f (K + 9) (n : Int) true = some ((List.range n).map (shB n)) := by
 have up : ∀ (m m' : Nat) (xs : List Int) (x : Int) (r : List Int) (K : Nat), q0k.l0 K (n : Int) true m xs x = some r → q0k.l0 K (n : Int) true (m + m') xs x = some r := by
  intro m
  induction m with
  | zero => intro m' xs x r K h; simp [q0k.l0] at h
  | succ m ih =>
   intro m' xs x r K h
   rw [Nat.succ_add, q0k.l0]
   rw [q0k.l0] at h
   unfold q0k.b0 at h ⊢
   split at h
   ·rename_i h1
    rw [if_pos h1]
    rw [if_pos rfl] at h ⊢
    obtain ⟨h2, h3⟩ := q0d h
    rw [q0i h2]
    exact ih _ _ _ _ _ h3
   ·rename_i h1
    rw [if_neg h1]
    exact h
 have := shifts_loop n hn n (K + 9) (Nat.le_refl n)
 have h := up (n + 1) (K + 8 - n) _ _ _ _ this
 rw [show n + 1 + (K + 8 - n) = K + 9 by omega] at h
 unfold q0k.f
 simpa using h
theorem get_loop (s : ByteArray) (p : Int) (n : Nat) (hn : n ≤ 8) (h0 : 0 ≤ p) (h1 : p + n ≤ s.size) (h2 : (s.size : Int) ≤ 4611686018427387904) : ∀ (m K j : Nat), m ≤ n →
  q0o.l0 K s p ((List.range n).map (shB n)) (m + 1 + j) (be s p (n - m) * 256 ^ m) ((n : Int) - m) = some (be s p n, true) := by
 intro m
 induction m with
 | zero => intro K j h; rw [show 0 + 1 + j = j + 1 by omega, q0o.l0, q0o.b0, if_neg (by simp)]; simp
 | succ m ih =>
  intro K j h
  have hi : ((n : Int) - (m + 1 : Nat)).toNat = n - (m + 1) := by omega
  have er : rdL (0 : Int) ((List.range n).map (shB n)) ((n : Int) - (m + 1 : Nat)) = 8 * (m : Int) := by
   unfold rdL
   rw [hi, List.getD_eq_getElem?_getD, List.getElem?_map, List.getElem?_range (by omega)]
   simp only [Option.map_some, Option.getD_some, shB]
   omega
  have ew : IntKind.wrap .i64 (p + ((n : Int) - (m + 1 : Nat))) = p + ((n - (m + 1) : Nat) : Int) := by rw [wi] <;> omega
  rw [show m + 1 + 1 + j = (m + 1 + j) + 1 by omega, q0o.l0, q0o.b0, if_pos (by simp; omega), q0i (by omega), ew, q0i (by omega), q0i (by omega), er, q0i (by omega)]
  have e1 : IntKind.wrap .i64 ((n : Int) - (m + 1 : Nat) + 1) = (n : Int) - m := by rw [wi] <;> omega
  have hb0 := bt_lo s (p + ((n - (m + 1) : Nat) : Int)); have hb1 := bt_hi s (p + ((n - (m + 1) : Nat) : Int))
  have hx0 := be_lo s p (n - (m + 1)); have hx1 := be_hi s p (n - (m + 1))
  have eb : be s p (n - m) = be s p (n - (m + 1)) * 256 + bt s (p + ((n - (m + 1) : Nat) : Int)) := by
   rw [show n - m = (n - (m + 1)) + 1 by omega, be]
  have e2 : bor .u64 (be s p (n - (m + 1)) * 256 ^ (m + 1)) (sshl .u64 (IntKind.wrap .u64 (bt s (p + ((n - (m + 1) : Nat) : Int)))) (8 * (m : Int))) = be s p (n - m) * 256 ^ m := by
   rw [eb]
   generalize bt s (p + ((n - (m + 1) : Nat) : Int)) = b at hb0 hb1
   generalize be s p (n - (m + 1)) = A at hx0 hx1
   obtain ⟨b, rfl⟩ := Int.eq_ofNat_of_zero_le hb0
   obtain ⟨A, rfl⟩ := Int.eq_ofNat_of_zero_le hx0
   have hA : A * 256 ^ (m + 1) + 256 ^ (m + 1) ≤ 18446744073709551616 := by
    have hA1 : A < 256 ^ (n - (m + 1)) := by rw [← c256] at hx1; exact Int.ofNat_lt.1 hx1
    have : (A + 1) * 256 ^ (m + 1) ≤ 256 ^ (n - (m + 1)) * 256 ^ (m + 1) := Nat.mul_le_mul_right _ hA1
    rw [← Nat.pow_add, show n - (m + 1) + (m + 1) = n by omega] at this
    have h8 : 256 ^ n ≤ 256 ^ 8 := Nat.pow_le_pow_right (by omega) hn
    rw [Nat.add_mul] at this
    omega
   have hB : b * 256 ^ m < 256 ^ (m + 1) := by
    rw [Nat.pow_succ, Nat.mul_comm (256 ^ m) 256]
    exact Nat.mul_lt_mul_of_pos_right (by omega) (Nat.pow_pos (by omega))
   have es : sshl .u64 (IntKind.wrap .u64 (b : Int)) (8 * (m : Int)) = ((b * 256 ^ m : Nat) : Int) := by
    rw [wu (by omega) (by omega)]
    unfold sshl
    have : min (8 * (m : Int)).toNat IntKind.u64.bits = 8 * m := by simp only [IntKind.bits]; omega
    rw [this, wrapu64]
    have e256 : (2 : Int) ^ (8 * m) = ((256 ^ m : Nat) : Int) := by rw [c256, Int.pow_mul]; rfl
    rw [e256]
    have : ((b : Int) * ((256 ^ m : Nat) : Int)) = ((b * 256 ^ m : Nat) : Int) := by rw [Int.natCast_mul]
    rw [this]
    omega
   rw [es]
   have c1 : (A : Int) * 256 ^ (m + 1) = ((A * 256 ^ (m + 1) : Nat) : Int) := by rw [Int.natCast_mul, c256]
   rw [c1, bits_or _ _ (by have : 0 < 256 ^ (m + 1) := Nat.pow_pos (by omega); omega) (by omega), or_up A b m (by omega), Int.natCast_mul, c256]
   rfl
  rw [e1, e2]
  exact ih K j (by omega)
theorem q15.is (s : ByteArray) (p : Int) (n K : Nat) (h1 : 1 ≤ n) (hn : n ≤ 8) (h2 : (s.size : Int) ≤ 4611686018427387904) :
  q15.f (K + 9) s p (n : Int) = some (if 0 ≤ p ∧ p + n ≤ s.size then (be s p n, true) else (0, false)) := by
 unfold q15.f q0o.f
 rw [if_neg (by omega), if_neg (by omega)]
 have ew : IntKind.wrap .i64 ((s.size : Int) - n) = (s.size : Int) - n := by rw [wi] <;> omega
 rw [ew]
 by_cases hp : 0 ≤ p ∧ p + n ≤ s.size
 ·rw [if_neg (by omega), if_neg (by omega), if_pos hp, shifts_big n hn]
  simp only [Option.bind_some]
  have := get_loop s p n hn hp.1 hp.2 h2 n (K + 9) (K + 8 - n) (Nat.le_refl n)
  rw [show n + 1 + (K + 8 - n) = K + 9 by omega] at this
  simp only [Nat.sub_self, be, Int.zero_mul, Int.sub_self] at this
  rw [this]; rfl
 ·rw [if_neg hp]
  by_cases h : p < 0
  ·rw [if_pos h]; rfl
  ·rw [if_neg h, if_pos (by omega)]; rfl
end Go.Proofs.YtokdiacjcbolfaaDoor.F
namespace Go.Proofs.YtokdiacjcbolfaaDoor.F
open Go Go.RowKit Go.Proofs.YtokdiacjcbolfaaDoor.X
set_option linter.unusedVariables false
set_option linter.unusedSimpArgs false
def byteOf (v : Int) (n i : Nat) : Int := v / 256 ^ (n - 1 - i) % 256
def beB (v : Int) (n : Nat) : List Int := (List.range n).map (byteOf v n)
theorem beB_length (v : Int) (n : Nat) : (beB v n).length = n := by simp [beB]
theorem beB_get (v : Int) (n i : Nat) (h : i < n) : (beB v n)[i]? = some (byteOf v n i) := by simp [beB, List.getElem?_range h]
theorem put_loop (v : Int) (hv : 0 ≤ v) (n : Nat) (hn : n ≤ 8) : ∀ (m K j : Nat), m ≤ n →
  q0g.l0 K v ((List.range n).map (shB n)) (m + 1 + j) ((List.range (n - m)).map (byteOf v n)) ((n : Int) - m) = some (strOfNums (beB v n)) := by
 intro m
 induction m with
 | zero => intro K j h; rw [show 0 + 1 + j = j + 1 by omega, q0g.l0, q0g.b0, if_neg (by simp)]; simp [beB]
 | succ m ih =>
  intro K j h
  have hi : ((n : Int) - (m + 1 : Nat)).toNat = n - (m + 1) := by omega
  have er : rdL (0 : Int) ((List.range n).map (shB n)) ((n : Int) - (m + 1 : Nat)) = 8 * (m : Int) := by
   unfold rdL
   rw [hi, List.getD_eq_getElem?_getD, List.getElem?_map, List.getElem?_range (by omega)]
   simp only [Option.map_some, Option.getD_some, shB]
   omega
  have e1 : IntKind.wrap .i64 ((n : Int) - (m + 1 : Nat) + 1) = (n : Int) - m := by rw [wi] <;> omega
  have e2 : IntKind.wrap .u8 (sshr .u64 v (8 * (m : Int))) = byteOf v n (n - (m + 1)) := by
   rw [wrapu8]
   unfold sshr byteOf
   have : min (8 * (m : Int)).toNat IntKind.u64.bits = 8 * m := by simp only [IntKind.bits]; omega
   rw [this, show n - 1 - (n - (m + 1)) = m by omega, show (2 : Int) ^ (8 * m) = 256 ^ m by rw [Int.pow_mul]; rfl, Int.fdiv_eq_ediv_of_nonneg _ (Int.pow_nonneg (by omega))]
  have e3 : (List.range (n - (m + 1))).map (byteOf v n) ++ [byteOf v n (n - (m + 1))] = (List.range (n - m)).map (byteOf v n) := by
   rw [show n - m = (n - (m + 1)) + 1 by omega, List.range_succ, List.map_append]; rfl
  rw [show m + 1 + 1 + j = (m + 1 + j) + 1 by omega, q0g.l0, q0g.b0, if_pos (by simp; omega), q0i (by omega), er, q0i (by omega), q0i (by simp; omega), e1, e2, e3]
  exact ih K j (by omega)
theorem q0u.is (v : Int) (hv : 0 ≤ v) (n K : Nat) (h1 : 1 ≤ n) (hn : n ≤ 8) : q0u.f (K + 9) v (n : Int) = some (strOfNums (beB v n)) := by
 unfold q0u.f q0g.f
 rw [if_neg (by omega), if_neg (by omega), shifts_big n hn]
 simp only [Option.bind_some]
 have := put_loop v hv n hn n (K + 9) (K + 8 - n) (Nat.le_refl n)
 rw [show n + 1 + (K + 8 - n) = K + 9 by omega] at this
 simp only [Nat.sub_self, List.range_zero, List.map_nil, Int.sub_self] at this
 rw [this]; rfl
theorem bt_nums (xs : List Int) (h : ∀ x ∈ xs, 0 ≤ x ∧ x ≤ 255) (i : Int) : bt (strOfNums xs) i = xs.getD i.toNat 0 := by
 unfold bt
 rw [strOfNums_data, List.getD_eq_getElem?_getD, List.getD_eq_getElem?_getD, List.getElem?_map]
 cases e : xs[i.toNat]? with
 | none => rfl
 | some x =>
  have := h x (List.mem_of_getElem? e)
  simp only [Option.map_some, Option.getD_some, UInt8.toNat_ofNat']
  omega
theorem q3w (s t : ByteArray) (p q : Int) : ∀ (n : Nat), (∀ i : Nat, i < n → bt s (p + i) = bt t (q + i)) → be s p n = be t q n
 | 0, _ => rfl
 | n + 1, h => by rw [be, be, q3w s t p q n (fun i hi => h i (by omega)), h n (by omega)]
theorem be_left (s t : ByteArray) (p : Int) (n : Nat) (h0 : 0 ≤ p) (h : p + n ≤ s.size) : be (s ++ t) p n = be s p n :=
 q3w _ _ _ _ n fun i hi => bt_left s t _ (by omega)
theorem q3v (s t : ByteArray) (p : Int) (n : Nat) (h : (s.size : Int) ≤ p) : be (s ++ t) p n = be t (p - s.size) n :=
 q3w _ _ _ _ n fun i hi => by rw [bt_right s t _ (by omega)]; congr 1; omega
theorem byteOf_range (v : Int) (n i : Nat) : 0 ≤ byteOf v n i ∧ byteOf v n i ≤ 255 := by unfold byteOf; omega
theorem beB_range (v : Int) (n : Nat) : ∀ x ∈ beB v n, 0 ≤ x ∧ x ≤ 255 := by
 intro x hx
 obtain ⟨i, _, rfl⟩ := List.mem_map.1 hx
 exact byteOf_range v n i
theorem bt_beB (v : Int) (n : Nat) (i : Int) (h0 : 0 ≤ i) (h : i < n) : bt (strOfNums (beB v n)) i = byteOf v n i.toNat := by
 rw [bt_nums _ (beB_range v n), List.getD_eq_getElem?_getD, beB_get v n _ (by omega)]; rfl
theorem q19 (v : Int) (n : Nat) : (strOfNums (beB v n)).size = n := by rw [strOfNums_size, beB_length]
theorem be_beB (v : Int) (n : Nat) (hv : 0 ≤ v) : ∀ k : Nat, k ≤ n → be (strOfNums (beB v n)) 0 k = v / 256 ^ (n - k) % 256 ^ k
 | 0, _ => by simp [be, Int.emod_one]
 | k + 1, h => by
  rw [be, be_beB v n hv k (by omega), bt_beB v n _ (by omega) (by omega)]
  have e : (0 + (k : Int)).toNat = k := by omega
  rw [e]
  unfold byteOf
  have e1 : n - 1 - k = n - (k + 1) := by omega
  have e2 : v / 256 ^ (n - k) = v / 256 ^ (n - (k + 1)) / 256 := by
   rw [Int.ediv_ediv_of_nonneg (Int.pow_nonneg (by omega)), ← Int.pow_succ, show (n - (k + 1)).succ = n - k by omega]
  rw [e1, e2]
  have hq : 0 ≤ v / 256 ^ (n - (k + 1)) := Int.ediv_nonneg hv (Int.pow_nonneg (by omega))
  generalize v / 256 ^ (n - (k + 1)) = w at hq
  obtain ⟨w, rfl⟩ := Int.eq_ofNat_of_zero_le hq
  have := Nat.mod_mul (a := 256) (b := 256 ^ k) (x := w)
  rw [Nat.mul_comm 256 (256 ^ k), ← Nat.pow_succ] at this
  have c : ((w % 256 ^ (k + 1) : Nat) : Int) = (w : Int) % 256 ^ (k + 1) := by rw [Int.natCast_emod, c256]
  have c2 : ((w / 256 % 256 ^ k : Nat) : Int) = (w : Int) / 256 % 256 ^ k := by rw [Int.natCast_emod, c256]; rfl
  rw [← c, this, ← c2]
  omega
theorem be_put (v : Int) (n : Nat) (hv : 0 ≤ v) (h : v < 256 ^ n) : be (strOfNums (beB v n)) 0 n = v := by
 rw [be_beB v n hv n (Nat.le_refl n), Nat.sub_self, Int.pow_zero, Int.ediv_one, Int.emod_eq_of_lt hv h]
end Go.Proofs.YtokdiacjcbolfaaDoor.F
namespace Go.Proofs.YtokdiacjcbolfaaDoor.F
open Go Go.RowKit Go.Proofs.YtokdiacjcbolfaaDoor.X
set_option linter.unusedVariables false
set_option linter.unusedSimpArgs false
def hgfr : ByteArray := ⟨#[72, 71, 70, 82]⟩
def sec (n : Nat) : Nat := (n + 535) / 512
def hd05 (n : Int) (k : Nat) : ByteArray := (hgfr ++ strOfNums (beB n 8)) ++ strOfNums (beB (k : Int) 4)
def pad512 (s : ByteArray) : ByteArray := if s.size % 512 = 0 then s else s ++ strOfNums (List.replicate (512 - s.size % 512) 0)
def putB (n : Int) (t : ByteArray) : ByteArray := pad512 (((hd05 n t.size ++ dig (hd05 n t.size)) ++ t) ++ dig t)
theorem q3b : hgfr.size = 4 := rfl
theorem hd05_size (n : Int) (k : Nat) : (hd05 n k).size = 16 := by
 unfold hd05
 rw [ByteArray.size_append, ByteArray.size_append, q19, q19, q3b]
theorem body_size (n : Int) (t : ByteArray) : (((hd05 n t.size ++ dig (hd05 n t.size)) ++ t) ++ dig t).size = t.size + 24 := by
 rw [ByteArray.size_append, ByteArray.size_append, ByteArray.size_append, hd05_size, q31, q31]; omega
theorem pad512_size (s : ByteArray) : (pad512 s).size = (s.size + 511) / 512 * 512 := by
 unfold pad512
 split
 ·omega
 ·rw [ByteArray.size_append, strOfNums_size, List.length_replicate]; omega
theorem q2p (n : Int) (t : ByteArray) : (putB n t).size = sec t.size * 512 := by
 unfold putB sec; rw [pad512_size, body_size]
theorem q0x.is (a : Int) (h1 : -9223372036854775808 ≤ a) (h2 : a ≤ 9223372036854775807) : q0x.f a = some (if 0 ≤ a ∧ a ≤ 65536 then ((sec a.toNat : Nat) : Int) else 0) := by
 unfold q0x.f
 by_cases h : a < 0
 ·rw [if_pos h, if_neg (by omega)]
 rw [if_neg h]
 by_cases h' : a > 65536
 ·rw [if_pos h', if_neg (by omega)]
 rw [if_neg h', if_pos (by omega), wi (n := a + 24) (by omega) (by omega), wi (n := a + 24 + 512) (by omega) (by omega), wi (n := a + 24 + 512 - 1) (by omega) (by omega), Int.tdiv_eq_ediv_of_nonneg (by omega), wi (by omega) (by omega)]
 unfold sec
 congr 1
 omega
theorem q0x.isN (m : Nat) (h : m ≤ 65536) : q0x.f (m : Int) = some ((sec m : Nat) : Int) := by
 rw [q0x.is _ (by omega) (by omega), if_pos (by omega), Int.toNat_natCast]
theorem q2b.is (s : ByteArray) (hs : (s.size : Int) ≤ 4611686018427387904) : q2b.f s 512 = some (pad512 s) := by
 unfold q2b.f pad512
 rw [if_neg (by omega), if_neg (by omega), q0i (by omega), Int.tmod_eq_emod_of_nonneg (by omega)]
 by_cases h : s.size % 512 = 0
 ·rw [if_pos (by omega), if_pos h]
 ·rw [if_neg (by omega), if_neg h, wi (by omega) (by omega), q0i (by omega), q0i (by omega), q0i (by rw [strOfNums_size, List.length_replicate]; omega), show (512 - (s.size : Int) % 512).toNat = 512 - s.size % 512 by omega]
theorem q2a.is (n : Int) (h0 : 0 ≤ n) (h1 : n ≤ 18446744073709551615) (t : ByteArray) (ht : t.size ≤ 70000) (K : Nat) (hK : t.size + 40 ≤ K) : q2a.f K n t = some (if t.size > 65536 then (⟨#[]⟩, 2) else (putB n t, 0)) := by
 unfold q2a.f
 by_cases h : t.size > 65536
 ·rw [if_pos (by omega), if_pos h]
 obtain ⟨K', rfl⟩ : ∃ K', K = K' + 9 := ⟨K - 9, by omega⟩
 have ew : IntKind.wrap .u64 (t.size : Int) = (t.size : Int) := by rw [wu] <;> omega
 have e8 : q0u.f (K' + 9) n 8 = some (strOfNums (beB n 8)) := q0u.is n h0 8 K' (by omega) (by omega)
 have e4 : q0u.f (K' + 9) (t.size : Int) 4 = some (strOfNums (beB (t.size : Int) 4)) := q0u.is _ (by omega) 4 K' (by omega) (by omega)
 have hh := hd05_size n t.size
 have hb := body_size n t
 unfold hd05 at hh hb
 unfold hgfr at hh hb
 rw [if_neg (by omega), if_neg h, e8, Option.bind_some, q0i (by rw [q19]; omega), ew, e4, Option.bind_some, q0i (by rw [← ByteArray.size_append, hh]; omega), q1m.is _ (by rw [hh]; omega) _ (by rw [hh]; omega), Option.bind_some, q0i (by rw [hh, q31]; omega),
  q0i (by rw [ByteArray.size_append, hh, q31]; omega), q1m.is t (by omega) _ (by omega), Option.bind_some, q0i (by rw [← ByteArray.size_append, hb]; omega), q2b.is _ (by rw [hb]; omega), Option.bind_some]
 rfl
theorem prefix4 (s : ByteArray) (hs : 20 ≤ s.size) : Lib.hasPrefix s.data.toList hgfr.data.toList = decide (s.extract 0 4 = hgfr) := by
 rw [← Lib.hasPrefix_raw, q3b, decide_eq_true (by omega), Bool.true_and]
 by_cases h : s.extract 0 4 = hgfr
 ·rw [decide_eq_true h, h]; simp
 ·rw [decide_eq_false h]; exact q23 h
theorem dropWhile_nil {l : List UInt8} {c : UInt8} : l.dropWhile (· == c) = [] ↔ ∀ x ∈ l, x = c := by
 induction l with
 | nil => simp
 | cons x l ih =>
  rw [List.dropWhile_cons]
  by_cases h : x = c
  ·rw [if_pos (by simp [h]), ih]; simp [h]
  ·rw [if_neg (by simp [h])]; simp [h]
theorem trimB_nil (l : List UInt8) (c : UInt8) : Lib.trimB l c = [] ↔ ∀ x ∈ l, x = c := by
 unfold Lib.trimB Lib.trimLeftB Lib.trimRightB
 rw [dropWhile_nil]
 constructor
 ·intro h
  have h2 : l.reverse.dropWhile (· == c) = [] := by
   cases hd : l.reverse.dropWhile (· == c) with
   | nil => rfl
   | cons x r =>
    exfalso
    have hx : x = c := h x (by rw [hd]; simp)
    have := List.head?_dropWhile_not (fun x => x == c) l.reverse
    rw [hd] at this
    simp [hx] at this
  intro x hx
  exact (dropWhile_nil.mp h2) x (by simpa using hx)
 ·intro h x hx
  exact h x (by
   have := (List.dropWhile_sublist (fun x => x == c) (l := l.reverse)).subset (by simpa using hx)
   simpa using this)
def zeros05 (s : ByteArray) (p q : Nat) : Prop := ∀ i, p ≤ i → i < q → bt s (i : Int) = 0
noncomputable instance (s : ByteArray) (p q : Nat) : Decidable (zeros05 s p q) := Classical.propDecidable _
theorem bt_data (s : ByteArray) (i : Nat) (h : i < s.size) : bt s (i : Int) = ((s.data.toList[i]'(by rw [Array.length_toList]; exact h)).toNat : Int) := by
 unfold bt
 rw [Int.toNat_natCast, List.getD_eq_getElem?_getD, List.getElem?_eq_getElem (by rw [Array.length_toList]; exact h)]
 rfl
theorem trim05 (s : ByteArray) (p q : Nat) (hp : p ≤ q) (hq : q ≤ s.size) : (⟨(Lib.trimB (s.extract p q).data.toList 0).toArray⟩ : ByteArray) = ⟨#[]⟩ ↔ zeros05 s p q := by
 have e : (⟨(Lib.trimB (s.extract p q).data.toList 0).toArray⟩ : ByteArray) = ⟨#[]⟩ ↔ Lib.trimB (s.extract p q).data.toList 0 = [] := by
  constructor
  ·intro h; injection h with h; simpa using h
  ·intro h; rw [h]
 rw [e, trimB_nil]
 have hsz := q1f s p q hp hq
 constructor
 ·intro h i hi1 hi2
  have h1 := q2c s p q ((i - p : Nat) : Int) (by omega) (by omega) hq
  rw [show (p : Int) + ((i - p : Nat) : Int) = (i : Int) by omega] at h1
  rw [← h1, bt_data _ _ (by omega), h _ (List.getElem_mem _)]
  rfl
 ·intro h x hx
  obtain ⟨i, hi, rfl⟩ := List.getElem_of_mem hx
  have hi' : i < (s.extract p q).size := by rw [Array.length_toList] at hi; exact hi
  have h1 := q2c s p q (i : Int) (by omega) (by omega) hq
  rw [bt_data _ _ hi', show (p : Int) + (i : Int) = ((p + i : Nat) : Int) by omega, h (p + i) (by omega) (by omega)] at h1
  exact UInt8.toNat_inj.mp (by simpa using h1)
noncomputable def getB (s : ByteArray) : Except Int (Int × ByteArray × Int) :=
 if s.size < 20 then .error 50 else
 if s.extract 0 4 = hgfr then
  if s.extract 16 20 = dig (s.extract 0 16) then
   if be s 12 4 ≤ 65536 ∧ sec (be s 12 4).toNat * 512 ≤ s.size then
    if s.extract (20 + (be s 12 4).toNat) (24 + (be s 12 4).toNat) = dig (s.extract 20 (20 + (be s 12 4).toNat)) then
     if zeros05 s (24 + (be s 12 4).toNat) (sec (be s 12 4).toNat * 512) then .ok (be s 4 8, s.extract 20 (20 + (be s 12 4).toNat), ((sec (be s 12 4).toNat * 512 : Nat) : Int)) else .error 50
    else .error 51
   else .error 50
  else .error 51
 else .error 50
theorem q1t.is (s d : ByteArray) (hs : (s.size : Int) ≤ 4611686018427387904) (K : Nat) (hK : s.size + 9 ≤ K) : q1t.f K s d = some (decide (d = dig s)) := by
 unfold q1t.f
 rw [q1m.is s hs K hK, Option.bind_some]
 by_cases h : d = dig s
 ·rw [decide_eq_true h, q29 h]
 ·rw [decide_eq_false h, q23 h]
theorem q2j.is (s : ByteArray) (hs : s.size ≤ 200000) (K : Nat) (hK : s.size + 40 ≤ K) : q2j.f K s = some (getB s) := by
 unfold q2j.f getB
 by_cases h : s.size < 20
 ·rw [if_neg (by omega), if_pos h]
 have hpre : q18.f s (⟨#[72, 71, 70, 82]⟩ : ByteArray) = some (decide (s.extract 0 4 = hgfr)) := by
  unfold q18.f
  rw [← prefix4 s (by omega)]; rfl
 rw [if_pos (by omega), if_neg h, hpre, Option.bind_some]
 by_cases h4 : s.extract 0 4 = hgfr
 rotate_left
 ·rw [if_neg (by simp [h4]), if_neg h4]
 rw [if_pos (by simp [h4]), if_pos h4, q0i (by omega), q0i (by omega)]
 have e16 : (16 : Int).toNat = 16 := rfl
 have e20 : (20 : Int).toNat = 20 := rfl
 rw [e16, e20, q1t.is _ _ (by rw [q1f s 0 16 (by omega) (by omega)]; omega) _ (by rw [q1f s 0 16 (by omega) (by omega)]; omega), Option.bind_some]
 by_cases h5 : s.extract 16 20 = dig (s.extract 0 16)
 rotate_left
 ·rw [if_neg (by simp [h5]), if_neg h5]
 rw [if_pos (by simp [h5]), if_pos h5]
 obtain ⟨K', rfl⟩ : ∃ K', K = K' + 9 := ⟨K - 9, by omega⟩
 have b8 : q15.f (K' + 9) s 4 8 = some (be s 4 8, true) := by
  have := q15.is s 4 8 K' (by omega) (by omega) (by omega)
  rw [if_pos (by omega)] at this; exact this
 have b4 : q15.f (K' + 9) s 12 4 = some (be s 12 4, true) := by
  have := q15.is s 12 4 K' (by omega) (by omega) (by omega)
  rw [if_pos (by omega)] at this; exact this
 rw [b8, Option.bind_some, b4, Option.bind_some]
 have l0 := be_lo s 12 4
 have l1 := be_hi s 12 4
 generalize be s 12 4 = l at *
 simp only
 by_cases h6 : l ≤ 65536
 rotate_left
 ·rw [if_neg h6, if_neg (by omega)]
 obtain ⟨m, rfl⟩ := Int.eq_ofNat_of_zero_le l0
 rw [if_pos h6, wi (n := (m : Int)) (by omega) (by omega), q0x.isN m (by omega), Option.bind_some, Int.toNat_natCast]
 have hsec : sec m = (m + 535) / 512 := rfl
 have e1 : IntKind.wrap .i64 (((sec m : Nat) : Int) * 512) = ((sec m * 512 : Nat) : Int) := by rw [wi] <;> omega
 rw [e1]
 by_cases h7 : sec m * 512 ≤ s.size
 rotate_left
 ·rw [if_neg (by omega), if_neg (by omega)]
 have e2 : IntKind.wrap .i64 (20 + (m : Int)) = ((20 + m : Nat) : Int) := by rw [wi] <;> omega
 have e3 : IntKind.wrap .i64 (((20 + m : Nat) : Int) + 4) = ((24 + m : Nat) : Int) := by rw [wi] <;> omega
 rw [if_pos (by omega), if_pos ⟨h6, h7⟩, e2, e3, q0i (by omega), q0i (by omega), q0i (by omega), q0i (by omega), q0i (by omega), Int.toNat_natCast, Int.toNat_natCast, Int.toNat_natCast,
  q1t.is _ _ (by rw [q1f s 20 (20 + m) (by omega) (by omega)]; omega) _ (by rw [q1f s 20 (20 + m) (by omega) (by omega)]; omega), Option.bind_some]
 by_cases h8 : s.extract (20 + m) (24 + m) = dig (s.extract 20 (20 + m))
 rotate_left
 ·rw [if_neg (by simp [h8]), if_neg h8]
 rw [if_pos (by simp [h8]), if_pos h8, q0i (by omega), q0i (by omega)]
 have ht : q25.f (s.extract (24 + m) (sec m * 512)) (⟨#[0]⟩ : ByteArray) = some ⟨(Lib.trimB (s.extract (24 + m) (sec m * 512)).data.toList 0).toArray⟩ := by
  unfold q25.f
  rw [q0i rfl, q0i (by rw [q1f s _ _ (by omega) (by omega)]; omega)]
 rw [ht, Option.bind_some]
 by_cases h9 : zeros05 s (24 + m) (sec m * 512)
 ·rw [if_pos ((trim05 s _ _ (by omega) h7).mpr h9), if_pos h9]
 ·rw [if_neg (fun q => h9 ((trim05 s _ _ (by omega) h7).mp q)), if_neg h9]
noncomputable def outB (s : ByteArray) : Int × ByteArray × Int × Int := match getB s with
 | .ok x => (x.1, x.2.1, x.2.2, 0)
 | .error k => (0, ⟨#[]⟩, 0, k)
theorem q2k.is (s : ByteArray) (hs : s.size ≤ 200000) (K : Nat) (hK : s.size + 40 ≤ K) : q2k.f K s = some (outB s) := by
 unfold q2k.f outB
 rw [q2j.is s hs K hK, Option.bind_some]
 cases getB s <;> rfl
end Go.Proofs.YtokdiacjcbolfaaDoor.F
namespace Go.Proofs.YtokdiacjcbolfaaDoor.F
open Go Go.RowKit Go.Proofs.YtokdiacjcbolfaaDoor.X
set_option linter.unusedVariables false
set_option linter.unusedSimpArgs false
theorem nil_app (a : ByteArray) : (⟨#[]⟩ : ByteArray) ++ a = a := by show ByteArray.empty ++ a = a; simp
theorem app_nil (a : ByteArray) : a ++ (⟨#[]⟩ : ByteArray) = a := by show a ++ ByteArray.empty = a; simp
theorem app_nums (a b c : ByteArray) : (a ++ b) ++ c = strOfNums ((numsOf a ++ numsOf b) ++ numsOf c) := by
 rw [← nums_append, ← nums_append, q27, q27, q27]
theorem ext_mid (a b c : ByteArray) (p q : Nat) (hp : p = a.size) (hq : q = a.size + b.size) : ((a ++ b) ++ c).extract p q = b := by
 subst hp hq
 rw [app_nums, nums_extract, List.take_append_of_le_length (by simp [q1v]), List.take_of_length_le (by simp [q1v]), ← q1v a, List.drop_left, q27]
theorem ext_first (a c : ByteArray) (q : Nat) (hq : q = a.size) : (a ++ c).extract 0 q = a := by
 have := ext_mid ⟨#[]⟩ a c 0 q rfl (by rw [hq, size0 _ |>.mp rfl]; omega)
 rwa [nil_app] at this
theorem ext_last (a b : ByteArray) (p q : Nat) (hp : p = a.size) (hq : q = a.size + b.size) : (a ++ b).extract p q = b := by
 have := ext_mid a b ⟨#[]⟩ p q hp hq
 rwa [app_nil] at this
theorem pad512_eq (s : ByteArray) : pad512 s = s ++ strOfNums (List.replicate ((512 - s.size % 512) % 512) 0) := by
 unfold pad512
 split
 ·rename_i h
  rw [h]
  show s = s ++ strOfNums []
  rw [← empty_nums, app_nil]
 ·rename_i h
  rw [Nat.mod_eq_of_lt (a := 512 - s.size % 512) (by omega)]
theorem hd05_be8 (n : Int) (k : Nat) (h0 : 0 ≤ n) (h1 : n ≤ 18446744073709551615) (X : ByteArray) : be (hd05 n k ++ X) 4 8 = n := by
 have hs := hd05_size n k
 rw [be_left _ _ _ _ (by omega) (by omega)]
 unfold hd05
 have s8 := q19 n 8
 rw [be_left _ _ _ _ (by omega) (by rw [ByteArray.size_append, s8, q3b]; omega), q3v _ _ _ _ (by rw [q3b]; omega), q3b]
 exact be_put n 8 h0 (by omega)
theorem hd05_be4 (n : Int) (k : Nat) (hk : k ≤ 65536) (X : ByteArray) : be (hd05 n k ++ X) 12 4 = (k : Int) := by
 have hs := hd05_size n k
 rw [be_left _ _ _ _ (by omega) (by omega)]
 unfold hd05
 have s8 := q19 n 8
 rw [q3v _ _ _ _ (by rw [ByteArray.size_append, s8, q3b]; omega), ByteArray.size_append, s8, q3b]
 exact be_put (k : Int) 4 (by omega) (by omega)
theorem getB_put (n : Int) (h0 : 0 ≤ n) (h1 : n ≤ 18446744073709551615) (t : ByteArray) (ht : t.size ≤ 65536) (X : ByteArray) : getB (putB n t ++ X) = .ok (n, t, ((putB n t).size : Int)) := by
 have hsz := q2p n t
 have hb := body_size n t
 have hh := hd05_size n t.size
 have hsec : sec t.size = (t.size + 535) / 512 := rfl
 obtain ⟨z, hz, hzs⟩ : ∃ z, putB n t = (((hd05 n t.size ++ dig (hd05 n t.size)) ++ t) ++ dig t) ++ z ∧ z = strOfNums (List.replicate (sec t.size * 512 - (t.size + 24)) 0) := by
  refine ⟨_, pad512_eq _, ?_⟩
  rw [hb]
  congr 2
  omega
 have hzz : z.size = sec t.size * 512 - (t.size + 24) := by rw [hzs, strOfNums_size, List.length_replicate]
 have e1 : putB n t ++ X = hd05 n t.size ++ (dig (hd05 n t.size) ++ (t ++ (dig t ++ (z ++ X)))) := by rw [hz]; simp only [ByteArray.append_assoc]
 have e2 : putB n t ++ X = (hd05 n t.size ++ dig (hd05 n t.size)) ++ (t ++ (dig t ++ (z ++ X))) := by rw [e1]; simp only [ByteArray.append_assoc]
 have e3 : putB n t ++ X = ((hd05 n t.size ++ dig (hd05 n t.size)) ++ t) ++ (dig t ++ (z ++ X)) := by rw [e1]; simp only [ByteArray.append_assoc]
 have e4 : putB n t ++ X = (((hd05 n t.size ++ dig (hd05 n t.size)) ++ t) ++ dig t) ++ (z ++ X) := by rw [e1]; simp only [ByteArray.append_assoc]
 have hS : (putB n t ++ X).size = sec t.size * 512 + X.size := by rw [ByteArray.size_append, hsz]
 have g0 : (putB n t ++ X).extract 0 4 = hgfr := by
  rw [e1]
  unfold hd05
  rw [ByteArray.append_assoc, ByteArray.append_assoc]
  exact ext_first _ _ _ rfl
 have g1 : (putB n t ++ X).extract 0 16 = hd05 n t.size := by rw [e1]; exact ext_first _ _ _ hh.symm
 have g2 : (putB n t ++ X).extract 16 20 = dig (hd05 n t.size) := by rw [e2]; exact ext_mid _ _ _ _ _ hh.symm (by rw [hh, q31])
 have b8 : be (putB n t ++ X) 4 8 = n := by rw [e1]; exact hd05_be8 n _ h0 h1 _
 have b4 : be (putB n t ++ X) 12 4 = (t.size : Int) := by rw [e1]; exact hd05_be4 n _ ht _
 have g3 : (putB n t ++ X).extract 20 (20 + t.size) = t := by rw [e3]; exact ext_mid _ _ _ _ _ (by rw [ByteArray.size_append, hh, q31]) (by rw [ByteArray.size_append, hh, q31])
 have g4 : (putB n t ++ X).extract (20 + t.size) (24 + t.size) = dig t := by
  rw [e4]
  exact ext_mid _ _ _ _ _ (by rw [ByteArray.size_append, ByteArray.size_append, hh, q31]) (by rw [ByteArray.size_append, ByteArray.size_append, hh, q31, q31]; omega)
 have g5 : zeros05 (putB n t ++ X) (24 + t.size) (sec t.size * 512) := by
  intro i hi1 hi2
  rw [e4, bt_right _ _ _ (by rw [hb, Int.toNat_natCast]; omega), hb, bt_left _ _ _ (by rw [hzz]; omega), hzs, bt_of _ (inB_zero _), List.getD_eq_getElem?_getD, List.getElem?_replicate]
  split <;> rfl
 unfold getB
 rw [if_neg (by rw [hS]; omega), if_pos g0, g1, if_pos g2, b4, Int.toNat_natCast, if_pos ⟨by omega, by rw [hS]; omega⟩, g3, if_pos g4, if_pos g5, b8, hsz]
theorem outB_put (n : Int) (h0 : 0 ≤ n) (h1 : n ≤ 18446744073709551615) (t : ByteArray) (ht : t.size ≤ 65536) (X : ByteArray) : outB (putB n t ++ X) = (n, t, ((putB n t).size : Int), 0) := by
 unfold outB; rw [getB_put n h0 h1 t ht X]
end Go.Proofs.YtokdiacjcbolfaaDoor.F
namespace Go.Proofs.YtokdiacjcbolfaaDoor.F
open Go Go.RowKit Go.Proofs.YtokdiacjcbolfaaDoor.X
set_option linter.unusedVariables false
set_option linter.unusedSimpArgs false
def mkJ (fr H a s : Nat) (base : ByteArray) (recs : List ByteArray) (used : Nat) (held unfit : Bool) : q00 := ⟨(), (fr : Int), (H : Int), (a : Int), ⟨(), (), (s : Int)⟩, base, recs, (used : Int), held, unfit⟩
def ZN (n : Nat) : ByteArray := ⟨(Lib.repeatL (⟨#[0]⟩ : ByteArray).data.toList n).toArray⟩
theorem q3d (n : Nat) : (ZN n).size = n := by
 show (Lib.repeatL _ n).toArray.size = n
 rw [List.size_toArray, Lib.repeatL_length]
 simp
def hgjc : ByteArray := ⟨#[72, 71, 74, 67]⟩
def slotB (s half frames : Nat) : ByteArray := (((hgjc ++ strOfNums (beB (s : Int) 8)) ++ strOfNums (beB (half : Int) 4)) ++ strOfNums (beB (frames : Int) 4)) ++ (ZN 484 ++ strOfNums (beB (s : Int) 8))
theorem q32 (s half frames : Nat) : (slotB s half frames).size = 512 := by
 unfold slotB
 simp only [ByteArray.size_append, q19, q3d]
 rfl
theorem repeat_run (n : Nat) (h : n ≤ 140737488355328) : q1g.f (⟨#[0]⟩ : ByteArray) (n : Int) = some (ZN n) := by
 unfold q1g.f
 rw [q0i (by omega), q0i (by omega), q0i (by show 1 * n ≤ _; omega)]
 rfl
section
variable {N : Nat} {c : Nat → ByteArray} {D : q04} {hs : Held} {lf : Option Nat} {fr H a s used : Nat} {base : ByteArray} {recs : List ByteArray} {held : Bool}
theorem failed_run (K : Nat) (unfit : Bool) (D : q04) (e : Int) : q0w.f (mkJ fr H a s base recs used held unfit) D e = some (e, mkJ fr H a s base recs used held (unfit || e != 0), D) := by
 unfold q0w.f mkJ
 cases unfit
 ·rw [if_neg (by simp)]
  rfl
 ·rw [if_pos rfl]
  rfl
theorem q3i (K : Nat) (h : DRel N D c hs) (hf : Fl D lf) (hh : hs.length ≤ 1000000) (hK : hs.length < K) :
  ∃ D', q0j.f K (mkJ fr H a s base recs used held false) D = some (if can lf 1 then 0 else 41, mkJ fr H a s base recs used (held && !can lf 1) (!can lf 1), D') ∧ (can lf 1 = true → DRel N D' (view c hs) [] ∧ Fl D' (less lf 1)) ∧ (can lf 1 = false → DRel N D' c hs ∧ D'.f6 = true) := by
 obtain ⟨D', e1, e2, e3⟩ := flush_run K h hf hh hK
 refine ⟨D', ?_, e2, e3⟩
 unfold q0j.f
 rw [e1]
 simp only [Option.bind_some]
 have := failed_run (fr := fr) (H := H) (a := a) (s := s) (used := used) (base := base) (recs := recs) (held := held) K false D' (if can lf 1 = true then 0 else 41)
 unfold mkJ at this ⊢
 simp only at this ⊢
 rw [this]
 cases can lf 1 <;> simp
theorem chunks_one (data : ByteArray) (p : Nat) (h : data.size = 512) : q2i data p 0 1 = [(p, data)] := by
 show [(p + 0, data.extract (0 * 512) ((0 + 1) * 512))] = _
 have : data.extract 0 512 = data := by rw [← h]; exact ByteArray.extract_zero_size
 rw [Nat.add_zero, Nat.zero_mul, Nat.zero_add, Nat.one_mul, this]
theorem q20 (data : ByteArray) (p : Nat) : ∀ (r i : Nat), (q2i data p i r).length = r
 | 0, i => rfl
 | r + 1, i => by show (q2i data p (i + 1) r).length + 1 = _; rw [q20 data p r (i + 1)]
theorem less_less (lf : Option Nat) (m n : Nat) : less (less lf m) n = less lf (m + n) := by
 cases lf with
 | none => rfl
 | some k => simp only [less, Option.map_some]; congr 1; omega
theorem can_add (lf : Option Nat) (m n : Nat) : can lf (m + n) = (can lf m && can (less lf m) n) := by
 cases lf with
 | none => rfl
 | some k =>
  simp only [can, less, Option.map_some]
  by_cases h1 : m ≤ k
  ·simp only [h1, decide_true, Bool.true_and, decide_eq_decide]; omega
  ·have : ¬ m + n ≤ k := by omega
   simp [h1, this]
inductive Puts (N : Nat) (c : Nat → ByteArray) (hs : Held) (lf : Option Nat) (fr H a s used : Nat) (base : ByteArray) (recs : List ByteArray) (P half frames : Nat) (text : ByteArray) : Int → q00 → q04 → Prop
 | done (D' : q04) (hc : can lf (sec text.size + 2) = true) (h : DRel N D' (view c (hs ++ q2i (putB ((s + 1 : Nat) : Int) text) P 0 (sec text.size))) [(fr + (s + 1) % 2, slotB (s + 1) half frames)]) (hf : Fl D' (less lf (sec text.size + 2))) :
   Puts N c hs lf fr H a s used base recs P half frames text 0 (mkJ fr H a (s + 1) base recs used true false) D'
 | cut (t : Nat) (J' : q00) (D' : q04) (hc : can lf (sec text.size + 2) = false) (ht : t ≤ sec text.size) (h : DRel N D' c (hs ++ q2i (putB ((s + 1 : Nat) : Int) text) P 0 t)) (hd : D'.f6 = true) (hJ : J'.f9 = true) :
   Puts N c hs lf fr H a s used base recs P half frames text 41 J' D'
 | late (J' : q00) (D' : q04) (hc : can lf (sec text.size + 2) = false) (h : DRel N D' (view c (hs ++ q2i (putB ((s + 1 : Nat) : Int) text) P 0 (sec text.size))) []) (hd : D'.f6 = true) (hJ : J'.f9 = true) :
   Puts N c hs lf fr H a s used base recs P half frames text 41 J' D'
theorem puts_run (K : Nat) (h : DRel N D c hs) (hf : Fl D lf) (half at_ frames : Nat) (text : ByteArray) (ht : text.size ≤ 65536) (hhalf : half ≤ 1) (hat : at_ + sec text.size ≤ H) (hN : fr + 4 + 2 * H ≤ N) (hs1 : s + 1 < 4611686018427387904) (hfr : frames ≤ 1000000) (hh : hs.length ≤ 500000) (hK : 600000 ≤ K) :
  ∃ e J' D', q0s.f K (mkJ fr H a s base recs used held false) D (half : Int) (at_ : Int) text (frames : Int) = some (e, J', D') ∧ Puts N c hs lf fr H a s used base recs (fr + 4 + half * H + at_) half frames text e J' D' := by
 have hN2 := h.n2
 have hsec : sec text.size ≤ 200 := by unfold sec; omega
 have hhH : half * H ≤ H := by
  rcases (by omega : half = 0 ∨ half = 1) with rfl | rfl <;> omega
 have w0 : IntKind.wrap .i64 ((s : Int) + 1) = ((s + 1 : Nat) : Int) := by rw [wi (by omega) (by omega)]; omega
 have w1 : IntKind.wrap .u64 ((s + 1 : Nat) : Int) = ((s + 1 : Nat) : Int) := wu (by omega) (by omega)
 unfold q0s.f
 have hseq : (mkJ fr H a s base recs used held false).f4.f2 = (s : Int) := rfl
 rw [hseq, w0, w1, q2a.is _ (by omega) (by omega) text (by omega) K (by omega), if_neg (by omega)]
 simp only [Option.bind_some, if_true]
 have hplace : q0v.f (⟨(), (mkJ fr H a s base recs used held false).f1, (mkJ fr H a s base recs used held false).f2, (mkJ fr H a s base recs used held false).f3, (⟨(), (), (s : Int)⟩ : q03), (mkJ fr H a s base recs used held false).f5, (mkJ fr H a s base recs used held false).f6, (mkJ fr H a s base recs used held false).f7, (mkJ fr H a s base recs used held false).f8, (mkJ fr H a s base recs used held false).f9⟩ : q00) (half : Int) (at_ : Int) = some ((fr + 4 + half * H + at_ : Nat) : Int) := by
  unfold q0v.f mkJ
  simp only
  have e1 : IntKind.wrap .i64 ((fr : Int) + 4) = ((fr + 4 : Nat) : Int) := by rw [wi (by omega) (by omega)]; omega
  have e2 : IntKind.wrap .i64 ((half : Int) * (H : Int)) = ((half * H : Nat) : Int) := by
   have : ((half * H : Nat) : Int) = (half : Int) * (H : Int) := by push_cast; rfl
   rw [← this, wi (by omega) (by omega)]
  rw [e1, e2, wi (n := ((fr + 4 : Nat) : Int) + ((half * H : Nat) : Int)) (by omega) (by omega), wi (by omega) (by omega)]
  congr 1
 rw [hplace]
 simp only [Option.bind_some]
 have hpsz := q2p ((s + 1 : Nat) : Int) text
 obtain ⟨D1, e1, e2, e3, e4⟩ := write_run K h hf (fr + 4 + half * H + at_) (sec text.size) (putB ((s + 1 : Nat) : Int) text) hpsz (by omega) (by omega) (by omega)
 rw [e1]
 simp only [Option.bind_some]
 have hfail := fun (D : q04) (e : Int) => failed_run (fr := fr) (H := H) (a := a) (s := s) (used := used) (base := base) (recs := recs) (held := held) K false D e
 have hfail1 := hfail D1 (if can lf (sec text.size) = true then 0 else 41)
 rw [show (⟨(), (mkJ fr H a s base recs used held false).f1, (mkJ fr H a s base recs used held false).f2, (mkJ fr H a s base recs used held false).f3, (⟨(), (), (s : Int)⟩ : q03), (mkJ fr H a s base recs used held false).f5, (mkJ fr H a s base recs used held false).f6, (mkJ fr H a s base recs used held false).f7, (mkJ fr H a s base recs used held false).f8, (mkJ fr H a s base recs used held false).f9⟩ : q00) = mkJ fr H a s base recs used held false from rfl, hfail1]
 simp only [Option.bind_some, Bool.false_or]
 cases hc1 : can lf (sec text.size) with
 | false =>
  simp only [Bool.false_eq_true, if_false]
  have hcc : can lf (sec text.size + 2) = false := by rw [can_add, hc1]; rfl
  refine ⟨41, _, D1, by rw [if_neg (by omega)], ?_⟩
  have hdn : doneN lf (sec text.size) ≤ sec text.size := by
   cases lf with
   | none => exact Nat.le_refl _
   | some k => exact Nat.min_le_left _ _
  exact .cut (doneN lf (sec text.size)) _ D1 hcc hdn e2 (e4 hc1) rfl
 | true =>
  simp only [if_true]
  have hdn : doneN lf (sec text.size) = sec text.size := by
   cases lf with
   | none => rfl
   | some k => simp [can] at hc1; simp only [doneN]; omega
  rw [hdn] at e2
  have hJ0 : (mkJ fr H a s base recs used held ((0 : Int) != 0)) = mkJ fr H a s base recs used held false := rfl
  rw [hJ0]
  obtain ⟨D2, g1, g2, g3⟩ := q3i (fr := fr) (H := H) (a := a) (s := s) (used := used) (base := base) (recs := recs) (held := held) K e2 (e3 hc1) (by rw [List.length_append, q20]; omega) (by rw [List.length_append, q20]; omega)
  rw [g1]
  simp only [Option.bind_some]
  cases hc2 : can (less lf (sec text.size)) 1 with
  | false =>
   simp only [Bool.false_eq_true, if_false]
   have hcc : can lf (sec text.size + 2) = false := by
    rw [can_add, hc1, show (2 : Nat) = 1 + 1 from rfl, can_add, hc2]; rfl
   refine ⟨41, _, D2, by rw [if_neg (by omega)], ?_⟩
   exact .cut (sec text.size) _ D2 hcc (Nat.le_refl _) (g3 hc2).1 (g3 hc2).2 rfl
  | true =>
   simp only [if_true]
   obtain ⟨k1, k2⟩ := g2 hc2
   have p8 := q0u.is ((s + 1 : Nat) : Int) (by omega) 8 (K - 9) (by omega) (by omega)
   have p4 := q0u.is (half : Int) (by omega) 4 (K - 9) (by omega) (by omega)
   have p4' := q0u.is (frames : Int) (by omega) 4 (K - 9) (by omega) (by omega)
   rw [show K - 9 + 9 = K by omega] at p8 p4 p4'
   rw [show ((8 : Nat) : Int) = 8 from rfl] at p8
   rw [show ((4 : Nat) : Int) = 4 from rfl] at p4 p4'
   rw [p8]
   simp only [Option.bind_some]
   rw [q0i (by rw [q19]; omega), show IntKind.wrap .u64 (half : Int) = (half : Int) from wu (by omega) (by omega), p4]
   simp only [Option.bind_some]
   have z4 : (⟨#[72, 71, 74, 67]⟩ : ByteArray).size = 4 := rfl
   rw [q0i (by simp only [ByteArray.size_append, q19, z4]; omega), show IntKind.wrap .u64 (frames : Int) = (frames : Int) from wu (by omega) (by omega), p4']
   simp only [Option.bind_some]
   rw [q0i (by simp only [ByteArray.size_append, q19, z4]; omega)]
   have hz : IntKind.wrap .i64 ((IntKind.wrap .i64 (512 - (((((⟨#[72, 71, 74, 67]⟩ : ByteArray) ++ strOfNums (beB ((s + 1 : Nat) : Int) 8)) ++ strOfNums (beB (half : Int) 4)) ++ strOfNums (beB (frames : Int) 4)).size : Int))) - ((strOfNums (beB ((s + 1 : Nat) : Int) 8)).size : Int)) = ((484 : Nat) : Int) := by
    simp only [ByteArray.size_append, q19, z4]
    rw [wi (n := 512 - ((4 + 8 + 4 + 4 : Nat) : Int)) (by omega) (by omega), wi (by omega) (by omega)]
    omega
   rw [hz, repeat_run 484 (by omega)]
   simp only [Option.bind_some]
   rw [q0i (by rw [q3d, q19]; omega), q0i (by simp only [ByteArray.size_append, q19, z4, q3d]; omega)]
   have hslot : ((((⟨#[72, 71, 74, 67]⟩ : ByteArray) ++ strOfNums (beB ((s + 1 : Nat) : Int) 8)) ++ strOfNums (beB (half : Int) 4)) ++ strOfNums (beB (frames : Int) 4)) ++ (ZN 484 ++ strOfNums (beB ((s + 1 : Nat) : Int) 8)) = slotB (s + 1) half frames := rfl
   rw [hslot]
   have hpos : IntKind.wrap .i64 ((mkJ fr H a s base recs used (held && !true) (!true)).f1 + Int.tmod ((s + 1 : Nat) : Int) 2) = ((fr + (s + 1) % 2 : Nat) : Int) := by
    show IntKind.wrap .i64 ((fr : Int) + Int.tmod ((s + 1 : Nat) : Int) 2) = _
    rw [Int.tmod_eq_emod_of_nonneg (by omega), wi (by omega) (by omega)]
    omega
   rw [hpos]
   obtain ⟨D3, m1, m2, m3, m4⟩ := write_run K k1 k2 (fr + (s + 1) % 2) 1 (slotB (s + 1) half frames) (q32 _ _ _) (by omega) (by simp) (by omega)
   rw [m1]
   simp only [Option.bind_some]
   have hfail3 := failed_run (fr := fr) (H := H) (a := a) (s := s) (used := used) (base := base) (recs := recs) (held := held && !true) K (!true) D3 (if can (less (less lf (sec text.size)) 1) 1 = true then 0 else 41)
   rw [show (⟨(), (mkJ fr H a s base recs used (held && !true) (!true)).f1, (mkJ fr H a s base recs used (held && !true) (!true)).f2, (mkJ fr H a s base recs used (held && !true) (!true)).f3, (⟨(), (), (mkJ fr H a s base recs used (held && !true) (!true)).f4.f2⟩ : q03), (mkJ fr H a s base recs used (held && !true) (!true)).f5, (mkJ fr H a s base recs used (held && !true) (!true)).f6, (mkJ fr H a s base recs used (held && !true) (!true)).f7, (mkJ fr H a s base recs used (held && !true) (!true)).f8, (mkJ fr H a s base recs used (held && !true) (!true)).f9⟩ : q00) = mkJ fr H a s base recs used (held && !true) (!true) from rfl, hfail3]
   simp only [Option.bind_some]
   have hcc2 : can lf (sec text.size + 2) = can (less (less lf (sec text.size)) 1) 1 := by
    rw [can_add, hc1, show (2 : Nat) = 1 + 1 from rfl, can_add, hc2]
    rfl
   cases hc3 : can (less (less lf (sec text.size)) 1) 1 with
   | false =>
    simp only [Bool.false_eq_true, if_false]
    have hd0 : doneN (less (less lf (sec text.size)) 1) 1 = 0 := by
     cases lf with
     | none => simp [can, less] at hc3
     | some q => simp [can, less] at hc3; simp only [doneN, less, Option.map_some]; omega
    rw [hd0] at m2
    refine ⟨41, _, D3, by rw [if_neg (by omega)], ?_⟩
    exact .late _ D3 (by rw [hcc2, hc3]) m2 (m4 hc3) rfl
   | true =>
    simp only [if_true]
    have hd1 : doneN (less (less lf (sec text.size)) 1) 1 = 1 := by
     cases lf with
     | none => rfl
     | some q => simp [can, less] at hc3; simp only [doneN, less, Option.map_some]; omega
    rw [hd1, chunks_one _ _ (q32 _ _ _)] at m2
    refine ⟨0, _, D3, rfl, ?_⟩
    have := m3 hc3
    rw [less_less, less_less] at this
    exact .done D3 (by rw [hcc2, hc3]) m2 this
end
end Go.Proofs.YtokdiacjcbolfaaDoor.F
namespace Go.Proofs.YtokdiacjcbolfaaDoor.F
open Go Go.RowKit Go.Proofs.YtokdiacjcbolfaaDoor.X
set_option linter.unusedVariables false
set_option linter.unusedSimpArgs false
section
variable {N : Nat} {c : Nat → ByteArray} {D : q04} {hs : Held} {lf : Option Nat} {fr H a s used : Nat} {base : ByteArray} {recs : List ByteArray} {held : Bool}
theorem mkJ_eta (fr H a s used : Nat) (base : ByteArray) (recs : List ByteArray) (held unfit : Bool) : (⟨(), (mkJ fr H a s base recs used held unfit).f1, (mkJ fr H a s base recs used held unfit).f2, (mkJ fr H a s base recs used held unfit).f3, (⟨(), (), (mkJ fr H a s base recs used held unfit).f4.f2⟩ : q03), (mkJ fr H a s base recs used held unfit).f5, (mkJ fr H a s base recs used held unfit).f6, (mkJ fr H a s base recs used held unfit).f7, (mkJ fr H a s base recs used held unfit).f8, (mkJ fr H a s base recs used held unfit).f9⟩ : q00) = mkJ fr H a s base recs used held unfit := rfl
theorem room_run : q1e.f (mkJ fr H a s base recs used held false) = some (IntKind.wrap .i64 ((H : Int) - (used : Int))) := rfl
theorem records_run (h : recs.length ≤ 8796093022208) (unfit : Bool) : q11.f (mkJ fr H a s base recs used held unfit) = some recs := by
 unfold q11.f
 rw [q0i (by show 0 + recs.length ≤ _; omega)]
 rfl
theorem append_run (K : Nat) (h : DRel N D c hs) (hf : Fl D lf) (text : ByteArray) (ht : text.size ≤ 65536) (ha : a ≤ 1) (hu : used + sec text.size ≤ H) (hN : fr + 4 + 2 * H ≤ N) (hs1 : s + 1 < 4611686018427387904) (hr : recs.length ≤ 100000) (hh : hs.length ≤ 500000) (hK : 600000 ≤ K) :
    ∃ e J' D', q12.f K (mkJ fr H a s base recs used held false) D text = some (e, J', D') ∧
      ((e = 0 ∧ J' = mkJ fr H a (s + 1) base (recs ++ [text]) (used + sec text.size) true false ∧ Puts N c hs lf fr H a s used base recs (fr + 4 + a * H + used) a (recs.length + 2) text 0 (mkJ fr H a (s + 1) base recs used true false) D') ∨
       (e = 41 ∧ Puts N c hs lf fr H a s used base recs (fr + 4 + a * H + used) a (recs.length + 2) text 41 J' D')) := by
  have hN2 := h.n2
  have hsec : sec text.size ≤ 200 := by unfold sec; omega
  unfold q12.f
  rw [q0x.isN text.size ht]
  simp only [Option.bind_some]
  rw [if_neg (by show ¬ false = true; simp), if_neg (by omega), mkJ_eta, room_run]
  simp only [Option.bind_some]
  rw [if_neg (by rw [wi (by omega) (by omega)]; omega)]
  have hw : IntKind.wrap .i64 (((mkJ fr H a s base recs used held false).f6.length : Int) + 2) = ((recs.length + 2 : Nat) : Int) := by
    show IntKind.wrap .i64 ((recs.length : Int) + 2) = _
    rw [wi (by omega) (by omega)]; omega
  rw [hw]
  obtain ⟨e, J', D', e1, e2⟩ := puts_run (fr := fr) (H := H) (a := a) (s := s) (used := used) (base := base) (recs := recs) (held := held) K h hf a used (recs.length + 2) text ht ha hu hN hs1 (by omega) hh hK
  show ∃ e J' D', (q0s.f K (mkJ fr H a s base recs used held false) D (a : Int) (used : Int) text ((recs.length + 2 : Nat) : Int)).bind _ = _ ∧ _
  rw [e1]
  simp only [Option.bind_some]
  cases e2 with
  | done D' hc hd hfl =>
    rw [if_pos rfl, q0i (by show recs.length + 1 ≤ _; omega)]
    refine ⟨0, _, D', rfl, .inl ⟨rfl, ?_, .done D' hc hd hfl⟩⟩
    show (⟨(), (fr : Int), (H : Int), (a : Int), ⟨(), (), ((s + 1 : Nat) : Int)⟩, base, recs ++ [text], IntKind.wrap .i64 ((used : Int) + ((sec text.size : Nat) : Int)), true, false⟩ : q00) = _
    rw [wi (by omega) (by omega)]
    unfold mkJ
    congr 1
  | cut t J' D' hc htt hd hdn hJ =>
    rw [if_neg (by omega)]
    exact ⟨41, J', D', rfl, .inr ⟨rfl, .cut t J' D' hc htt hd hdn hJ⟩⟩
  | late J' D' hc hd hdn hJ =>
    rw [if_neg (by omega)]
    exact ⟨41, J', D', rfl, .inr ⟨rfl, .late J' D' hc hd hdn hJ⟩⟩
theorem sync_run (K : Nat) (h : DRel N D c hs) (hf : Fl D lf) (hh : hs.length ≤ 1000000) (hK : hs.length < K) :
  ∃ D', q10.f K (mkJ fr H a s base recs used held false) D = some (if can lf 1 then 0 else 41, mkJ fr H a s base recs used (held && !can lf 1) (!can lf 1), D') ∧ (can lf 1 = true → DRel N D' (view c hs) [] ∧ Fl D' (less lf 1)) ∧ (can lf 1 = false → DRel N D' c hs ∧ D'.f6 = true) := by
 obtain ⟨D', e1, e2, e3⟩ := q3i (fr := fr) (H := H) (a := a) (s := s) (used := used) (base := base) (recs := recs) (held := held) K h hf hh hK
 refine ⟨D', ?_, e2, e3⟩
 unfold q10.f
 rw [if_neg (by show ¬ false = true; simp), mkJ_eta, e1]
 rfl
theorem ckpt0_run (K : Nat) (h : DRel N D c hs) (hf : Fl D lf) (text : ByteArray) (ht : text.size ≤ 65536) (ha : a ≤ 1) (hu : sec text.size ≤ H) (hN : fr + 4 + 2 * H ≤ N) (hs1 : s + 1 < 4611686018427387904) (hh : hs.length ≤ 500000) (hK : 600000 ≤ K) :
    ∃ e J' D', q0f.j0 K text ((sec text.size : Nat) : Int) (mkJ fr H a s base recs used held false) D = some (e, J', D') ∧
      ((e = 0 ∧ J' = mkJ fr H (1 - a) (s + 1) text [] (sec text.size) true false ∧ Puts N c hs lf fr H a s used base recs (fr + 4 + (1 - a) * H + 0) (1 - a) 1 text 0 (mkJ fr H a (s + 1) base recs used true false) D') ∨
       (e = 41 ∧ Puts N c hs lf fr H a s used base recs (fr + 4 + (1 - a) * H + 0) (1 - a) 1 text 41 J' D')) := by
  unfold q0f.j0
  have hw : IntKind.wrap .i64 (1 - (a : Int)) = ((1 - a : Nat) : Int) := by rw [wi (by omega) (by omega)]; omega
  obtain ⟨e, J', D', e1, e2⟩ := puts_run (fr := fr) (H := H) (a := a) (s := s) (used := used) (base := base) (recs := recs) (held := held) K h hf (1 - a) 0 1 text ht (by omega) (by omega) hN hs1 (by omega) hh hK
  show ∃ e J' D', (q0s.f K (mkJ fr H a s base recs used held false) D (IntKind.wrap .i64 (1 - (a : Int))) 0 text 1).bind _ = _ ∧ _
  have e1' : q0s.f K (mkJ fr H a s base recs used held false) D ((1 - a : Nat) : Int) 0 text 1 = some (e, J', D') := e1
  rw [hw, e1']
  simp only [Option.bind_some]
  cases e2 with
  | done D' hc hd hfl =>
    rw [if_pos rfl]
    refine ⟨0, _, D', rfl, .inl ⟨rfl, ?_, .done D' hc hd hfl⟩⟩
    show (⟨(), (fr : Int), (H : Int), IntKind.wrap .i64 (1 - (a : Int)), ⟨(), (), ((s + 1 : Nat) : Int)⟩, text, [], ((sec text.size : Nat) : Int), true, false⟩ : q00) = _
    rw [hw]
    rfl
  | cut t J' D' hc htt hd hdn hJ =>
    rw [if_neg (by omega)]
    exact ⟨41, J', D', rfl, .inr ⟨rfl, .cut t J' D' hc htt hd hdn hJ⟩⟩
  | late J' D' hc hd hdn hJ =>
    rw [if_neg (by omega)]
    exact ⟨41, J', D', rfl, .inr ⟨rfl, .late J' D' hc hd hdn hJ⟩⟩
theorem ckpt_head (K : Nat) (text : ByteArray) (ht : text.size ≤ 65536) (hu : sec text.size ≤ H) (D : q04) : q0f.f K (mkJ fr H a s base recs used held false) D text = if held = true then ((q0j.f K (mkJ fr H a s base recs used held false) D).bind fun t => if t.1 = 0 then q0f.j0 K text ((sec text.size : Nat) : Int) t.2.1 t.2.2 else some (t.1, t.2.1, t.2.2)) else q0f.j0 K text ((sec text.size : Nat) : Int) (mkJ fr H a s base recs used held false) D := by
 unfold q0f.f
 rw [q0x.isN text.size ht]
 simp only [Option.bind_some]
 rw [if_neg (by show ¬ false = true; simp), if_neg (by omega), if_neg (by show ¬ _ > (H : Int); omega)]
 rfl
theorem append_calm (K : Nat) (h : DRel N D c hs) (hf : Fl D none) (text : ByteArray) (ht : text.size ≤ 65536) (ha : a ≤ 1) (hu : used + sec text.size ≤ H) (hN : fr + 4 + 2 * H ≤ N) (hs1 : s + 1 < 4611686018427387904) (hr : recs.length ≤ 100000) (hh : hs.length ≤ 500000) (hK : 600000 ≤ K) :
  ∃ D', q12.f K (mkJ fr H a s base recs used held false) D text = some (0, mkJ fr H a (s + 1) base (recs ++ [text]) (used + sec text.size) true false, D') ∧
   DRel N D' (view c (hs ++ q2i (putB ((s + 1 : Nat) : Int) text) (fr + 4 + a * H + used) 0 (sec text.size))) [(fr + (s + 1) % 2, slotB (s + 1) a (recs.length + 2))] ∧ Fl D' none := by
 obtain ⟨e, J', D', e1, e2⟩ := append_run (base := base) (held := held) K h hf text ht ha hu hN hs1 hr hh hK
 rcases e2 with ⟨rfl, rfl, e2⟩ | ⟨_, e2⟩
 ·cases e2 with
  | done D' hc hd hfl => exact ⟨D', e1, hd, hfl⟩
 ·cases e2 with
  | cut t J' D' hc htt hd hdn hJ => cases hc
  | late J' D' hc hd hdn hJ => cases hc
theorem placed_run (h : DRel N D c hs) (fr S : Nat) (h8 : 8 ≤ S) (hS : fr + S ≤ N) : q1h.f D (fr : Int) (S : Int) = some (some (mkJ fr ((S - 4) / 2) 0 0 NB [] 0 false false), D) := by
 have hN2 := h.n2
 unfold q1h.f
 rw [if_neg (by omega), if_neg (by omega), q2t]
 rw [show q1y.f D = some (D.f0.length : Int) from rfl, h.l0]
 simp only [Option.bind_some]
 rw [if_neg (by omega), if_neg (by rw [wi (by omega) (by omega)]; omega)]
 have hw : IntKind.wrap .i64 (Int.tdiv (IntKind.wrap .i64 ((S : Int) - 4)) 2) = (((S - 4) / 2 : Nat) : Int) := by
  rw [wi (n := (S : Int) - 4) (by omega) (by omega), Int.tdiv_eq_ediv_of_nonneg (by omega), wi (by omega) (by omega)]
  omega
 rw [hw]
 rfl
def zeros2 (fr : Nat) : Held := q2i (ZN 1024) fr 0 2
theorem format_run (K : Nat) (h : DRel N D c []) (hf : Fl D none) (fr S : Nat) (h8 : 8 ≤ S) (hS : fr + S ≤ N) (base : ByteArray) (hb : base.size ≤ 65536) (hbH : sec base.size ≤ (S - 4) / 2) (hK : 600000 ≤ K) :
  ∃ D', q1i.f K D (fr : Int) (S : Int) base = some (some (mkJ fr ((S - 4) / 2) 0 1 base [] (sec base.size) false false), 0, D') ∧
   DRel N D' (view (view (view c (zeros2 fr)) (q2i (putB ((1 : Nat) : Int) base) (fr + 4 + 0 * ((S - 4) / 2) + 0) 0 (sec base.size))) [(fr + 1 % 2, slotB 1 0 1)]) [] ∧ Fl D' none := by
 unfold q1i.f
 rw [placed_run h fr S h8 hS]
 simp only [Option.bind_some, optc]
 rw [if_neg (by omega), q0x.isN base.size hb]
 simp only [Option.bind_some]
 rw [if_neg (by show ¬ _ > (((S - 4) / 2 : Nat) : Int); omega), show (1024 : Int) = ((1024 : Nat) : Int) from rfl, repeat_run 1024 (by omega)]
 simp only [Option.bind_some]
 obtain ⟨D1, e1, e2, e3, _⟩ := write_run K h hf fr 2 (ZN 1024) (by rw [q3d]) (by omega) (by simp) (by omega)
 rw [e1]
 simp only [Option.bind_some, can, if_true, mkJ_eta]
 obtain ⟨D2, g1, g2, _⟩ := q3i (fr := fr) (H := (S - 4) / 2) (a := 0) (s := 0) (used := 0) (base := NB) (recs := []) (held := false) K e2 (e3 rfl) (by rw [List.nil_append, q20]; show 2 ≤ _; omega) (by rw [List.nil_append, q20]; show 2 < _; omega)
 obtain ⟨k1, k2⟩ := g2 rfl
 rw [g1]
 simp only [Option.bind_some, can, if_true]
 obtain ⟨e, J', D3, p1, p2⟩ := puts_run (fr := fr) (H := (S - 4) / 2) (a := 0) (s := 0) (used := 0) (base := NB) (recs := []) (held := false) K k1 k2 0 0 1 base hb (by omega) (by omega) (by omega) (by omega) (by omega) (by simp) hK
 show ∃ D', (q0s.f K (mkJ fr ((S - 4) / 2) 0 0 NB [] 0 false false) D2 ((0 : Nat) : Int) ((0 : Nat) : Int) base ((1 : Nat) : Int)).bind _ = _ ∧ _
 rw [p1]
 simp only [Option.bind_some]
 cases p2 with
 | cut t J' D' hc htt hd hdn hJ => cases hc
 | late J' D' hc hd hdn hJ => cases hc
 | done D' hc hd hfl =>
  rw [if_pos rfl]
  obtain ⟨D4, q1, q2, _⟩ := q3i (fr := fr) (H := (S - 4) / 2) (a := 0) (s := 1) (used := 0) (base := NB) (recs := []) (held := true) K hd hfl (by simp) (by simp; omega)
  obtain ⟨r1, r2⟩ := q2 rfl
  show ∃ D', (q0j.f K (mkJ fr ((S - 4) / 2) 0 1 NB [] 0 true false) D3).bind _ = _ ∧ _
  rw [q1]
  simp only [Option.bind_some, can, if_true]
  refine ⟨D4, rfl, ?_, r2⟩
  rw [List.nil_append] at r1
  exact r1
end
end Go.Proofs.YtokdiacjcbolfaaDoor.F
namespace Go.Proofs.YtokdiacjcbolfaaDoor.F
open Go Go.RowKit Go.Proofs.YtokdiacjcbolfaaDoor.X
set_option linter.unusedVariables false
set_option linter.unusedSimpArgs false
theorem prefixJ (s : ByteArray) (hs : 20 ≤ s.size) : Lib.hasPrefix s.data.toList hgjc.data.toList = decide (s.extract 0 4 = hgjc) := by
 have hz : hgjc.size = 4 := rfl
 rw [← Lib.hasPrefix_raw, hz, decide_eq_true (by omega), Bool.true_and]
 by_cases h : s.extract 0 4 = hgjc
 ·rw [decide_eq_true h, h]; simp
 ·rw [decide_eq_false h]; exact q23 h
open Classical in
noncomputable def slotP (H : Nat) (T : ByteArray) : Int × Int × Int :=
 if T.extract 0 4 = hgjc ∧ be T 4 8 = be T 504 8 ∧ be T 4 8 < 4611686018427387904 ∧ be T 12 4 ≤ 1 ∧ 1 ≤ be T 16 4 ∧ be T 16 4 ≤ (H : Int) then (be T 4 8, be T 12 4, be T 16 4) else (0, 0, 0)
theorem slotP_no {H : Nat} {T : ByteArray} (h : ¬ (T.extract 0 4 = hgjc ∧ be T 4 8 = be T 504 8 ∧ be T 4 8 < 4611686018427387904 ∧ be T 12 4 ≤ 1 ∧ 1 ≤ be T 16 4 ∧ be T 16 4 ≤ (H : Int))) : slotP H T = (0, 0, 0) := by unfold slotP; rw [if_neg h]
theorem slotP_yes {H : Nat} {T : ByteArray} (h : T.extract 0 4 = hgjc ∧ be T 4 8 = be T 504 8 ∧ be T 4 8 < 4611686018427387904 ∧ be T 12 4 ≤ 1 ∧ 1 ≤ be T 16 4 ∧ be T 16 4 ≤ (H : Int)) : slotP H T = (be T 4 8, be T 12 4, be T 16 4) := by unfold slotP; rw [if_pos h]
theorem big_run (T : ByteArray) (hT : T.size = 512) (K : Nat) (p n : Nat) (h1 : 1 ≤ n) (hn : n ≤ 8) (hp : p + n ≤ 512) : q15.f (K + 9) T (p : Int) (n : Int) = some (be T (p : Int) n, true) := by
 have := q15.is T (p : Int) n K h1 hn (by omega)
 rw [if_pos (by omega)] at this
 exact this
theorem slot_run (K : Nat) {N : Nat} {D : q04} {c : Nat → ByteArray} {hs : Held} (h : DRel N D c hs) (hd : D.f6 = false) {fr H a s used : Nat} {base : ByteArray} {recs : List ByteArray} {held unfit : Bool} (i : Nat) (hi : fr + i < N) (hH : H ≤ 8192) (hK : 20 ≤ K) :
  q1a.f K (mkJ fr H a s base recs used held unfit) D (i : Int) = some ((slotP H (view c hs (fr + i))).1, (slotP H (view c hs (fr + i))).2.1, (slotP H (view c hs (fr + i))).2.2, 0) := by
 obtain ⟨K', rfl⟩ : ∃ q, K = q + 9 := ⟨K - 9, by omega⟩
 have hN := h.n2
 have hT := h.vsize hi
 unfold q1a.f
 have e1 : IntKind.wrap .i64 ((mkJ fr H a s base recs used held unfit).f1 + (i : Int)) = ((fr + i : Nat) : Int) := by
  show IntKind.wrap .i64 ((fr : Int) + (i : Int)) = _
  rw [wi (by omega) (by omega)]; omega
 have hr := read_run (K' + 9) h hd (fr + i) 1 (by omega) (by omega)
 rw [e1, q2t, show (1 : Int) = ((1 : Nat) : Int) from rfl, hr]
 have ej : joinS (view c hs) (fr + i) 1 = view c hs (fr + i) := nb_app _
 rw [ej]
 generalize view c hs (fr + i) = T at hT ⊢
 have b4 := big_run T hT K' 4 8 (by omega) (by omega) (by omega)
 have b504 := big_run T hT K' 504 8 (by omega) (by omega) (by omega)
 have b12 := big_run T hT K' 12 4 (by omega) (by omega) (by omega)
 have b16 := big_run T hT K' 16 4 (by omega) (by omega) (by omega)
 simp only [Option.bind_some, if_true]
 rw [show (4 : Int) = ((4 : Nat) : Int) from rfl, show (8 : Int) = ((8 : Nat) : Int) from rfl, show (504 : Int) = ((504 : Nat) : Int) from rfl, show (12 : Int) = ((12 : Nat) : Int) from rfl, show (16 : Int) = ((16 : Nat) : Int) from rfl, b4, b504, b12, b16]
 simp only [Option.bind_some]
 have hp : q18.f T (⟨#[72, 71, 74, 67]⟩ : ByteArray) = some (decide (T.extract 0 4 = hgjc)) := by
  unfold q18.f
  rw [← prefixJ T (by omega)]; rfl
 rw [hp]
 simp only [Option.bind_some]
 have l4 := be_lo T 4 8
 have l12 := be_lo T 12 4
 have l16 := be_lo T 16 4
 have wH : IntKind.wrap .u64 (mkJ fr H a s base recs used held unfit).f2 = (H : Int) := by
  show IntKind.wrap .u64 (H : Int) = _
  exact wu (by omega) (by omega)
 rw [wH]
 simp only [show ((4 : Nat) : Int) = 4 from rfl, show ((504 : Nat) : Int) = 504 from rfl, show ((12 : Nat) : Int) = 12 from rfl, show ((16 : Nat) : Int) = 16 from rfl]
 by_cases c1 : T.extract 0 4 = hgjc
 rotate_left
 ·rw [if_neg (by simp [c1]), slotP_no (by simp [c1])]
 rw [if_pos (by simp [c1])]
 by_cases c2 : be T 4 8 = be T 504 8
 rotate_left
 ·rw [if_neg c2, slotP_no (by simp [c2])]
 rw [if_pos c2]
 by_cases c3 : be T 4 8 < 4611686018427387904
 rotate_left
 ·rw [if_pos (by omega), slotP_no (by intro hx; exact c3 hx.2.2.1)]
 rw [if_neg (by omega)]
 by_cases c4 : be T 12 4 ≤ 1
 rotate_left
 ·rw [if_pos (by omega), slotP_no (by intro hx; exact c4 hx.2.2.2.1)]
 rw [if_neg (by omega)]
 by_cases c5 : 1 ≤ be T 16 4
 rotate_left
 ·rw [if_pos (by omega), slotP_no (by intro hx; exact c5 hx.2.2.2.2.1)]
 rw [if_neg (by omega)]
 by_cases c6 : be T 16 4 ≤ (H : Int)
 rotate_left
 ·rw [if_pos (by omega), slotP_no (by intro hx; exact c6 hx.2.2.2.2.2)]
 rw [if_neg (by omega), slotP_yes ⟨c1, c2, c3, c4, c5, c6⟩, wi (n := be T 4 8) (by omega) (by omega), wi (n := be T 12 4) (by omega) (by omega), wi (n := be T 16 4) (by omega) (by omega)]
section
variable (s a m : Nat) (hs : s < 4611686018427387904) (ha : a ≤ 1) (hm : m ≤ 1000000)
theorem slotB_pre : (slotB s a m).extract 0 4 = hgjc := by
 unfold slotB
 simp only [ByteArray.append_assoc]
 exact ext_first _ _ _ rfl
theorem q39 (hs : s < 4611686018427387904) : be (slotB s a m) 4 8 = (s : Int) := by
 have z4 : hgjc.size = 4 := rfl
 unfold slotB
 rw [be_left _ _ _ _ (by omega) (by simp only [ByteArray.size_append, q19, z4] <;> omega), be_left _ _ _ _ (by omega) (by simp only [ByteArray.size_append, q19, z4] <;> omega), be_left _ _ _ _ (by omega) (by simp only [ByteArray.size_append, q19, z4] <;> omega), q3v _ _ _ _ (by rw [z4] <;> omega), z4]
 exact be_put (s : Int) 8 (by omega) (by omega)
theorem slotB_half (ha : a ≤ 1) : be (slotB s a m) 12 4 = (a : Int) := by
 have z4 : hgjc.size = 4 := rfl
 unfold slotB
 rw [be_left _ _ _ _ (by omega) (by simp only [ByteArray.size_append, q19, z4] <;> omega), be_left _ _ _ _ (by omega) (by simp only [ByteArray.size_append, q19, z4] <;> omega), q3v _ _ _ _ (by simp only [ByteArray.size_append, q19, z4] <;> omega), ByteArray.size_append, q19, z4]
 exact be_put (a : Int) 4 (by omega) (by omega)
theorem q3r (hm : m ≤ 1000000) : be (slotB s a m) 16 4 = (m : Int) := by
 have z4 : hgjc.size = 4 := rfl
 unfold slotB
 rw [be_left _ _ _ _ (by omega) (by simp only [ByteArray.size_append, q19, z4] <;> omega), q3v _ _ _ _ (by simp only [ByteArray.size_append, q19, z4] <;> omega), ByteArray.size_append, ByteArray.size_append, q19, q19, z4]
 exact be_put (m : Int) 4 (by omega) (by omega)
theorem slotB_tail (hs : s < 4611686018427387904) : be (slotB s a m) 504 8 = (s : Int) := by
 have z4 : hgjc.size = 4 := rfl
 unfold slotB
 rw [q3v _ _ _ _ (by simp only [ByteArray.size_append, q19, z4] <;> omega), q3v _ _ _ _ (by simp only [ByteArray.size_append, q19, z4, q3d] <;> omega)]
 simp only [ByteArray.size_append, q19, z4, q3d]
 exact be_put (s : Int) 8 (by omega) (by omega)
theorem slotP_slotB {H : Nat} (hs : s < 4611686018427387904) (ha : a ≤ 1) (hm : m ≤ 1000000) (h1 : 1 ≤ m) (hH : m ≤ H) : slotP H (slotB s a m) = ((s : Int), (a : Int), (m : Int)) := by
 rw [slotP_yes ⟨slotB_pre s a m, by rw [q39 _ _ _ hs, slotB_tail _ _ _ hs], by rw [q39 _ _ _ hs]; omega, by rw [slotB_half _ _ _ ha]; omega, by rw [q3r _ _ _ hm]; omega, by rw [q3r _ _ _ hm]; omega⟩, q39 _ _ _ hs, slotB_half _ _ _ ha, q3r _ _ _ hm]
end
def Clean (T : ByteArray) (s : Nat) : Prop := be T 4 8 = be T 504 8 ∧ be T 4 8 < (s : Int)
theorem clean_slotB (s a m s' : Nat) (hs : s < 4611686018427387904) (h : s < s') : Clean (slotB s a m) s' := ⟨by rw [q39 _ _ _ hs, slotB_tail _ _ _ hs], by rw [q39 _ _ _ hs]; omega⟩
theorem be_zero (T : ByteArray) (hz : ∀ i : Nat, bt T (i : Int) = 0) (p : Nat) : ∀ n : Nat, be T (p : Int) n = 0
 | 0 => rfl
 | n + 1 => by
  have := hz (p + n)
  rw [be, be_zero T hz p n, show (p : Int) + (n : Int) = ((p + n : Nat) : Int) by omega, this]
  rfl
theorem clean_zero (T : ByteArray) (hz : ∀ i : Nat, bt T (i : Int) = 0) (s : Nat) (h : 0 < s) : Clean T s := by
 have e4 := be_zero T hz 4 8
 have e5 := be_zero T hz 504 8
 simp only [show ((4 : Nat) : Int) = 4 from rfl, show ((504 : Nat) : Int) = 504 from rfl] at e4 e5
 exact ⟨by rw [e4, e5], by rw [e4]; omega⟩
theorem mix_left (A B : ByteArray) (n : Nat) (hA : A.size = 512) (hn : n ≤ 512) (p : Int) (k : Nat) (hp : 0 ≤ p) (h : p + k ≤ n) : be (A.extract 0 n ++ B.extract n 512) p k = be A p k := by
 refine q3w _ _ _ _ k fun i hi => ?_
 have hz := q1f A 0 n (by omega) (by omega)
 rw [bt_left _ _ _ (by rw [hz]; omega), q2c _ _ _ _ (by omega) (by omega) (by omega)]
 congr 1
 omega
theorem mix_right (A B : ByteArray) (n : Nat) (hA : A.size = 512) (hB : B.size = 512) (hn : n ≤ 512) (p : Int) (k : Nat) (hp : (n : Int) ≤ p) (h : p + k ≤ 512) : be (A.extract 0 n ++ B.extract n 512) p k = be B p k := by
 refine q3w _ _ _ _ k fun i hi => ?_
 have hz := q1f A 0 n (by omega) (by omega)
 rw [bt_right _ _ _ (by rw [hz]; omega), hz, q2c _ _ _ _ (by omega) (by omega) (by omega)]
 congr 1
 omega
theorem mix_bt (A B : ByteArray) (n : Nat) (hA : A.size = 512) (hB : B.size = 512) (hn : n ≤ 512) (i : Nat) (hi : i < 512) : bt (A.extract 0 n ++ B.extract n 512) (i : Int) = if i < n then bt A (i : Int) else bt B (i : Int) := by
 have hz := q1f A 0 n (by omega) (by omega)
 split
 ·rw [bt_left _ _ _ (by rw [hz]; omega), q2c _ _ _ _ (by omega) (by omega) (by omega)]
  congr 1
  omega
 ·rw [bt_right _ _ _ (by rw [hz]; omega), hz, q2c _ _ _ _ (by omega) (by omega) (by omega)]
  congr 1
  omega
theorem mix_size (A B : ByteArray) (n : Nat) (hA : A.size = 512) (hB : B.size = 512) (hn : n ≤ 512) : (A.extract 0 n ++ B.extract n 512).size = 512 := by
 rw [ByteArray.size_append, ByteArray.size_extract, ByteArray.size_extract, hA, hB]; omega
theorem slotB_bytes (s a m i : Nat) (hi : i < 12 ∨ (504 ≤ i ∧ i < 512)) : bt (slotB s a m) (i : Int) = bt (slotB s 0 0) (i : Int) := by
 have z4 : hgjc.size = 4 := rfl
 have key : ∀ a m, bt (slotB s a m) (i : Int) = if i < 12 then bt (hgjc ++ strOfNums (beB (s : Int) 8)) (i : Int) else bt (strOfNums (beB (s : Int) 8)) ((i : Int) - 504) := by
  intro a m
  unfold slotB
  rcases hi with hi | hi
  ·rw [if_pos hi, bt_left _ _ _ (by simp only [ByteArray.size_append, q19, z4]; omega), bt_left _ _ _ (by simp only [ByteArray.size_append, q19, z4]; omega), bt_left _ _ _ (by simp only [ByteArray.size_append, q19, z4]; omega)]
  ·rw [if_neg (by omega), bt_right _ _ _ (by simp only [ByteArray.size_append, q19, z4]; omega), bt_right _ _ _ (by simp only [ByteArray.size_append, q19, z4, q3d]; omega)]
   simp only [ByteArray.size_append, q19, z4, q3d]
   congr 1
   omega
 rw [key a m, key 0 0]
def Tame (T : ByteArray) (s : Nat) : Prop := T.size = 512 ∧ be T 504 8 ≠ ((s + 1 : Nat) : Int) ∧ ∃ t : ByteArray, ∃ k : Nat, Clean t s ∧ ∀ i : Nat, (i < 12 ∨ (504 ≤ i ∧ i < 512)) → bt T (i : Int) = if i < k then bt (slotB (s + 1) 0 0) (i : Int) else bt t (i : Int)
theorem Clean.tame {T : ByteArray} {s : Nat} (h : Clean T s) (hT : T.size = 512) : Tame T s := ⟨hT, by have := h.1; have := h.2; omega, T, 0, h, fun i _ => by rw [if_neg (by omega)]⟩
theorem Tame.lt {T : ByteArray} {s H : Nat} (h : Tame T s) (hs : 1 ≤ s) (hs2 : s + 1 < 4611686018427387904) : (slotP H T).1 < (s : Int) := by
 obtain ⟨_, hne, t, k, hc, hb⟩ := h
 unfold slotP
 split
 ·rename_i hx
  obtain ⟨_, h2, _⟩ := hx
  show be T 4 8 < _
  by_cases hk : k ≤ 12
  ·have e : be T 504 8 = be t 504 8 := q3w _ _ _ _ 8 fun i hi => by
    have := hb (504 + i) (by omega)
    rw [if_neg (by omega)] at this
    rw [show (504 : Int) + (i : Int) = ((504 + i : Nat) : Int) by omega]
    exact this
   rw [h2, e, ← hc.1]
   exact hc.2
  ·have e : be T 4 8 = be (slotB (s + 1) 0 0) 4 8 := q3w _ _ _ _ 8 fun i hi => by
    have := hb (4 + i) (by omega)
    rw [if_pos (by omega)] at this
    rw [show (4 : Int) + (i : Int) = ((4 + i : Nat) : Int) by omega]
    exact this
   rw [q39 _ _ _ hs2] at e
   exact absurd (h2.symm.trans e) hne
 ·show (0 : Int) < _
  omega
theorem tame_mix {H s a m n : Nat} {T : ByteArray} (hT : Tame T s) (hs : s + 1 < 4611686018427387904) (hn : n ≤ 512) :
  (slotP H ((slotB (s + 1) a m).extract 0 n ++ T.extract n 512) = slotP H (slotB (s + 1) a m) ∧ Clean ((slotB (s + 1) a m).extract 0 n ++ T.extract n 512) (s + 2)) ∨ Tame ((slotB (s + 1) a m).extract 0 n ++ T.extract n 512) s := by
 obtain ⟨hT5, hne, t, k, hc, hb⟩ := hT
 have hA := q32 (s + 1) a m
 have q1 := q39 (s + 1) a m hs
 have q2 := slotB_tail (s + 1) a m hs
 have q3 := slotB_pre (s + 1) a m
 have q4 := slotB_bytes (s + 1) a m
 generalize slotB (s + 1) a m = A at *
 have L := fun p k h1 h2 => mix_left A T n hA hn p k h1 h2
 have R := fun p k h1 h2 => mix_right A T n hA hT5 hn p k h1 h2
 have B := mix_bt A T n hA hT5 hn
 have Z := mix_size A T n hA hT5 hn
 by_cases hn1 : n ≤ 504
 rotate_left
 ·have hext : (A.extract 0 n ++ T.extract n 512).extract 0 4 = A.extract 0 4 := by
   refine text_ext (by rw [q1f _ _ _ (by omega) (by omega), q1f _ _ _ (by omega) (by omega)]) (fun i hi => ?_)
   rw [q1f _ _ _ (by omega) (by omega)] at hi
   rw [q2c _ _ _ _ (by omega) (by omega) (by omega), q2c _ _ _ _ (by omega) (by omega) (by omega), show ((0 : Nat) : Int) + (i : Int) = (i : Int) by omega, B i (by omega), if_pos (by omega)]
  have l4 := L 4 8 (by omega) (by omega)
  have l12 := L 12 4 (by omega) (by omega)
  have l16 := L 16 4 (by omega) (by omega)
  generalize A.extract 0 n ++ T.extract n 512 = M at *
  by_cases he : be M 504 8 = ((s + 1 : Nat) : Int)
  ·left
   constructor
   ·unfold slotP
    rw [hext, l4, l12, l16, he, q2]
   ·exact ⟨by rw [l4, q1, he], by rw [l4, q1]; omega⟩
  ·right
   refine ⟨Z, he, t, max k n, hc, fun i hi => ?_⟩
   rw [B i (by omega), hb i hi, q4 i hi]
   by_cases h1 : i < n
   ·rw [if_pos h1, if_pos (by omega)]
   ·rw [if_neg h1]
    by_cases h2 : i < k
    ·rw [if_pos h2, if_pos (by omega)]
    ·rw [if_neg h2, if_neg (by omega)]
 ·right
  have r504 := R 504 8 (by omega) (by omega)
  generalize A.extract 0 n ++ T.extract n 512 = M at *
  refine ⟨Z, by rw [r504]; exact hne, t, max k n, hc, fun i hi => ?_⟩
  rw [B i (by omega), hb i hi, q4 i hi]
  by_cases h1 : i < n
  ·rw [if_pos h1, if_pos (by omega)]
  ·rw [if_neg h1]
   by_cases h2 : i < k
   ·rw [if_pos h2, if_pos (by omega)]
   ·rw [if_neg h2, if_neg (by omega)]
end Go.Proofs.YtokdiacjcbolfaaDoor.F
namespace Go.Proofs.YtokdiacjcbolfaaDoor.F
open Go Go.RowKit Go.Proofs.YtokdiacjcbolfaaDoor.X
set_option linter.unusedVariables false
set_option linter.unusedSimpArgs false
abbrev Frs := List (Nat × ByteArray)
def secs : Frs → Nat
 | [] => 0
 | f :: r => sec f.2.size + secs r
def catF : Frs → ByteArray
 | [] => NB
 | f :: r => putB (f.1 : Int) f.2 ++ catF r
theorem catF_size : ∀ fs : Frs, (catF fs).size = secs fs * 512
 | [] => rfl
 | f :: r => by
  show (putB (f.1 : Int) f.2 ++ catF r).size = (sec f.2.size + secs r) * 512
  rw [ByteArray.size_append, q2p, catF_size r, Nat.add_mul]
theorem catF_append : ∀ (fs gs : Frs), catF (fs ++ gs) = catF fs ++ catF gs
 | [], gs => (app_nb _).symm
 | f :: r, gs => by
  show putB (f.1 : Int) f.2 ++ catF (r ++ gs) = (putB (f.1 : Int) f.2 ++ catF r) ++ catF gs
  rw [catF_append r gs, ByteArray.append_assoc]
theorem q33 : ∀ (fs gs : Frs), secs (fs ++ gs) = secs fs + secs gs
 | [], gs => (Nat.zero_add _).symm
 | f :: r, gs => by
  show sec f.2.size + secs (r ++ gs) = (sec f.2.size + secs r) + secs gs
  rw [q33 r gs, Nat.add_assoc]
theorem secs_length : ∀ fs : Frs, fs.length ≤ secs fs
 | [] => Nat.le_refl _
 | f :: r => by
  have := secs_length r
  show r.length + 1 ≤ sec f.2.size + secs r
  have : 1 ≤ sec f.2.size := by unfold sec; omega
  omega
theorem joinS_split (v : Nat → ByteArray) : ∀ (n at_ m : Nat), joinS v at_ (n + m) = joinS v at_ n ++ joinS v (at_ + n) m
 | 0, at_, m => by rw [Nat.zero_add]; exact (app_nb _).symm
 | n + 1, at_, m => by
  rw [show n + 1 + m = (n + m) + 1 by omega]
  show v at_ ++ joinS v (at_ + 1) (n + m) = (v at_ ++ joinS v (at_ + 1) n) ++ joinS v (at_ + (n + 1)) m
  rw [joinS_split v n (at_ + 1) m, ByteArray.append_assoc, show at_ + 1 + n = at_ + (n + 1) by omega]
theorem q2g {v w : Nat → ByteArray} : ∀ (n at_ : Nat), (∀ i, at_ ≤ i → i < at_ + n → v i = w i) → joinS v at_ n = joinS w at_ n
 | 0, _, _ => rfl
 | n + 1, at_, h => by
  show v at_ ++ joinS v (at_ + 1) n = w at_ ++ joinS w (at_ + 1) n
  rw [h at_ (Nat.le_refl _) (by omega), q2g n (at_ + 1) (fun i h1 h2 => h i (by omega) (by omega))]
theorem view_nil (c : Nat → ByteArray) : view c [] = c := by
 funext i
 unfold view
 exact if_pos (show q2q [] i = NB from rfl)
structure JS (fr H : Nat) (c : Nat → ByteArray) (s a : Nat) (fs : Frs) : Prop where
 s1 : 1 ≤ s
 s2 : s < 4000000000000000000
 a1 : a ≤ 1
 slot : slotP H (c (fr + s % 2)) = ((s : Int), (a : Int), (fs.length : Int))
 own : Clean (c (fr + s % 2)) (s + 1)
 other : Tame (c (fr + (s + 1) % 2)) s
 ne : fs ≠ []
 fit : secs fs ≤ H
 area : joinS c (fr + 4 + a * H) (secs fs) = catF fs
 small : ∀ f ∈ fs, f.1 < 4611686018427387904 ∧ f.2.size ≤ 65536
section
variable {N : Nat} {c : Nat → ByteArray} {D : q04} {fr H a s used : Nat} {base : ByteArray} {recs : List ByteArray}
theorem place_run (held unfit : Bool) (hH : H ≤ 8192) (hfr : fr ≤ 8192) (ha : a ≤ 1) (at_ : Nat) (hat : at_ ≤ 8192) : q0v.f (mkJ fr H a s base recs used held unfit) (a : Int) (at_ : Int) = some ((fr + 4 + a * H + at_ : Nat) : Int) := by
 unfold q0v.f mkJ
 simp only
 have haH : a * H ≤ H := by
  rcases (by omega : a = 0 ∨ a = 1) with rfl | rfl <;> omega
 have e1 : IntKind.wrap .i64 ((fr : Int) + 4) = ((fr + 4 : Nat) : Int) := by rw [wi (by omega) (by omega)]; omega
 have e2 : IntKind.wrap .i64 ((a : Int) * (H : Int)) = ((a * H : Nat) : Int) := by
  have : ((a * H : Nat) : Int) = (a : Int) * (H : Int) := by push_cast; rfl
  rw [← this, wi (by omega) (by omega)]
 rw [e1, e2, wi (n := ((fr + 4 : Nat) : Int) + ((a * H : Nat) : Int)) (by omega) (by omega), wi (by omega) (by omega)]
 congr 1
theorem open_end (K : Nat) (h : DRel N D c []) (hf : Fl D none) (hK : 1 ≤ K) :
  ∃ D', (q0j.f K (mkJ fr H a s base recs used false false) D).bind (fun t => if t.1 = 0 then some ((some t.2.1 : Option q00), (0 : Int), t.2.2) else some (none, t.1, t.2.2)) = some (some (mkJ fr H a s base recs used false false), 0, D') ∧ DRel N D' c [] ∧ Fl D' none := by
 obtain ⟨D', e1, e2, _⟩ := q3i (fr := fr) (H := H) (a := a) (s := s) (used := used) (base := base) (recs := recs) (held := false) K h hf (by simp) (by simp; omega)
 obtain ⟨k1, k2⟩ := e2 rfl
 rw [view_nil] at k1
 refine ⟨D', ?_, k1, k2⟩
 rw [e1]
 rfl
theorem frames_loop (K : Nat) (h : DRel N D c []) (hf : Fl D none) (m : Nat) (hK : 200040 ≤ K) (rest : ByteArray) : ∀ (fs : Frs) (fuel i : Nat) (recs : List ByteArray) (used : Nat) (base0 : ByteArray) (recs0 : List ByteArray) (used0 : Nat) (s0 : Nat), 1 ≤ i → i + fs.length = m → fs.length < fuel → m ≤ 100000 → recs.length ≤ i → used + secs fs ≤ 8192 → (catF fs ++ rest).size ≤ 200000 →
  (∀ f ∈ fs, f.1 < 4611686018427387904 ∧ f.2.size ≤ 65536) →
  ∃ D', q06.l1 K (s : Int) (m : Int) (mkJ fr H a s0 base0 recs0 used0 false false) D fuel (catF fs ++ rest) (i : Int) base recs (used : Int) = some (some (mkJ fr H a s base (recs ++ fs.map (·.2)) (used + secs fs) false false), 0, D') ∧ DRel N D' c [] ∧ Fl D' none
 | [], fuel + 1, i, recs, used, base0, recs0, used0, s0, hi, h1, h2, hm, hr, hu, hsz, hsm => by
  obtain ⟨D', e1, e2, e3⟩ := open_end (fr := fr) (H := H) (a := a) (s := s) (used := used) (base := base) (recs := recs) K h hf (by omega)
  refine ⟨D', ?_, e2, e3⟩
  show q06.b1 K (s : Int) (m : Int) (mkJ fr H a s0 base0 recs0 used0 false false) D (q06.l1 K (s : Int) (m : Int) (mkJ fr H a s0 base0 recs0 used0 false false) D fuel) _ (i : Int) base recs (used : Int) = _
  unfold q06.b1
  rw [if_neg (by simp at h1; omega), q2t, List.map_nil, List.append_nil]
  exact e1
 | f :: fs, fuel + 1, i, recs, used, base0, recs0, used0, s0, hi, h1, h2, hm, hr, hu, hsz, hsm => by
  obtain ⟨f1, f2⟩ := hsm f List.mem_cons_self
  have hlen : (f :: fs).length = fs.length + 1 := rfl
  have hsc : secs (f :: fs) = sec f.2.size + secs fs := rfl
  have ecat : catF (f :: fs) ++ rest = putB (f.1 : Int) f.2 ++ (catF fs ++ rest) := by
   show (putB (f.1 : Int) f.2 ++ catF fs) ++ rest = _
   rw [ByteArray.append_assoc]
  have hps := q2p (f.1 : Int) f.2
  rw [ecat] at hsz ⊢
  have hsz2 : (catF fs ++ rest).size ≤ 200000 := by rw [ByteArray.size_append] at hsz; omega
  obtain ⟨D', e1, e2, e3⟩ := frames_loop K h hf m hK rest fs fuel (i + 1) (recs ++ [f.2]) (used + sec f.2.size) base0 recs0 used0 s0 (by omega) (by omega) (by omega) hm (by simp; omega) (by omega) hsz2 (fun g hg => hsm g (List.mem_cons_of_mem _ hg))
  refine ⟨D', ?_, e2, e3⟩
  show q06.b1 K (s : Int) (m : Int) (mkJ fr H a s0 base0 recs0 used0 false false) D (q06.l1 K (s : Int) (m : Int) (mkJ fr H a s0 base0 recs0 used0 false false) D fuel) _ (i : Int) base recs (used : Int) = _
  unfold q06.b1
  rw [if_pos (by omega), q2k.is _ hsz K (by omega), outB_put (f.1 : Int) (by omega) (by omega) f.2 f2]
  simp only [Option.bind_some, if_true]
  rw [if_neg (by omega), q0i (by simp; omega)]
  unfold q06.j1
  simp only
  rw [q0i (by omega), q0i (by rw [ByteArray.size_append]; omega), wi (n := (i : Int) + 1) (by omega) (by omega), hps, tdiv512 _ _ rfl, wi (n := ((sec f.2.size : Nat) : Int)) (by omega) (by omega), wi (by omega) (by omega)]
  have hx : (putB (f.1 : Int) f.2 ++ (catF fs ++ rest)).extract (((sec f.2.size * 512 : Nat) : Int)).toNat (putB (f.1 : Int) f.2 ++ (catF fs ++ rest)).size = catF fs ++ rest := by
   refine ext_last _ _ _ _ (by rw [hps]; rfl) (by rw [ByteArray.size_append])
  rw [hx, show (i : Int) + 1 = ((i + 1 : Nat) : Int) by omega, show (used : Int) + ((sec f.2.size : Nat) : Int) = ((used + sec f.2.size : Nat) : Int) by omega, e1, List.map_cons, List.append_assoc, hsc, Nat.add_assoc]
  rfl
 | _, 0, i, recs, used, base0, recs0, used0, s0, hi, h1, h2, hm, hr, hu, hsz, hsm => by omega
theorem frames_run (K : Nat) (h : DRel N D c []) (hf : Fl D none) (hK : 200040 ≤ K) (rest : ByteArray) (f : Nat × ByteArray) (fs : Frs) (s0 : Nat) (hm : fs.length ≤ 10000) (hu : secs (f :: fs) ≤ 8192) (hsz : (catF (f :: fs) ++ rest).size ≤ 200000) (hsm : ∀ g ∈ f :: fs, g.1 < 4611686018427387904 ∧ g.2.size ≤ 65536) :
  ∃ D', q06.l1 K (s : Int) (((f :: fs).length : Nat) : Int) (mkJ fr H a s0 NB [] 0 false false) D K (catF (f :: fs) ++ rest) 0 NB [] 0 = some (some (mkJ fr H a s f.2 (fs.map (·.2)) (secs (f :: fs)) false false), 0, D') ∧ DRel N D' c [] ∧ Fl D' none := by
 obtain ⟨f1, f2⟩ := hsm f List.mem_cons_self
 obtain ⟨k, hk⟩ : ∃ k, K = k + 1 := ⟨K - 1, by omega⟩
 have hlen : (f :: fs).length = fs.length + 1 := rfl
 have hsc : secs (f :: fs) = sec f.2.size + secs fs := rfl
 have ecat : catF (f :: fs) ++ rest = putB (f.1 : Int) f.2 ++ (catF fs ++ rest) := by
  show (putB (f.1 : Int) f.2 ++ catF fs) ++ rest = _
  rw [ByteArray.append_assoc]
 have hps := q2p (f.1 : Int) f.2
 rw [ecat] at hsz ⊢
 have hsz2 : (catF fs ++ rest).size ≤ 200000 := by rw [ByteArray.size_append] at hsz; omega
 have hfuel : fs.length < k := by omega
 obtain ⟨D', e1, e2, e3⟩ := frames_loop (fr := fr) (H := H) (a := a) (s := s) (base := f.2) K h hf (fs.length + 1) hK rest fs k 1 [] (sec f.2.size) NB [] 0 s0 (by omega) (by omega) hfuel (by omega) (by simp) (by omega) hsz2 (fun g hg => hsm g (List.mem_cons_of_mem _ hg))
 refine ⟨D', ?_, e2, e3⟩
 have go : ∀ K', K' = k + 1 → q06.l1 K (s : Int) (((f :: fs).length : Nat) : Int) (mkJ fr H a s0 NB [] 0 false false) D K' (putB (f.1 : Int) f.2 ++ (catF fs ++ rest)) 0 NB [] 0 = q06.b1 K (s : Int) (((f :: fs).length : Nat) : Int) (mkJ fr H a s0 NB [] 0 false false) D (q06.l1 K (s : Int) (((f :: fs).length : Nat) : Int) (mkJ fr H a s0 NB [] 0 false false) D k) (putB (f.1 : Int) f.2 ++ (catF fs ++ rest)) 0 NB [] 0 := by
  rintro K' rfl
  rfl
 rw [go K hk]
 unfold q06.b1
 rw [if_pos (by omega), q2k.is _ hsz K (by omega), outB_put (f.1 : Int) (by omega) (by omega) f.2 f2]
 simp only [Option.bind_some, if_true]
 unfold q06.j1
 simp only
 rw [q0i (by omega), q0i (by rw [ByteArray.size_append]; omega), wi (n := (0 : Int) + 1) (by omega) (by omega), hps, tdiv512 _ _ rfl, wi (n := ((sec f.2.size : Nat) : Int)) (by omega) (by omega), wi (by omega) (by omega)]
 have hx : (putB (f.1 : Int) f.2 ++ (catF fs ++ rest)).extract (((sec f.2.size * 512 : Nat) : Int)).toNat (putB (f.1 : Int) f.2 ++ (catF fs ++ rest)).size = catF fs ++ rest := by
  refine ext_last _ _ _ _ (by rw [hps]; rfl) (by rw [ByteArray.size_append])
 rw [hx, show (0 : Int) + ((sec f.2.size : Nat) : Int) = ((sec f.2.size : Nat) : Int) by omega, hlen]
 exact e1
theorem open_run (K : Nat) (h : DRel N D c []) (hf : Fl D none) (S : Nat) {fs : Frs} {f : Nat × ByteArray} (h8 : 8 ≤ S) (hS : fr + S ≤ N) (hN : N ≤ 390) (hj : JS fr ((S - 4) / 2) c s a (f :: fs)) (hK : 200040 ≤ K) :
  ∃ D', q06.f K D (fr : Int) (S : Int) = some (some (mkJ fr ((S - 4) / 2) a s f.2 (fs.map (·.2)) (secs (f :: fs)) false false), 0, D') ∧ DRel N D' c [] ∧ Fl D' none := by
 have hs1 := hj.s1
 have hs2 := hj.s2
 have ha := hj.a1
 have hfit := hj.fit
 have hlen := secs_length (f :: fs)
 have hlen' : (f :: fs).length = fs.length + 1 := rfl
 have hsz := catF_size (f :: fs)
 have haH : a * ((S - 4) / 2) ≤ (S - 4) / 2 := by
  rcases (by omega : a = 0 ∨ a = 1) with e | e <;> rw [e] <;> omega
 have hT : joinS c (fr + 4 + a * ((S - 4) / 2)) ((S - 4) / 2) = catF (f :: fs) ++ joinS c (fr + 4 + a * ((S - 4) / 2) + secs (f :: fs)) ((S - 4) / 2 - secs (f :: fs)) := by
  have := joinS_split c (secs (f :: fs)) (fr + 4 + a * ((S - 4) / 2)) ((S - 4) / 2 - secs (f :: fs))
  rw [hj.area, show secs (f :: fs) + ((S - 4) / 2 - secs (f :: fs)) = (S - 4) / 2 by omega] at this
  exact this
 have hTs : (joinS c (fr + 4 + a * ((S - 4) / 2)) ((S - 4) / 2)).size ≤ 200000 := by
  rw [joinS_size _ _ (fun i h1 h2 => h.csize (by omega))]
  omega
 rw [hT] at hTs
 obtain ⟨D', e1, e2, e3⟩ := frames_run (fr := fr) (H := (S - 4) / 2) (a := a) (s := s) K h hf hK (joinS c (fr + 4 + a * ((S - 4) / 2) + secs (f :: fs)) ((S - 4) / 2 - secs (f :: fs))) f fs 0 (by omega) (by omega) hTs hj.small
 refine ⟨D', ?_, e2, e3⟩
 unfold q06.f
 rw [placed_run h fr S h8 hS]
 simp only [Option.bind_some, optc]
 have last : ∀ k : Nat, q06.b0 K (q06.l0 K k) (s : Int) (((f :: fs).length : Nat) : Int) 2 (mkJ fr ((S - 4) / 2) a 0 NB [] 0 false false) D = some (some (mkJ fr ((S - 4) / 2) a s f.2 (fs.map (·.2)) (secs (f :: fs)) false false), 0, D') := by
  intro k
  unfold q06.b0
  rw [if_neg (by omega), if_neg (by omega)]
  have hp := place_run (s := s) (base := NB) (recs := []) (used := 0) (fr := fr) (H := (S - 4) / 2) (a := a) false false (by omega) (by omega) ha 0 (by omega)
  have hp' : q0v.f (⟨(), (mkJ fr ((S - 4) / 2) a 0 NB [] 0 false false).f1, (mkJ fr ((S - 4) / 2) a 0 NB [] 0 false false).f2, (mkJ fr ((S - 4) / 2) a 0 NB [] 0 false false).f3, (⟨(), (), (s : Int)⟩ : q03), (mkJ fr ((S - 4) / 2) a 0 NB [] 0 false false).f5, (mkJ fr ((S - 4) / 2) a 0 NB [] 0 false false).f6, (mkJ fr ((S - 4) / 2) a 0 NB [] 0 false false).f7, (mkJ fr ((S - 4) / 2) a 0 NB [] 0 false false).f8, (mkJ fr ((S - 4) / 2) a 0 NB [] 0 false false).f9⟩ : q00) (mkJ fr ((S - 4) / 2) a 0 NB [] 0 false false).f3 0 = some ((fr + 4 + a * ((S - 4) / 2) : Nat) : Int) := hp
  rw [hp', q2t]
  simp only [Option.bind_some]
  have hr := read_run K h hf.1 (fr + 4 + a * ((S - 4) / 2)) ((S - 4) / 2) (by omega) (by omega)
  rw [view_nil, hT] at hr
  have hr' : q0n.f K D ((fr + 4 + a * ((S - 4) / 2) : Nat) : Int) (mkJ fr ((S - 4) / 2) a 0 NB [] 0 false false).f2 = some (catF (f :: fs) ++ joinS c (fr + 4 + a * ((S - 4) / 2) + secs (f :: fs)) ((S - 4) / 2 - secs (f :: fs)), 0) := hr
  rw [hr']
  simp only [Option.bind_some, if_true]
  exact e1
 have sl := fun (b : Nat) (i : Nat) (hi : i ≤ 1) => slot_run (fr := fr) (H := (S - 4) / 2) (a := b) (s := 0) (used := 0) (base := NB) (recs := []) (held := false) (unfit := false) K h hf.1 i (by omega) (by omega) (by omega)
 rw [view_nil] at sl
 have l2 : ∀ k seq frames J, 1 ≤ k → q06.l0 K k seq frames 2 J D = q06.b0 K (q06.l0 K (k - 1)) seq frames 2 J D := by
  intro k seq frames J hk
  obtain ⟨q, rfl⟩ : ∃ q, k = q + 1 := ⟨k - 1, by omega⟩
  rfl
 have second : ∀ (k : Nat) (q0 fr0 : Int) (b : Nat), 2 ≤ k → (s % 2 = 0 → q0 = (s : Int) ∧ fr0 = (((f :: fs).length : Nat) : Int) ∧ b = a) → (s % 2 = 1 → q0 < (s : Int)) → q06.l0 K k q0 fr0 1 (mkJ fr ((S - 4) / 2) b 0 NB [] 0 false false) D = some (some (mkJ fr ((S - 4) / 2) a s f.2 (fs.map (·.2)) (secs (f :: fs)) false false), 0, D') := by
  intro k q0 fr0 b hk h0 h1
  obtain ⟨q, rfl⟩ : ∃ q, k = q + 1 := ⟨k - 1, by omega⟩
  show q06.b0 K (q06.l0 K q) q0 fr0 1 (mkJ fr ((S - 4) / 2) b 0 NB [] 0 false false) D = _
  unfold q06.b0
  rw [if_pos (by omega), q2t, mkJ_eta]
  have := sl b 1 (by omega)
  rw [show (1 : Int) = ((1 : Nat) : Int) from rfl, this]
  simp only [Option.bind_some, if_true]
  rcases Nat.mod_two_eq_zero_or_one s with e | e
  ·obtain ⟨rfl, rfl, rfl⟩ := h0 e
   have hc := Tame.lt (H := (S - 4) / 2) hj.other hs1 (by omega)
   rw [show (s + 1) % 2 = 1 by omega] at hc
   rw [if_neg (by omega)]
   unfold q06.j0
   rw [if_neg (by simp), mkJ_eta, q2t, wi (by omega) (by omega), show ((1 : Nat) : Int) + 1 = 2 from rfl, l2 _ _ _ _ (by omega)]
   exact last _
  ·have hs := hj.slot
   rw [e] at hs
   rw [hs]
   simp only
   rw [if_pos (h1 e)]
   unfold q06.j0
   have ht : (Int.tmod (s : Int) 2 == ((1 : Nat) : Int)) = true := by
    rw [Int.tmod_eq_emod_of_nonneg (by omega)]
    simp
    omega
   rw [ht, if_pos rfl, q2t, wi (by omega) (by omega), show ((1 : Nat) : Int) + 1 = 2 from rfl, l2 _ _ _ _ (by omega)]
   exact last _
 obtain ⟨k, hk⟩ : ∃ k, K = k + 1 := ⟨K - 1, by omega⟩
 have go : ∀ K', K' = k + 1 → q06.l0 K K' 0 0 0 (mkJ fr ((S - 4) / 2) 0 0 NB [] 0 false false) D = q06.b0 K (q06.l0 K k) 0 0 0 (mkJ fr ((S - 4) / 2) 0 0 NB [] 0 false false) D := by
  rintro K' rfl
  rfl
 rw [go K hk]
 unfold q06.b0
 rw [if_pos (by omega), q2t, mkJ_eta]
 have := sl 0 0 (by omega)
 rw [show (0 : Int) = ((0 : Nat) : Int) from rfl, this]
 simp only [Option.bind_some]
 rw [if_pos (by rfl)]
 rcases Nat.mod_two_eq_zero_or_one s with e | e
 ·have hs := hj.slot
  rw [e] at hs
  rw [hs]
  simp only
  rw [if_pos (by omega)]
  unfold q06.j0
  have ht : (Int.tmod (s : Int) 2 == ((0 : Nat) : Int)) = true := by
   rw [Int.tmod_eq_emod_of_nonneg (by omega)]
   simp
   omega
  rw [ht, if_pos rfl, q2t, wi (by omega) (by omega)]
  exact second k (s : Int) (((f :: fs).length : Nat) : Int) a (by omega) (fun _ => ⟨rfl, rfl, rfl⟩) (fun hx => by omega)
 ·have hc := Tame.lt (H := (S - 4) / 2) hj.other hs1 (by omega)
  rw [show (s + 1) % 2 = 0 by omega] at hc
  have hlo : 0 ≤ (slotP ((S - 4) / 2) (c (fr + 0))).2.1 := by
   unfold slotP
   have := be_lo (c (fr + 0)) 12 4
   split
   ·exact this
   ·exact Int.le_refl _
  generalize slotP ((S - 4) / 2) (c (fr + 0)) = P at *
  obtain ⟨b, hb⟩ := Int.eq_ofNat_of_zero_le hlo
  have j0f : q06.j0 K (q06.l0 K k) ((0 : Nat) : Int) ((0 : Nat) : Int) ((0 : Nat) : Int) (mkJ fr ((S - 4) / 2) 0 0 NB [] 0 false false) D (P.1, P.2.1, P.2.2, 0) false = some (some (mkJ fr ((S - 4) / 2) a s f.2 (fs.map (·.2)) (secs (f :: fs)) false false), 0, D') := by
   unfold q06.j0
   rw [if_neg (by simp), mkJ_eta, q2t, wi (by omega) (by omega)]
   exact second k 0 0 0 (by omega) (fun hx => by omega) (fun _ => by omega)
  split
  ·unfold q06.j0
   split
   ·rw [q2t, wi (by omega) (by omega), hb]
    exact second k P.1 P.2.2 b (by omega) (fun hx => by omega) (fun _ => hc)
   ·have := j0f
    unfold q06.j0 at this
    rw [if_neg (by simp)] at this
    exact this
  ·exact j0f
end
end Go.Proofs.YtokdiacjcbolfaaDoor.F
namespace Go.Proofs.YtokdiacjcbolfaaDoor.F
open Go Go.RowKit Go.Proofs.YtokdiacjcbolfaaDoor.X
set_option linter.unusedVariables false
set_option linter.unusedSimpArgs false
def lastFrom (o : ByteArray) (hs : Held) (i : Nat) : ByteArray := hs.foldl (fun o h => if h.1 = i then h.2 else o) o
theorem q3n : ∀ (hs : Held) (o : ByteArray) (i : Nat), (∀ h ∈ hs, h.2.size = 512) → lastFrom o hs i = if q2q hs i = NB then o else q2q hs i
 | [], o, i, _ => by rw [show q2q [] i = NB from rfl, if_pos rfl]; rfl
 | h :: r, o, i, hk => by
  have hr := fun x hx => hk x (List.mem_cons_of_mem _ hx)
  have h5 := NB_ne (hk h List.mem_cons_self)
  show lastFrom (if h.1 = i then h.2 else o) r i = if lastFrom (if h.1 = i then h.2 else NB) r i = NB then o else lastFrom (if h.1 = i then h.2 else NB) r i
  rw [q3n r _ i hr, q3n r (if h.1 = i then h.2 else NB) i hr]
  by_cases e : h.1 = i
  ·simp only [e, if_true]
   by_cases z : q2q r i = NB
   ·simp only [z, if_true, h5, if_false]
   ·simp only [z, if_false]
  ·simp only [e, if_false]
   by_cases z : q2q r i = NB
   ·simp only [z, if_true]
   ·simp only [z, if_false]
theorem lastOf_append (hs ks : Held) (i : Nat) (hk : ∀ h ∈ ks, h.2.size = 512) : q2q (hs ++ ks) i = if q2q ks i = NB then q2q hs i else q2q ks i := by
 show List.foldl _ _ _ = _
 rw [List.foldl_append]
 exact q3n ks (q2q hs i) i hk
theorem view_append (c : Nat → ByteArray) (hs ks : Held) (i : Nat) (hk : ∀ h ∈ ks, h.2.size = 512) : view c (hs ++ ks) i = view (view c hs) ks i := by
 unfold view
 rw [lastOf_append hs ks i hk]
 by_cases z : q2q ks i = NB
 ·simp only [z, if_true]
 ·simp only [z, if_false]
set_option maxRecDepth 20000 in
theorem q2h (data : ByteArray) (P : Nat) (r : Nat) : ∀ (j : Nat), (j + r) * 512 ≤ data.size → ∀ h ∈ q2i data P j r, h.2.size = 512 ∧ P + j ≤ h.1 ∧ h.1 < P + j + r := by
 induction r with
 | zero => intro j _ h hh; cases hh
 | succ r ih =>
  intro j hz h hh
  rcases List.mem_cons.mp hh with rfl | hh
  ·exact ⟨q3j data j (by omega), by omega, by show P + j < _; omega⟩
  ·obtain ⟨a, b, c⟩ := ih (j + 1) (by omega) h hh
   exact ⟨a, by omega, by omega⟩
theorem lastOf_none {hs : Held} {i : Nat} (h : ∀ x ∈ hs, x.1 ≠ i) (hk : ∀ x ∈ hs, x.2.size = 512) : q2q hs i = NB := by
 rcases q3h hs i hk with ⟨⟨x, hx, e⟩, _⟩ | ⟨_, e⟩
 ·exact absurd e (h x hx)
 ·exact e
set_option maxRecDepth 20000 in
theorem lastOf_chunks (data : ByteArray) (P : Nat) (r : Nat) : ∀ (j : Nat), (j + r) * 512 ≤ data.size → ∀ i, P + j ≤ i → i < P + j + r → q2q (q2i data P j r) i = chunk data (i - P) := by
 induction r with
 | zero => intro j hz i h1 h2; omega
 | succ r ih =>
  intro j hz i h1 h2
  have hsz := fun x hx => (q2h data P r (j + 1) (by omega) x hx).1
  show lastFrom (if P + j = i then chunk data j else NB) (q2i data P (j + 1) r) i = _
  rw [q3n _ _ _ hsz]
  by_cases e : P + j = i
  ·rw [lastOf_none (fun x hx => by have := (q2h data P r (j + 1) (by omega) x hx).2.1; omega) hsz, if_pos rfl, if_pos e]
   congr 1; omega
  ·rw [ih (j + 1) (by omega) i (by omega) (by omega), if_neg (NB_ne (q3j data (i - P) (by
    have : (i - P + 1) * 512 ≤ (j + (r + 1)) * 512 := Nat.mul_le_mul_right _ (by omega)
    omega)))]
set_option maxRecDepth 20000 in
theorem q3l {data : ByteArray} {P n : Nat} (hz : n * 512 ≤ data.size) (v : Nat → ByteArray) (i : Nat) : view v (q2i data P 0 n) i = if P ≤ i ∧ i < P + n then chunk data (i - P) else v i := by
 unfold view
 have hsz := fun x hx => (q2h data P n 0 (by omega) x hx).1
 by_cases h : P ≤ i ∧ i < P + n
 ·rw [if_pos h, lastOf_chunks data P n 0 (by omega) i (by omega) (by omega), if_neg (NB_ne (q3j data (i - P) (by
   have : (i - P + 1) * 512 ≤ n * 512 := Nat.mul_le_mul_right _ (by omega)
   omega)))]
 ·rw [if_neg h, lastOf_none (fun x hx => by have := (q2h data P n 0 (by omega) x hx).2; omega) hsz, if_pos rfl]
set_option maxRecDepth 20000 in
theorem joinS_chunks (data : ByteArray) (w : Nat → ByteArray) (P : Nat) (r : Nat) : ∀ (j : Nat), (j + r) * 512 ≤ data.size → (∀ i, P + j ≤ i → i < P + j + r → w i = chunk data (i - P)) → joinS w (P + j) r = data.extract (j * 512) ((j + r) * 512) := by
 induction r with
 | zero =>
  intro j hz h
  show NB = _
  rw [Nat.add_zero]
  exact ((size0 _).mpr (by rw [ByteArray.size_extract]; omega)).symm
 | succ r ih =>
  intro j hz h
  show w (P + j) ++ joinS w (P + j + 1) r = _
  rw [h (P + j) (Nat.le_refl _) (by omega), show P + j + 1 = P + (j + 1) by omega, ih (j + 1) (by omega) (fun i h1 h2 => h i (by omega) (by omega)), show P + j - P = j by omega]
  unfold chunk
  rw [ByteArray.extract_append_extract, Nat.min_eq_left (by omega), Nat.max_eq_right (by omega)]
  congr 1
  omega
set_option maxRecDepth 20000 in
theorem joinS_over {data : ByteArray} {P n : Nat} (hz : data.size = n * 512) (v : Nat → ByteArray) : joinS (view v (q2i data P 0 n)) P n = data := by
 have := joinS_chunks data (view v (q2i data P 0 n)) P n 0 (by omega) (fun i h1 h2 => by rw [q3l (by omega), if_pos (by omega)])
 rw [Nat.add_zero] at this
 rw [this, Nat.zero_mul, Nat.zero_add, ← hz]
 exact ByteArray.extract_zero_size
theorem view_one (c : Nat → ByteArray) (q : Nat) (x : ByteArray) (hx : x.size = 512) (i : Nat) : view c [(q, x)] i = if q = i then x else c i := by
 unfold view
 show (if (if q = i then x else NB) = NB then c i else (if q = i then x else NB)) = _
 by_cases e : q = i
 ·simp only [e, if_true]; rw [if_neg (NB_ne hx)]
 ·simp only [e, if_false]; simp
theorem JS.congr {fr H s a : Nat} {fs : Frs} {v w : Nat → ByteArray} (h : JS fr H v s a fs) (h0 : w fr = v fr) (h1 : w (fr + 1) = v (fr + 1)) (ha : ∀ i, fr + 4 + a * H ≤ i → i < fr + 4 + a * H + secs fs → w i = v i) : JS fr H w s a fs := by
 have e : ∀ n, w (fr + n % 2) = v (fr + n % 2) := fun n => by
  rcases Nat.mod_two_eq_zero_or_one n with e | e <;> rw [e]
  ·exact h0
  ·exact h1
 exact ⟨h.s1, h.s2, h.a1, by rw [e]; exact h.slot, by rw [e]; exact h.own, by rw [e]; exact h.other, h.ne, h.fit, by rw [q2g _ _ ha]; exact h.area, h.small⟩
theorem JS.next {fr H s a a' at_ m : Nat} {fs fs' : Frs} {v : Nat → ByteArray} {text : ByteArray} (h : JS fr H v s a fs) (ht : text.size ≤ 65536) (ha' : a' ≤ 1) (hs : s + 1 < 4000000000000000000) (hv5 : ∀ i, i < fr + 2 → (v i).size = 512) (hm : m = fs'.length) (hm2 : m ≤ H) (hH : H ≤ 1000000)
  (hk : (a' = a ∧ at_ = secs fs ∧ fs' = fs ++ [(s + 1, text)]) ∨ (a' = 1 - a ∧ at_ = 0 ∧ fs' = [(s + 1, text)])) (hfit : at_ + sec text.size ≤ H) :
  JS fr H (view v (q2i (putB ((s + 1 : Nat) : Int) text) (fr + 4 + a' * H + at_) 0 (sec text.size))) s a fs ∧
  JS fr H (view (view v (q2i (putB ((s + 1 : Nat) : Int) text) (fr + 4 + a' * H + at_) 0 (sec text.size))) [(fr + (s + 1) % 2, slotB (s + 1) a' m)]) (s + 1) a' fs' := by
 have hp := q2p ((s + 1 : Nat) : Int) text
 have hv := fun i => q3l (data := putB ((s + 1 : Nat) : Int) text) (P := fr + 4 + a' * H + at_) (n := sec text.size) (by omega) v i
 have hj := joinS_over (P := fr + 4 + a' * H + at_) hp v
 generalize hc : view v (q2i (putB ((s + 1 : Nat) : Int) text) (fr + 4 + a' * H + at_) 0 (sec text.size)) = c' at *
 have hw := view_one c' (fr + (s + 1) % 2) (slotB (s + 1) a' m) (q32 _ _ _)
 generalize hcw : view c' [(fr + (s + 1) % 2, slotB (s + 1) a' m)] = w at *
 have hfit0 := h.fit
 have h0 := h.a1
 have old : JS fr H c' s a fs := h.congr (by rw [hv, if_neg (by omega)]) (by rw [hv, if_neg (by omega)]) (fun i h1 h2 => by
  rw [hv, if_neg ?_]
  rcases hk with ⟨rfl, rfl, _⟩ | ⟨rfl, rfl, _⟩
  ·omega
  ·rcases (by omega : a = 0 ∨ a = 1) with rfl | rfl
   ·omega
   ·simp only [Nat.sub_self, Nat.zero_mul, Nat.one_mul] at *
    omega)
 refine ⟨old, ⟨by omega, hs, ha', ?_, ?_, ?_, ?_, ?_, ?_, ?_⟩⟩
 ·rw [hw, if_pos rfl, slotP_slotB _ _ _ (by omega) ha' (by omega) (by rcases hk with ⟨_, _, e⟩ | ⟨_, _, e⟩ <;> subst e <;> simp at hm <;> omega) hm2, hm]
 ·rw [hw, if_pos rfl]
  exact clean_slotB _ _ _ _ (by omega) (by omega)
 ·rw [hw, if_neg (by omega), show (s + 1 + 1) % 2 = s % 2 by omega]
  exact old.own.tame (by rw [hv, if_neg (by omega)]; exact hv5 _ (by omega))
 ·rcases hk with ⟨_, _, e⟩ | ⟨_, _, e⟩ <;> subst e <;> simp
 ·rcases hk with ⟨_, e2, e⟩ | ⟨_, e2, e⟩ <;> subst e
  ·rw [q33]; show secs fs + (sec text.size + 0) ≤ H; omega
  ·show sec text.size + 0 ≤ H; omega
 ·have hcw' : ∀ n at_, fr + 4 ≤ at_ → joinS w at_ n = joinS c' at_ n := fun n at_ hat => q2g _ _ (fun i h1 h2 => by rw [hw, if_neg (by omega)])
  rcases hk with ⟨rfl, rfl, e⟩ | ⟨rfl, rfl, e⟩ <;> subst e
  ·rw [hcw' _ _ (by omega), q33, joinS_split, old.area, catF_append]
   congr 1
   show joinS c' (fr + 4 + a' * H + secs fs) (sec text.size + 0) = putB ((s + 1 : Nat) : Int) text ++ NB
   rw [nb_app]
   exact hj
  ·rw [hcw' _ _ (by omega)]
   show joinS c' (fr + 4 + (1 - a) * H) (sec text.size + 0) = putB ((s + 1 : Nat) : Int) text ++ NB
   rw [nb_app]
   exact hj
 ·intro f hf
  rcases hk with ⟨_, _, e⟩ | ⟨_, _, e⟩ <;> subst e
  ·rcases List.mem_append.mp hf with hf | hf
   ·exact h.small f hf
   ·rw [List.mem_singleton.mp hf]; exact ⟨by show s + 1 < _; omega, ht⟩
  ·rw [List.mem_singleton.mp hf]; exact ⟨by show s + 1 < _; omega, ht⟩
def Live (N fr H : Nat) (lf : Option Nat) (D : q04) (s a : Nat) (fs : Frs) : Option (Nat × Frs) → Prop
 | none => ∃ c, DRel N D c [] ∧ Fl D lf ∧ JS fr H c s a fs
 | some p => ∃ c, DRel N D c [(fr + s % 2, slotB s a fs.length)] ∧ Fl D lf ∧ 2 ≤ s ∧ JS fr H c (s - 1) p.1 p.2 ∧ JS fr H (view c [(fr + s % 2, slotB s a fs.length)]) s a fs
section
variable {N fr H a s used : Nat} {D : q04} {base : ByteArray} {recs : List ByteArray} {fs : Frs} {lf : Option Nat} {prev : Option (Nat × Frs)}
theorem Live.now (h : Live N fr H lf D s a fs prev) : ∃ c hs, DRel N D c hs ∧ Fl D lf ∧ hs.length ≤ 1 ∧ JS fr H (view c hs) s a fs := by
 cases prev with
 | none => obtain ⟨c, h1, h2, h3⟩ := h; exact ⟨c, [], h1, h2, by simp, by rw [view_nil]; exact h3⟩
 | some p => obtain ⟨c, h1, h2, _, _, h3⟩ := h; exact ⟨c, _, h1, h2, by simp, h3⟩
theorem append_live (K : Nat) (h : Live N fr H none D s a fs prev) (held : Bool) (text : ByteArray) (ht : text.size ≤ 65536) (hu : secs fs + sec text.size ≤ H) (hN : fr + 4 + 2 * H ≤ N) (hs1 : s + 1 < 4000000000000000000) (hr : recs.length + 1 = fs.length) (hK : 600000 ≤ K) :
  ∃ D', q12.f K (mkJ fr H a s base recs (secs fs) held false) D text = some (0, mkJ fr H a (s + 1) base (recs ++ [text]) (secs (fs ++ [(s + 1, text)])) true false, D') ∧ Live N fr H none D' (s + 1) a (fs ++ [(s + 1, text)]) (some (a, fs)) := by
 obtain ⟨c, hs, h1, h2, h3, h4⟩ := h.now
 have hN2 := h1.n2
 have hfl := secs_length fs
 have hsec : 1 ≤ sec text.size := by unfold sec; omega
 obtain ⟨D', e1, e2, e3⟩ := append_calm (fr := fr) (H := H) (a := a) (s := s) (used := secs fs) (base := base) (recs := recs) (held := held) K h1 h2 text ht h4.a1 hu hN (by omega) (by omega) (by omega) hK
 have es : secs (fs ++ [(s + 1, text)]) = secs fs + sec text.size := by rw [q33]; rfl
 refine ⟨D', by rw [es]; exact e1, ?_⟩
 have hlen : recs.length + 2 = (fs ++ [(s + 1, text)]).length := by simp; omega
 obtain ⟨n1, n2⟩ := h4.next ht h4.a1 hs1 (fun i hi => h1.vsize (by omega)) hlen (by omega) (by omega) (.inl ⟨rfl, rfl, rfl⟩) hu
 have hsz := fun x hx => (q2h (putB ((s + 1 : Nat) : Int) text) (fr + 4 + a * H + secs fs) (sec text.size) 0 (by rw [q2p]; omega) x hx).1
 have hv : view c (hs ++ q2i (putB ((s + 1 : Nat) : Int) text) (fr + 4 + a * H + secs fs) 0 (sec text.size)) = view (view c hs) (q2i (putB ((s + 1 : Nat) : Int) text) (fr + 4 + a * H + secs fs) 0 (sec text.size)) := funext fun i => view_append c hs _ i hsz
 rw [hv, hlen] at e2
 rw [hlen] at n2
 exact ⟨_, e2, e3, by have := h4.s1; omega, n1, n2⟩
theorem sync_live (K : Nat) (h : Live N fr H none D s a fs prev) (held : Bool) (hK : 600000 ≤ K) :
  ∃ D', q10.f K (mkJ fr H a s base recs used held false) D = some (0, mkJ fr H a s base recs used false false, D') ∧ Live N fr H none D' s a fs none := by
 obtain ⟨c, hs, h1, h2, h3, h4⟩ := h.now
 obtain ⟨D', e1, e2, _⟩ := sync_run (fr := fr) (H := H) (a := a) (s := s) (used := used) (base := base) (recs := recs) (held := held) K h1 h2 (by omega) (by omega)
 obtain ⟨k1, k2⟩ := e2 rfl
 refine ⟨D', ?_, _, k1, k2, h4⟩
 rw [e1]
 cases held <;> rfl
theorem torn_view {c : Nat → ByteArray} {q : Nat} {x : ByteArray} {keep : List Int} : torn c keep [(q, x)] 0 = q3p c (q, x) (keepN keep 0) := rfl
theorem crash_held {c : Nat → ByteArray} {a' : Nat} {fs' : Frs} (h : DRel N D c [(fr + s % 2, slotB s a fs.length)]) (hs : 2 ≤ s) (h1 : JS fr H c (s - 1) a' fs') (h2 : JS fr H (view c [(fr + s % 2, slotB s a fs.length)]) s a fs) (hH : fr + 4 + 2 * H ≤ N) (keep : List Int) :
  JS fr H (torn c keep [(fr + s % 2, slotB s a fs.length)] 0) s a fs ∨ JS fr H (torn c keep [(fr + s % 2, slotB s a fs.length)] 0) (s - 1) a' fs' := by
 have hn := keepN_le keep 0
 have hother := h1.other
 rw [show (s - 1 + 1) % 2 = s % 2 by omega] at hother
 have h2s := h2.s2
 have tq : torn c keep [(fr + s % 2, slotB s a fs.length)] 0 (fr + s % 2) = (slotB s a fs.length).extract 0 (keepN keep 0) ++ (c (fr + s % 2)).extract (keepN keep 0) 512 := by
  rw [torn_view]; unfold q3p; rw [if_pos rfl]
 have tto : ∀ i, i ≠ fr + s % 2 → torn c keep [(fr + s % 2, slotB s a fs.length)] 0 i = c i := fun i hi => by
  rw [torn_view]; unfold q3p; rw [if_neg (fun e => hi e.symm)]
 have hvq := view_one c (fr + s % 2) (slotB s a fs.length) (q32 _ _ _)
 have hsl := h2.slot
 rw [hvq, if_pos rfl] at hsl
 have T := tame_mix (H := H) (s := s - 1) (a := a) (m := fs.length) (n := keepN keep 0) hother (by omega) hn
 rw [show s - 1 + 1 = s by omega, show s - 1 + 2 = s + 1 by omega, ← tq] at T
 generalize torn c keep [(fr + s % 2, slotB s a fs.length)] 0 = w at *
 rcases T with ⟨T, T2⟩ | T
 ·left
  refine ⟨h2.s1, h2s, h2.a1, by rw [T, hsl], T2, ?_, h2.ne, h2.fit, ?_, h2.small⟩
  ·have := h2.other
   rw [hvq, if_neg (by omega)] at this
   rw [tto _ (by omega)]
   exact this
  ·have := h2.area
   rw [q2g (w := c) _ _ (fun i h1 h2 => by rw [hvq, if_neg (by omega)])] at this
   rw [q2g (w := c) _ _ (fun i h1 h2 => tto i (by omega))]
   exact this
 ·right
  refine ⟨h1.s1, h1.s2, h1.a1, by rw [tto _ (by omega)]; exact h1.slot, by rw [tto _ (by omega)]; exact h1.own, by rw [show (s - 1 + 1) % 2 = s % 2 by omega]; exact T, h1.ne, h1.fit, ?_, h1.small⟩
  rw [q2g (w := c) _ _ (fun i h1 h2 => tto i (by omega))]
  exact h1.area
theorem open_live (K : Nat) {S : Nat} {f : Nat × ByteArray} (h : Live N fr ((S - 4) / 2) none D s a (f :: fs) none) (h8 : 8 ≤ S) (hS : fr + S ≤ N) (hN : N ≤ 390) (hK : 200040 ≤ K) :
  ∃ D', q06.f K D (fr : Int) (S : Int) = some (some (mkJ fr ((S - 4) / 2) a s f.2 (fs.map (·.2)) (secs (f :: fs)) false false), 0, D') ∧ Live N fr ((S - 4) / 2) none D' s a (f :: fs) none := by
 obtain ⟨c, h1, h2, h3⟩ := h
 obtain ⟨D', e1, e2, e3⟩ := open_run K h1 h2 S h8 hS hN h3 hK
 exact ⟨D', e1, c, e2, e3, h3⟩
theorem bt_ZN (n i : Nat) : bt (ZN n) (i : Int) = 0 := by
 unfold bt ZN
 have : ∀ n, (Lib.repeatL (⟨#[0]⟩ : ByteArray).data.toList n) = List.replicate n 0 := by
  intro n
  induction n with
  | zero => rfl
  | succ n ih => rw [List.replicate_succ, ← ih]; rfl
 rw [this, Int.toNat_natCast, List.getD_eq_getElem?_getD]
 show ((((List.replicate n (0 : UInt8)).toArray.toList)[i]?).getD 0).toNat = (0 : Int)
 rw [List.toList_toArray, List.getElem?_replicate]
 split <;> rfl
theorem bt_extract_zero (n p q i : Nat) (h : ∀ j : Nat, bt (ZN n) (j : Int) = 0) (hp : p ≤ q) (hq : q ≤ n) : bt ((ZN n).extract p q) (i : Int) = 0 := by
 by_cases hi : p + i < q
 ·rw [q2c _ _ _ _ (by omega) (by omega) (by rw [q3d]; omega), show (p : Int) + (i : Int) = ((p + i : Nat) : Int) by omega]
  exact h _
 ·exact bt_beyond _ _ (by rw [q1f _ _ _ hp (by rw [q3d]; omega)]; omega)
theorem format_live (K : Nat) {c : Nat → ByteArray} (h : DRel N D c []) (hf : Fl D none) (fr S : Nat) (h8 : 8 ≤ S) (hS : fr + S ≤ N) (base : ByteArray) (hb : base.size ≤ 65536) (hbH : sec base.size ≤ (S - 4) / 2) (hK : 600000 ≤ K) :
  ∃ D', q1i.f K D (fr : Int) (S : Int) base = some (some (mkJ fr ((S - 4) / 2) 0 1 base [] (secs [(1, base)]) false false), 0, D') ∧ Live N fr ((S - 4) / 2) none D' 1 0 [(1, base)] none := by
 obtain ⟨D', e1, e2, e3⟩ := format_run K h hf fr S h8 hS base hb hbH hK
 have hN2 := h.n2
 have hsec : 1 ≤ sec base.size := by unfold sec; omega
 refine ⟨D', e1, _, e2, e3, ?_⟩
 have hp := q2p ((1 : Nat) : Int) base
 have hz := fun i => q3l (data := ZN 1024) (P := fr) (n := 2) (by rw [q3d]; omega) c i
 have hc0 : view c (zeros2 fr) = view c (q2i (ZN 1024) fr 0 2) := rfl
 rw [hc0]
 generalize view c (q2i (ZN 1024) fr 0 2) = c0 at *
 have hv := fun i => q3l (data := putB ((1 : Nat) : Int) base) (P := fr + 4 + 0 * ((S - 4) / 2) + 0) (n := sec base.size) (by omega) c0 i
 have hj := joinS_over (P := fr + 4 + 0 * ((S - 4) / 2) + 0) hp c0
 generalize view c0 (q2i (putB ((1 : Nat) : Int) base) (fr + 4 + 0 * ((S - 4) / 2) + 0) 0 (sec base.size)) = c1 at *
 have hw := view_one c1 (fr + 1 % 2) (slotB 1 0 1) (q32 _ _ _)
 generalize view c1 [(fr + 1 % 2, slotB 1 0 1)] = w at *
 have hfr : w (fr + (1 + 1) % 2) = chunk (ZN 1024) 0 := by
  rw [hw, if_neg (by omega), hv, if_neg (by omega), hz, if_pos (by omega)]
  congr 1
  omega
 refine ⟨by omega, by omega, by omega, ?_, ?_, ?_, by simp, by show sec base.size + 0 ≤ _; omega, ?_, ?_⟩
 ·rw [hw, if_pos rfl]
  exact slotP_slotB 1 0 1 (by omega) (by omega) (by omega) (by omega) (by omega)
 ·rw [hw, if_pos rfl]
  exact clean_slotB _ _ _ _ (by omega) (by omega)
 ·rw [hfr]
  refine (clean_zero _ (fun i => ?_) 1 (by omega)).tame (q3j _ _ (by rw [q3d]; omega))
  exact bt_extract_zero 1024 0 512 i (bt_ZN 1024) (by omega) (by omega)
 ·show joinS w (fr + 4 + 0 * ((S - 4) / 2)) (sec base.size + 0) = putB ((1 : Nat) : Int) base ++ NB
  rw [nb_app, q2g (w := c1) _ _ (fun i h1 h2 => by rw [hw, if_neg (by omega)])]
  exact hj
 ·intro f hf
  rw [List.mem_singleton.mp hf]
  exact ⟨by show (1 : Nat) < _; omega, hb⟩
end
end Go.Proofs.YtokdiacjcbolfaaDoor.F
