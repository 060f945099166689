/- The plain law of headgatelaw18.ProutReads: whatever the input, it is true. No condition. -/
import Derived.Test.YtpjcipadjegmlaaDoorUPutB
import Derived.KernelRfl
import Derived.Test.YtpjcipadjegmlaaDoorF9
import Derived.Test.YtpjcipadjegmlaaDoorF13
import Derived.Test.YtpjcipadjegmlaaDoorF9
import Derived.Test.YtpjcipadjegmlaaDoorF27
import Derived.Test.YtpjcipadjegmlaaDoorF48
import Derived.Test.YtpjcipadjegmlaaDoorF27
import Derived.Test.YtpjcipadjegmlaaDoorF3
namespace Go.Proofs.YtpjcipadjegmlaaDoor.F
open Go Go.RowKit Go.Proofs.YtpjcipadjegmlaaDoor.X
set_option linter.unusedVariables false
set_option linter.unusedSimpArgs false
theorem rdL_nth {α : Type} (d : α) (xs : List α) (i : Nat) (h : i < xs.length) : rdL d xs (i : Int) = xs[i] := by
  unfold rdL
  rw [List.getD_eq_getElem?_getD, Int.toNat_natCast, List.getElem?_eq_getElem h]; rfl
theorem wu64 {v : Int} (h0 : 0 ≤ v) (h1 : v < 18446744073709551616) : IntKind.wrap .u64 v = v := by rw [wrapu64]; omega
theorem wakes18 : headgatelaw18_wakes.f 300 = some true := by kernel_rfl
theorem large_loop (t : T_api_Table) (hl : t.f0.length ≤ 1000000) : ∀ (m K j : Nat), m ≤ t.f0.length → ∃ b, headgatelaw10_Large.l0 K t (m + 1 + j) ((t.f0.length : Int) - m) = some b := by
  intro m
  induction m with
  | zero =>
    intro K j hm
    rw [show 0 + 1 + j = j + 1 by omega, headgatelaw10_Large.l0]
    unfold headgatelaw10_Large.b0
    rw [if_neg (by omega)]
    exact ⟨_, rfl⟩
  | succ m ih =>
    intro K j hm
    have e1 : IntKind.wrap .i64 ((t.f0.length : Int) - ((m + 1 : Nat) : Int) + 1) = (t.f0.length : Int) - m := by rw [wi] <;> omega
    rw [show m + 1 + 1 + j = (m + 1 + j) + 1 by omega, headgatelaw10_Large.l0]
    unfold headgatelaw10_Large.b0
    rw [if_pos (by omega), asrt_pos (by omega), e1]
    split
    · exact ⟨_, rfl⟩
    · exact ih K j (by omega)
theorem large_is (t : T_api_Table) : ∃ b, headgatelaw10_Large.f 300 t = some b := by
  unfold headgatelaw10_Large.f
  by_cases h : (t.f0.length : Int) > 200
  · rw [if_pos h]; exact ⟨true, rfl⟩
  · rw [if_neg h]
    by_cases h' : (t.f1.f1.size : Int) > 1000
    · rw [if_pos h']; exact ⟨true, rfl⟩
    · rw [if_neg h']
      obtain ⟨b, hb⟩ := large_loop t (by omega) t.f0.length 300 (300 - t.f0.length - 1) (Nat.le_refl _)
      rw [show t.f0.length + 1 + (300 - t.f0.length - 1) = 300 by omega, Int.sub_self] at hb
      exact ⟨b, hb⟩
theorem num_loop (s : ByteArray) (p n : Nat) (hn : n ≤ 8) (hp : p + n ≤ s.size) (hs : s.size ≤ 1000000) : ∀ (m j : Nat), m ≤ n →
    headgatelaw18_ProutReads_1.l0 300 s (p : Int) (n : Int) (m + 1 + j) (be s p (n - m)) ((n : Int) - m) = some (be s p n) := by
  intro m
  induction m with
  | zero =>
    intro j h
    rw [show 0 + 1 + j = j + 1 by omega, headgatelaw18_ProutReads_1.l0]
    unfold headgatelaw18_ProutReads_1.b0
    rw [if_neg (by omega), Nat.sub_zero]
  | succ m ih =>
    intro j h
    have e1 : IntKind.wrap .i64 ((n : Int) - ((m + 1 : Nat) : Int) + 1) = (n : Int) - m := by rw [wi] <;> omega
    have e2 : IntKind.wrap .i64 ((p : Int) + ((n : Int) - ((m + 1 : Nat) : Int))) = (p : Int) + ((n - (m + 1) : Nat) : Int) := by rw [wi] <;> omega
    rw [show m + 1 + 1 + j = (m + 1 + j) + 1 by omega, headgatelaw18_ProutReads_1.l0]
    unfold headgatelaw18_ProutReads_1.b0
    rw [if_pos (by omega), e2, asrt_pos (by omega), asrt_pos (by omega), e1]
    have a0 := be_lo s p (n - (m + 1)); have a1 := be_hi s p (n - (m + 1))
    have b0 := bt_lo s ((p : Int) + ((n - (m + 1) : Nat) : Int)); have b1 := bt_hi s ((p : Int) + ((n - (m + 1) : Nat) : Int))
    have a2 : be s p (n - (m + 1)) < 72057594037927936 := by
      have : (256 : Int) ^ (n - (m + 1)) ≤ 256 ^ 7 := by
        have h7 : (256 : Nat) ^ (n - (m + 1)) ≤ 256 ^ 7 := Nat.pow_le_pow_right (by omega) (by omega)
        rw [← c256, show (256 : Int) ^ 7 = ((256 ^ 7 : Nat) : Int) from rfl]
        exact Int.ofNat_le.2 h7
      have : (256 : Int) ^ 7 = 72057594037927936 := rfl
      omega
    have e3 : bor .u64 (IntKind.wrap .u64 (be s p (n - (m + 1)) * 256)) (IntKind.wrap .u64 (bt s ((p : Int) + ((n - (m + 1) : Nat) : Int)))) = be s p (n - m) := by
      rw [wu64 (by omega) (by omega), wu64 (by omega) (by omega)]
      rw [show n - m = (n - (m + 1)) + 1 by omega, be]
      generalize hA : be s p (n - (m + 1)) = A at a0 a2 ⊢
      generalize hB : bt s ((p : Int) + ((n - (m + 1) : Nat) : Int)) = B at b0 b1 ⊢
      obtain ⟨A, rfl⟩ : ∃ k : Nat, A = (k : Int) := ⟨A.toNat, by omega⟩
      obtain ⟨B, rfl⟩ : ∃ k : Nat, B = (k : Int) := ⟨B.toNat, by omega⟩
      have := or_up A B 0 (by omega)
      rw [show 0 + 1 = 1 from rfl, Nat.pow_one, Nat.pow_zero, Nat.mul_one, Nat.mul_one] at this
      rw [show (A : Int) * 256 = ((A * 256 : Nat) : Int) by omega, bits_or _ _ (by omega) (by omega), this]
      omega
    rw [e3]
    exact ih j (by omega)
theorem num_is (s : ByteArray) (p n : Nat) (hn : n ≤ 8) (hp : p + n ≤ s.size) (hs : s.size ≤ 1000000) : headgatelaw18_ProutReads_1.f 300 s (p : Int) (n : Int) = some (be s p n) := by
  unfold headgatelaw18_ProutReads_1.f
  have := num_loop s p n hn hp hs n (300 - (n + 1)) (Nat.le_refl _)
  rw [show n + 1 + (300 - (n + 1)) = 300 by omega, Nat.sub_self, Int.sub_self] at this
  exact this
def noC (t : Int) : Int := if t = 1 then 1 else if t = 2 then 3 else if 3 ≤ t ∧ t ≤ 6 then t + 2 else 0
theorem cdb_Number.is (t : Int) : cdb_Number.f t = some (noC t) := by
  unfold cdb_Number.f noC
  by_cases h : t < 1
  · rw [if_pos h, if_neg (by omega), if_neg (by omega), if_neg (by omega)]
  rw [if_neg h]
  by_cases h' : t > 6
  · rw [if_pos h', if_neg (by omega), if_neg (by omega), if_neg (by omega)]
  rw [if_neg h', asrt_pos (by omega), asrt_pos (by omega)]
  have : t = 1 ∨ t = 2 ∨ t = 3 ∨ t = 4 ∨ t = 5 ∨ t = 6 := by omega
  rcases this with rfl | rfl | rfl | rfl | rfl | rfl <;> rfl
def keyL (r : T_api_Reg) : List Int := beB r.f1 8
theorem flat_len (l : List T_api_Reg) : (l.flatMap keyL).length = 8 * l.length := by
  induction l with
  | nil => rfl
  | cons r l ih => rw [List.flatMap_cons, List.length_append, ih, List.length_cons, show (keyL r).length = 8 from beB_length _ _]; omega
def keysL (g : Int) (l : List T_api_Reg) : List Int := beB g 4 ++ beB (8 * (l.length : Int)) 4 ++ l.flatMap keyL
theorem key_is (v : Int) (hv : 0 ≤ v) : prout_key.f 300 v = some (strOfNums (beB v 8)) := by
  unfold prout_key.f
  rw [show fields_PutBig.f 300 v 8 = _ from fields_PutBig.is v hv 8 291 (by omega) (by omega)]; rfl
theorem put4 (v : Int) (hv : 0 ≤ v) : fields_PutBig.f 300 v 4 = some (strOfNums (beB v 4)) := fields_PutBig.is v hv 4 291 (by omega) (by omega)
theorem drop_one {α : Type} (l : List α) (m : Nat) (h : m + 1 ≤ l.length) : ∃ x, l[l.length - (m + 1)]'(by omega) = x ∧ l.drop (l.length - (m + 1)) = x :: l.drop (l.length - m) := by
  refine ⟨_, rfl, ?_⟩
  rw [List.drop_eq_getElem_cons (by omega)]
  congr 2; omega
theorem keys_loop (l : List T_api_Reg) (hl : l.length ≤ 16) (ho : ∀ r ∈ l, 0 ≤ r.f1) : ∀ (m j : Nat), m ≤ l.length → ∀ H : List Int, H.length + 8 * m ≤ 10000 →
    prout_Keys.l0 300 l (m + 1 + j) (strOfNums H) ((l.length : Int) - m) = some (strOfNums (H ++ (l.drop (l.length - m)).flatMap keyL)) := by
  intro m
  induction m with
  | zero =>
    intro j h H hH
    rw [show 0 + 1 + j = j + 1 by omega, prout_Keys.l0]
    unfold prout_Keys.b0
    rw [if_neg (by omega), Nat.sub_zero, List.drop_length]
    simp
  | succ m ih =>
    intro j h H hH
    have e1 : IntKind.wrap .i64 ((l.length : Int) - ((m + 1 : Nat) : Int) + 1) = (l.length : Int) - m := by rw [wi] <;> omega
    have e2 : (l.length : Int) - ((m + 1 : Nat) : Int) = ((l.length - (m + 1) : Nat) : Int) := by omega
    obtain ⟨r, hr, hd⟩ := drop_one l m h
    rw [show m + 1 + 1 + j = (m + 1 + j) + 1 by omega, prout_Keys.l0]
    unfold prout_Keys.b0
    rw [if_pos (by omega), asrt_pos (by omega), e1, e2, rdL_nth _ _ _ (by omega), hr, hd, key_is _ (ho r (by rw [← hr]; exact List.getElem_mem _)), Option.bind_some, asrt_pos (by rw [strOfNums_size, strOfNums_size, beB_length]; omega), nums_append,
      ih j (by omega) (H ++ beB r.f1 8) (by rw [List.length_append, beB_length]; omega), List.flatMap_cons, List.append_assoc]
    rfl
theorem keys_is (g : Int) (l : List T_api_Reg) (hl : l.length ≤ 16) (hg : 0 ≤ g ∧ g ≤ 4294967295) (ho : ∀ r ∈ l, 0 ≤ r.f1) : prout_Keys.f 300 g l = some (strOfNums (keysL g l)) := by
  unfold prout_Keys.f prout_few.f
  have hm : mn (l.length : Int) 16 = l.length := by unfold mn; split <;> omega
  have w1 : IntKind.wrap .i64 (8 * (l.length : Int)) = 8 * (l.length : Int) := by rw [wi] <;> omega
  rw [hm, asrt_pos (by omega), asrt_pos (by omega), Int.toNat_natCast, List.take_length, Option.bind_some, w1, wu64 hg.1 (by omega), wu64 (by omega) (by omega), put4 _ hg.1, Option.bind_some, put4 _ (by omega), Option.bind_some, asrt_pos (by rw [strOfNums_size, strOfNums_size, beB_length, beB_length]; omega), nums_append]
  have := keys_loop l hl ho l.length (300 - (l.length + 1)) (Nat.le_refl _) (beB g 4 ++ beB (8 * (l.length : Int)) 4) (by rw [List.length_append, beB_length, beB_length]; omega)
  rw [show l.length + 1 + (300 - (l.length + 1)) = 300 by omega, Nat.sub_self, Int.sub_self, List.drop_zero] at this
  exact this
def holdL (g n v : Int) : List Int := beB g 4 ++ beB 16 4 ++ beB v 8 ++ beB 0 4 ++ [0, n, 0, 0]
theorem hold_j0 (g n v : Int) (hn : 0 ≤ n ∧ n ≤ 255) (hv : 0 ≤ v) : prout_Holder.j0 300 (strOfNums (beB g 4)) n v = some (strOfNums (holdL g n v)) := by
  unfold prout_Holder.j0
  rw [put4 16 (by omega), Option.bind_some, asrt_pos (by rw [strOfNums_size, strOfNums_size, beB_length, beB_length]; omega), key_is v hv, Option.bind_some, nums_append, asrt_pos (by rw [strOfNums_size, strOfNums_size]; simp [beB_length]), put4 0 (by omega), Option.bind_some, nums_append,
    asrt_pos (by rw [strOfNums_size, strOfNums_size]; simp [beB_length]), nums_append, asrt_pos (by rw [strOfNums_size, strOfNums_size]; simp [beB_length]), nums_append, show IntKind.wrap .u8 n = n by rw [wrapu8]; omega]
  rfl
theorem hold_loop (h : T_api_Hold) (l : List T_api_Reg) (g n : Int) (hn : 0 ≤ n ∧ n ≤ 255) (hl : l.length ≤ 16) (ho : ∀ r ∈ l, 0 ≤ r.f1) : ∀ (m j : Nat), m ≤ l.length →
    ∃ v, prout_Holder.l0 300 h l (strOfNums (beB g 4)) n (m + 1 + j) ((l.length : Int) - m) = some (strOfNums (holdL g n v)) := by
  intro m
  induction m with
  | zero =>
    intro j hm
    rw [show 0 + 1 + j = j + 1 by omega, prout_Holder.l0]
    unfold prout_Holder.b0
    rw [if_neg (by omega)]
    exact ⟨0, hold_j0 g n 0 hn (by omega)⟩
  | succ m ih =>
    intro j hm
    have e1 : IntKind.wrap .i64 ((l.length : Int) - ((m + 1 : Nat) : Int) + 1) = (l.length : Int) - m := by rw [wi] <;> omega
    have e2 : (l.length : Int) - ((m + 1 : Nat) : Int) = ((l.length - (m + 1) : Nat) : Int) := by omega
    obtain ⟨r, hr, hd⟩ := drop_one l m hm
    rw [show m + 1 + 1 + j = (m + 1 + j) + 1 by omega, prout_Holder.l0]
    unfold prout_Holder.b0
    rw [if_pos (by omega), asrt_pos (by omega), e1, e2, rdL_nth _ _ _ (by omega), hr]
    obtain ⟨v, hv⟩ := ih j (by omega)
    rw [hv]
    by_cases h1 : r.f0 = h.f1
    · rw [if_pos h1]
      by_cases h2 : h.f1 = (⟨#[]⟩ : ByteArray)
      · rw [if_pos h2]; exact ⟨v, rfl⟩
      · rw [if_neg h2]
        exact ⟨_, hold_j0 g n _ hn (ho r (by rw [← hr]; exact List.getElem_mem _))⟩
    · rw [if_neg h1]; exact ⟨v, rfl⟩
theorem hold_is (g : Int) (h : T_api_Hold) (l : List T_api_Reg) (hl : l.length ≤ 16) (hg : 0 ≤ g ∧ g ≤ 4294967295) (ho : ∀ r ∈ l, 0 ≤ r.f1) :
    (noC h.f0 = 0 ∧ prout_Holder.f 300 g h l = some (strOfNums (beB g 4 ++ beB 0 4))) ∨ (¬ noC h.f0 = 0 ∧ ∃ v, prout_Holder.f 300 g h l = some (strOfNums (holdL g (noC h.f0) v))) := by
  have hb : 0 ≤ noC h.f0 ∧ noC h.f0 ≤ 255 := by unfold noC; (repeat' split) <;> omega
  unfold prout_Holder.f
  rw [wu64 hg.1 (by omega), put4 g hg.1, Option.bind_some, cdb_Number.is, Option.bind_some]
  by_cases h0 : noC h.f0 = 0
  · rw [if_pos h0, put4 0 (by omega), Option.bind_some, asrt_pos (by rw [strOfNums_size, strOfNums_size, beB_length, beB_length]; omega), nums_append]
    exact Or.inl ⟨h0, rfl⟩
  · rw [if_neg h0]
    obtain ⟨v, hv⟩ := hold_loop h l g (noC h.f0) hb hl ho l.length (300 - (l.length + 1)) (Nat.le_refl _)
    rw [show l.length + 1 + (300 - (l.length + 1)) = 300 by omega, Int.sub_self] at hv
    exact Or.inr ⟨h0, v, hv⟩
theorem be_head (v : Int) (n : Nat) (h0 : 0 ≤ v) (h1 : v < 256 ^ n) (H T : List Int) : be (strOfNums (H ++ (beB v n ++ T))) (H.length : Int) n = v := by
  rw [← nums_append, be_right _ _ _ _ (by rw [strOfNums_size]; omega), strOfNums_size, Int.sub_self, ← nums_append, be_left _ _ _ _ (by omega) (by rw [strOfNums_size, beB_length]; omega)]
  exact be_put v n h0 h1
theorem keys_at (g : Int) (l : List T_api_Reg) (i : Nat) (hi : i < l.length) (hk : 0 ≤ l[i].f1 ∧ l[i].f1 ≤ 18446744073709551615) : be (strOfNums (keysL g l)) ((8 + 8 * i : Nat) : Int) 8 = l[i].f1 := by
  have hz : (beB g 4 ++ beB (8 * (l.length : Int)) 4 ++ (l.take i).flatMap keyL).length = 8 + 8 * i := by
    rw [List.length_append, List.length_append, beB_length, beB_length, flat_len, List.length_take]; omega
  have e : keysL g l = (beB g 4 ++ beB (8 * (l.length : Int)) 4 ++ (l.take i).flatMap keyL) ++ (beB l[i].f1 8 ++ (l.drop (i + 1)).flatMap keyL) := by
    unfold keysL
    rw [List.append_assoc _ ((l.take i).flatMap keyL)]
    congr 1
    have : l = l.take i ++ l[i] :: l.drop (i + 1) := by rw [← List.drop_eq_getElem_cons hi, List.take_append_drop]
    conv => lhs; rw [this]
    rw [List.flatMap_append, List.flatMap_cons]
    rfl
  rw [e, ← hz]
  exact be_head _ 8 hk.1 (by omega) _ _
theorem reads_loop (a0 : T_api_Table) (t : ByteArray) (hl : a0.f0.length ≤ 16) (ho : ∀ r ∈ a0.f0, 0 ≤ r.f1 ∧ r.f1 ≤ 18446744073709551615)
    (hfin : (if a0.f1.f0 < 1 then (headgatelaw18_ProutReads.j1 300 a0 t true) else (headgatelaw18_ProutReads.j1 300 a0 t (decide (a0.f1.f0 > 6)))) = some true) : ∀ (m j : Nat), m ≤ a0.f0.length →
    headgatelaw18_ProutReads.l0 300 a0 (strOfNums (keysL a0.f2 a0.f0)) t (m + 1 + j) ((a0.f0.length : Int) - m) = some true := by
  intro m
  induction m with
  | zero =>
    intro j h
    rw [show 0 + 1 + j = j + 1 by omega, headgatelaw18_ProutReads.l0]
    unfold headgatelaw18_ProutReads.b0
    rw [if_neg (by omega)]
    exact hfin
  | succ m ih =>
    intro j h
    have e1 : IntKind.wrap .i64 ((a0.f0.length : Int) - ((m + 1 : Nat) : Int) + 1) = (a0.f0.length : Int) - m := by rw [wi] <;> omega
    have e2 : (a0.f0.length : Int) - ((m + 1 : Nat) : Int) = ((a0.f0.length - (m + 1) : Nat) : Int) := by omega
    rw [show m + 1 + 1 + j = (m + 1 + j) + 1 by omega, headgatelaw18_ProutReads.l0]
    unfold headgatelaw18_ProutReads.b0
    rw [e1, ih j (by omega), e2]
    have hi : a0.f0.length - (m + 1) < a0.f0.length := by omega
    generalize a0.f0.length - (m + 1) = i at hi
    have w1 : IntKind.wrap .i64 (8 * (i : Int)) = 8 * (i : Int) := by rw [wi] <;> omega
    have w2 : IntKind.wrap .i64 (8 + 8 * (i : Int)) = ((8 + 8 * i : Nat) : Int) := by rw [wi] <;> omega
    have hz : (strOfNums (keysL a0.f2 a0.f0)).size = 8 + 8 * a0.f0.length := by
      rw [strOfNums_size]; unfold keysL
      rw [List.length_append, List.length_append, beB_length, beB_length, flat_len]
    rw [if_pos (by omega), w1, w2, show headgatelaw18_ProutReads_1.f 300 (strOfNums (keysL a0.f2 a0.f0)) ((8 + 8 * i : Nat) : Int) 8 = _ from num_is _ (8 + 8 * i) 8 (by omega) (by omega) (by omega), Option.bind_some, asrt_pos (by omega), rdL_nth _ _ _ hi,
      keys_at _ _ i hi (ho _ (List.getElem_mem _)), if_pos rfl]
theorem headgatelaw18_ProutReads.pure (a0 : T_api_Table) (o0 : a0.ok) : ∃ K, headgatelaw18_ProutReads.f K a0 = some true := by
  refine ⟨300, ?_⟩
  obtain ⟨b, hb⟩ := large_is a0
  unfold headgatelaw18_ProutReads.f
  have big : ∀ x : Bool, x = true → headgatelaw18_ProutReads.j0 300 a0 x = some true := by
    intro x hx
    unfold headgatelaw18_ProutReads.j0
    rw [if_pos hx, wakes18]; rfl
  rw [show headgatelaw10_Large.f 300 (⟨a0.f0, (⟨a0.f1.f0, a0.f1.f1⟩ : T_api_Hold), a0.f2, a0.f3⟩ : T_api_Table) = some b from hb, Option.bind_some]
  by_cases h0 : b = true
  · rw [if_pos h0, big _ rfl]
  rw [if_neg h0]
  by_cases h1 : (a0.f0.length : Int) > 16
  · rw [big _ (decide_eq_true h1)]
  rw [decide_eq_false h1]
  have hl : a0.f0.length ≤ 16 := by omega
  have hg : 0 ≤ a0.f2 ∧ a0.f2 ≤ 4294967295 := o0.f2
  have ho : ∀ r ∈ a0.f0, 0 ≤ r.f1 ∧ r.f1 ≤ 18446744073709551615 := fun r hr => (o0.f0.2 r hr).f1
  have ho' : ∀ r ∈ a0.f0, 0 ≤ r.f1 := fun r hr => (ho r hr).1
  have w1 : IntKind.wrap .i64 (8 * (a0.f0.length : Int)) = 8 * (a0.f0.length : Int) := by rw [wi] <;> omega
  have w2 : IntKind.wrap .i64 (8 + 8 * (a0.f0.length : Int)) = 8 + 8 * (a0.f0.length : Int) := by rw [wi] <;> omega
  have hz : (strOfNums (keysL a0.f2 a0.f0)).size = 8 + 8 * a0.f0.length := by
    rw [strOfNums_size]; unfold keysL
    rw [List.length_append, List.length_append, beB_length, beB_length, flat_len]
  have k0 : headgatelaw18_ProutReads_1.f 300 (strOfNums (keysL a0.f2 a0.f0)) 0 4 = some a0.f2 := by
    rw [show headgatelaw18_ProutReads_1.f 300 (strOfNums (keysL a0.f2 a0.f0)) 0 4 = _ from num_is _ 0 4 (by omega) (by omega) (by omega)]
    have := be_head a0.f2 4 hg.1 (by omega) [] (beB (8 * (a0.f0.length : Int)) 4 ++ a0.f0.flatMap keyL)
    unfold keysL
    rw [List.append_assoc]
    exact congrArg some this
  have k4 : headgatelaw18_ProutReads_1.f 300 (strOfNums (keysL a0.f2 a0.f0)) 4 4 = some (8 * (a0.f0.length : Int)) := by
    rw [show headgatelaw18_ProutReads_1.f 300 (strOfNums (keysL a0.f2 a0.f0)) 4 4 = _ from num_is _ 4 4 (by omega) (by omega) (by omega)]
    have := be_head (8 * (a0.f0.length : Int)) 4 (by omega) (by omega) (beB a0.f2 4) (a0.f0.flatMap keyL)
    unfold keysL
    rw [List.append_assoc]
    rw [beB_length] at this
    exact congrArg some this
  unfold headgatelaw18_ProutReads.j0
  rw [if_neg (by decide), asrt_pos (by omega), keys_is _ _ hl hg ho', Option.bind_some]
  rcases hold_is a0.f2 a0.f1 a0.f0 hl hg ho' with ⟨hn, ht⟩ | ⟨hn, v, ht⟩
  · have t0 : headgatelaw18_ProutReads_1.f 300 (strOfNums (beB a0.f2 4 ++ beB 0 4)) 0 4 = some a0.f2 := by
      rw [show headgatelaw18_ProutReads_1.f 300 (strOfNums (beB a0.f2 4 ++ beB 0 4)) 0 4 = _ from num_is _ 0 4 (by omega) (by rw [strOfNums_size, List.length_append, beB_length, beB_length]; omega) (by rw [strOfNums_size, List.length_append, beB_length, beB_length]; omega)]
      exact congrArg some (be_head a0.f2 4 hg.1 (by omega) [] (beB 0 4))
    have t4 : headgatelaw18_ProutReads_1.f 300 (strOfNums (beB a0.f2 4 ++ beB 0 4)) 4 4 = some 0 := by
      rw [show headgatelaw18_ProutReads_1.f 300 (strOfNums (beB a0.f2 4 ++ beB 0 4)) 4 4 = _ from num_is _ 4 4 (by omega) (by rw [strOfNums_size, List.length_append, beB_length, beB_length]; omega) (by rw [strOfNums_size, List.length_append, beB_length, beB_length]; omega)]
      have := be_head 0 4 (by omega) (by omega) (beB a0.f2 4) []
      rw [beB_length, List.append_nil] at this
      exact congrArg some this
    have tz : (strOfNums (beB a0.f2 4 ++ beB 0 4)).size = 8 := by rw [strOfNums_size, List.length_append, beB_length, beB_length]
    have hj : headgatelaw18_ProutReads.j1 300 a0 (strOfNums (beB a0.f2 4 ++ beB 0 4)) true = some true := by
      unfold headgatelaw18_ProutReads.j1
      rw [if_pos rfl, tz, if_pos (by omega), t4, Option.bind_some, if_pos rfl, wakes18]; rfl
    have hfin : (if a0.f1.f0 < 1 then (headgatelaw18_ProutReads.j1 300 a0 (strOfNums (beB a0.f2 4 ++ beB 0 4)) true) else (headgatelaw18_ProutReads.j1 300 a0 (strOfNums (beB a0.f2 4 ++ beB 0 4)) (decide (a0.f1.f0 > 6)))) = some true := by
      by_cases q : a0.f1.f0 < 1
      · rw [if_pos q, hj]
      · have : a0.f1.f0 > 6 := by
          unfold noC at hn
          by_cases q1 : a0.f1.f0 = 1
          · rw [if_pos q1] at hn; omega
          · rw [if_neg q1] at hn
            by_cases q2 : a0.f1.f0 = 2
            · rw [if_pos q2] at hn; omega
            · rw [if_neg q2] at hn
              by_cases q3 : 3 ≤ a0.f1.f0 ∧ a0.f1.f0 ≤ 6
              · rw [if_pos q3] at hn; omega
              · omega
        rw [if_neg q, decide_eq_true this, hj]
    have lp := reads_loop a0 _ hl ho hfin a0.f0.length (300 - (a0.f0.length + 1)) (Nat.le_refl _)
    rw [show a0.f0.length + 1 + (300 - (a0.f0.length + 1)) = 300 by omega, Int.sub_self] at lp
    rw [show prout_Holder.f 300 a0.f2 (⟨a0.f1.f0, a0.f1.f1⟩ : T_api_Hold) a0.f0 = _ from ht, Option.bind_some, hz, w1, w2, if_pos (by omega), k0, Option.bind_some, wu64 hg.1 (by omega), if_pos rfl, k4, Option.bind_some, wu64 (by omega) (by omega), if_pos rfl, tz, if_neg (by omega), t0, Option.bind_some, if_pos rfl]
    exact lp
  · have hnb : 0 ≤ noC a0.f1.f0 ∧ noC a0.f1.f0 ≤ 255 := by unfold noC; (repeat' split) <;> omega
    have tz : (strOfNums (holdL a0.f2 (noC a0.f1.f0) v)).size = 24 := by rw [strOfNums_size]; unfold holdL; simp [beB_length]
    have t0 : headgatelaw18_ProutReads_1.f 300 (strOfNums (holdL a0.f2 (noC a0.f1.f0) v)) 0 4 = some a0.f2 := by
      rw [show headgatelaw18_ProutReads_1.f 300 (strOfNums (holdL a0.f2 (noC a0.f1.f0) v)) 0 4 = _ from num_is _ 0 4 (by omega) (by omega) (by omega)]
      have := be_head a0.f2 4 hg.1 (by omega) [] (beB 16 4 ++ (beB v 8 ++ (beB 0 4 ++ [0, noC a0.f1.f0, 0, 0])))
      unfold holdL
      simp only [List.append_assoc]
      exact congrArg some this
    have t4 : headgatelaw18_ProutReads_1.f 300 (strOfNums (holdL a0.f2 (noC a0.f1.f0) v)) 4 4 = some 16 := by
      rw [show headgatelaw18_ProutReads_1.f 300 (strOfNums (holdL a0.f2 (noC a0.f1.f0) v)) 4 4 = _ from num_is _ 4 4 (by omega) (by omega) (by omega)]
      have := be_head 16 4 (by omega) (by omega) (beB a0.f2 4) (beB v 8 ++ (beB 0 4 ++ [0, noC a0.f1.f0, 0, 0]))
      rw [beB_length] at this
      unfold holdL
      simp only [List.append_assoc]
      exact congrArg some this
    have hin : inB (holdL a0.f2 (noC a0.f1.f0) v) := by
      refine inB_append (inB_append (inB_append (inB_append (inB_beB _ _) (inB_beB _ _)) (inB_beB _ _)) (inB_beB _ _)) ?_
      simp only [inB_cons']
      exact ⟨by omega, by omega, by omega, by omega, inB_nil⟩
    have t21 : bt (strOfNums (holdL a0.f2 (noC a0.f1.f0) v)) 21 = noC a0.f1.f0 := by rw [bt_of _ hin]; rfl
    have hj : headgatelaw18_ProutReads.j1 300 a0 (strOfNums (holdL a0.f2 (noC a0.f1.f0) v)) false = some true := by
      unfold headgatelaw18_ProutReads.j1
      rw [if_neg (by decide), tz, if_pos (by omega), t4, Option.bind_some, if_pos rfl, asrt_pos (by omega), cdb_Number.is, Option.bind_some, t21, wi (by omega) (by omega), if_pos rfl, wakes18]; rfl
    have hfin : (if a0.f1.f0 < 1 then (headgatelaw18_ProutReads.j1 300 a0 (strOfNums (holdL a0.f2 (noC a0.f1.f0) v)) true) else (headgatelaw18_ProutReads.j1 300 a0 (strOfNums (holdL a0.f2 (noC a0.f1.f0) v)) (decide (a0.f1.f0 > 6)))) = some true := by
      have hr : ¬ a0.f1.f0 < 1 ∧ ¬ a0.f1.f0 > 6 := by
        unfold noC at hn
        constructor <;> intro q <;> apply hn
        · rw [if_neg (by omega), if_neg (by omega), if_neg (by omega)]
        · rw [if_neg (by omega), if_neg (by omega), if_neg (by omega)]
      rw [if_neg hr.1, decide_eq_false hr.2, hj]
    have lp := reads_loop a0 _ hl ho hfin a0.f0.length (300 - (a0.f0.length + 1)) (Nat.le_refl _)
    rw [show a0.f0.length + 1 + (300 - (a0.f0.length + 1)) = 300 by omega, Int.sub_self] at lp
    rw [show prout_Holder.f 300 a0.f2 (⟨a0.f1.f0, a0.f1.f1⟩ : T_api_Hold) a0.f0 = _ from ht, Option.bind_some, hz, w1, w2, if_pos (by omega), k0, Option.bind_some, wu64 hg.1 (by omega), if_pos rfl, k4, Option.bind_some, wu64 (by omega) (by omega), if_pos rfl, tz, if_neg (by omega), t0, Option.bind_some, if_pos rfl]
    exact lp
end Go.Proofs.YtpjcipadjegmlaaDoor.F
