/- Part 2 of the walk: our own texts for this claim, in order. -/
import Derived.Test.YtapckjeedekphaaGreatDoorMu1
namespace Go.Proofs.YtapckjeedekphaaGreatDoor
open Go.RowKit Go.Proofs.YtapckjeedekphaaGreatDoorW.PrintWords PR
set_option linter.unusedSimpArgs false
set_option linter.unusedVariables false
theorem str48 (q : Rat) : ((S (qtx q)).toList == [48]) = decide (q = 0) := by
  rw [S_toList]
  by_cases h : q = 0
  · rw [h, qtx_zero, decide_eq_true rfl]; rfl
  · rw [decide_eq_false h]
    exact beq_eq_false_iff_ne.2 (fun e => h (qtx_inj (e.trans qtx_zero.symm)))
set_option maxHeartbeats 3200000 in
theorem law_muls_out (s t : List UInt8) (w : World) (ht : tab10 w) (h : [s, t].all okQ = false) : Calls Tryz.prog 9 #[.string (S s), .string (S t)] w fun e w' => e = .returned (.bool true) ∧ Below w.heap.size w w' := by
  have HT0 := Lib.hid ht
  have HRT := Lib.hid h
  clear ht h
  have HB := Lib.hid (Below.refl w.heap.size w)
  go_enter Tryz.func9, Tryz.ntmps9
  go_wp2_with fail
  refine (p_known _ (HT0.out.below HB.out)).mono ?_
  rintro e u1 ⟨rfl, hb⟩
  replace HB := Lib.hid (bth HB.out hb)
  clear hb
  go_wp2_with fail
  have hbk : Bx (u1.alloc (.cells #[.string (S s), .string (S t)] 9)) u1.heap.size 9 #[.string (S s), .string (S t)] := blk_new u1 _
  refine (l_right u1.heap.size 2 [s, t] _ (strs_cells [s, t] hbk) hbk.lt (by simp)).mono ?_
  rintro e u2 ⟨rfl, hb0⟩
  have hb := bth (below_alloc (Below.refl u1.heap.size u1) _) hb0
  replace HB := Lib.hid (bth HB.out hb)
  clear hb hb0 hbk
  rw [HRT.out]
  go_wp2_with fail
  refine (p_known _ (HT0.out.below HB.out)).mono ?_
  rintro e u3 ⟨rfl, hb⟩
  replace HB := Lib.hid (bth HB.out hb)
  clear hb
  go_wp2_with fail
  go_ret
  exact ⟨rfl, HB.out⟩
set_option maxHeartbeats 6400000 in
theorem law_muls_in (q r : Rat) (w : World) (ht : tab10 w) (hm : mx3 w) (hl : (qtx q).length ≤ 40 ∧ (qtx r).length ≤ 40) : Calls Tryz.prog 9 #[.string (S (qtx q)), .string (S (qtx r))] w fun e w' => e = .returned (.bool true) ∧ Below w.heap.size w w' := by
  have HT0 := Lib.hid ht
  have HM0 := Lib.hid hm
  have HL := Lib.hid hl
  have HRT : Hid ([qtx q, qtx r].all okQ = true) := Lib.hid (by
    have := hl
    simp only [List.all_cons, List.all_nil, Bool.and_true, Bool.and_eq_true]
    exact ⟨okQ_qtx (by omega), okQ_qtx (by omega)⟩)
  have HQa := Lib.hid (TQ_mono (TQ_qtx q (qtx_ne q)) (show _ ≤ 40 by omega))
  have HQb := Lib.hid (TQ_mono (TQ_qtx r (qtx_ne r)) (show _ ≤ 40 by omega))
  clear ht hm hl
  by_cases h0 : r = 0
  · have e0 : ((S (qtx r)).toList == [48]) = true := by rw [str48]; exact decide_eq_true h0
    have H0 := Lib.hid h0
    clear h0
    have HB := Lib.hid (Below.refl w.heap.size w)
    go_enter Tryz.func9, Tryz.ntmps9
    go_wp2_with fail
    refine (p_known _ (HT0.out.below HB.out)).mono ?_
    rintro e u1 ⟨rfl, hb⟩
    replace HB := Lib.hid (bth HB.out hb)
    clear hb
    go_wp2_with fail
    have hbk : Bx (u1.alloc (.cells #[.string (S (qtx q)), .string (S (qtx r))] 9)) u1.heap.size 9 #[.string (S (qtx q)), .string (S (qtx r))] := blk_new u1 _
    refine (l_right u1.heap.size 2 [(qtx q), (qtx r)] _ (strs_cells [(qtx q), (qtx r)] hbk) hbk.lt (by simp)).mono ?_
    rintro e u2 ⟨rfl, hb0⟩
    have hb := bth (below_alloc (Below.refl u1.heap.size u1) _) hb0
    replace HB := Lib.hid (bth HB.out hb)
    clear hb hb0 hbk
    rw [HRT.out]
    go_wp2_with fail
    refine (l_read q _ (by have := HL.out; omega) (HM0.out.below HB.out)).mono ?_
    rintro e u3 ⟨va, rfl, hv, hb⟩
    replace HB := Lib.hid (bth HB.out hb)
    clear hb
    have Ha := Lib.hid hv
    obtain ⟨na1, Aa1, ka1, ca1, na2, Aa2, ka2, ca2, rfl⟩ := hv.shape
    clear hv
    go_wp2_with fail
    refine (l_read r _ (by have := HL.out; omega) (HM0.out.below HB.out)).mono ?_
    rintro e u4 ⟨vb, rfl, hv, hb⟩
    replace HB := Lib.hid (bth HB.out hb)
    replace Ha := Lib.hid (Ha.out.below hb)
    clear hb
    have Hb := Lib.hid hv
    obtain ⟨nb1, Ab1, kb1, cb1, nb2, Ab2, kb2, cb2, rfl⟩ := hv.shape
    clear hv
    go_wp2_with (first | ((with_reducible refine gate_dst (N := 5) rfl ?_); refine bx_event rfl (cs := #[.bool false, .slice none 0 0, .bool false, .slice none 0 0]) (t := 31) ?hr ?_; (case hr => first | (go_simp; done) | (go_simp; rfl)); intro g5 w5 hg bk hb; have HG5 := Lib.hid (Nat.le_trans HB.out.size hg); replace HB := Lib.hid (bth HB.out hb); replace Ha := Lib.hid (Ha.out.below hb); replace Hb := Lib.hid (Hb.out.below hb); have BK5 := Lib.hid bk; obtain ⟨c5_0, c5_1, c5_2, c5_3, f5_0, f5_1, f5_2, f5_3⟩ := BK5.out.all4; clear hb hg bk) | ((with_reducible refine gate_dst (N := 6) rfl ?_); refine bx_event rfl (cs := #[.bool false, .slice none 0 0, .bool false, .slice none 0 0]) (t := 31) ?hr ?_; (case hr => first | (go_simp; done) | (go_simp; rfl)); intro g6 w6 hg bk hb; have HG6 := Lib.hid (Nat.le_trans HB.out.size hg); replace HB := Lib.hid (bth HB.out hb); have HN5_6 := Lib.hid (Nat.ne_of_lt (Nat.lt_of_lt_of_le BK5.out.lt hg)); have ne5_6 := HN5_6.out; have en5_6 := HN5_6.out.symm; clear c5_0 c5_1 c5_2 c5_3 f5_0 f5_1 f5_2 f5_3; replace BK5 := Lib.hid (BK5.out.below hb); obtain ⟨c5_0, c5_1, c5_2, c5_3, f5_0, f5_1, f5_2, f5_3⟩ := BK5.out.all4; replace Ha := Lib.hid (Ha.out.below hb); replace Hb := Lib.hid (Hb.out.below hb); have BK6 := Lib.hid bk; obtain ⟨c6_0, c6_1, c6_2, c6_3, f6_0, f6_1, f6_2, f6_3⟩ := BK6.out.all4; clear hb hg bk))
    have HN6_5 := Lib.hid HN5_6.out.symm
    have ne6_5 := HN6_5.out
    have en6_5 := HN6_5.out.symm
    obtain ⟨x5, hx⟩ : ∃ W, ((((w6.setCell ⟨g5, 0, none⟩ (.bool na1)).setCell ⟨g5, 1, none⟩ (.slice Aa1 ka1 ca1)).setCell ⟨g5, 2, none⟩ (.bool na2)).setCell ⟨g5, 3, none⟩ (.slice Aa2 ka2 ca2)) = W := ⟨_, rfl⟩
    have KP : Kp w6 x5 := hx ▸ BK5.out.kp4 (by decide) (.bool na1) (.slice Aa1 ka1 ca1) (.bool na2) (.slice Aa2 ka2 ca2)
    replace BK6 : Hid (Bx x5 g6 31 #[.bool false, .slice none 0 0, .bool false, .slice none 0 0]) := Lib.hid (hx ▸ BK6.out.far4 HN6_5.out _ _ _ _)
    replace BK5 : Hid (Bx x5 g5 31 #[.bool na1, .slice Aa1 ka1 ca1, .bool na2, .slice Aa2 ka2 ca2]) := Lib.hid (hx ▸ BK5.out.put4 _ _ _ _)
    clear ne6_5 en6_5
    replace HB : Hid (Below w.heap.size w x5) := Lib.hid (hx ▸ below_put4 HB.out HG5.out _ _ _ _)
    replace Ha := Lib.hid (Ha.out.kp KP)
    replace Hb := Lib.hid (Hb.out.kp KP)
    rw [hx]
    clear hx KP
    clear c5_0 c5_1 c5_2 c5_3 f5_0 f5_1 f5_2 f5_3
    clear c6_0 c6_1 c6_2 c6_3 f6_0 f6_1 f6_2 f6_3
    obtain ⟨c5_0, c5_1, c5_2, c5_3, f5_0, f5_1, f5_2, f5_3⟩ := BK5.out.all4
    obtain ⟨c6_0, c6_1, c6_2, c6_3, f6_0, f6_1, f6_2, f6_3⟩ := BK6.out.all4
    obtain ⟨x6, hx⟩ : ∃ W, ((((x5.setCell ⟨g6, 0, none⟩ (.bool nb1)).setCell ⟨g6, 1, none⟩ (.slice Ab1 kb1 cb1)).setCell ⟨g6, 2, none⟩ (.bool nb2)).setCell ⟨g6, 3, none⟩ (.slice Ab2 kb2 cb2)) = W := ⟨_, rfl⟩
    have KP : Kp x5 x6 := hx ▸ BK6.out.kp4 (by decide) (.bool nb1) (.slice Ab1 kb1 cb1) (.bool nb2) (.slice Ab2 kb2 cb2)
    replace BK5 : Hid (Bx x6 g5 31 #[.bool na1, .slice Aa1 ka1 ca1, .bool na2, .slice Aa2 ka2 ca2]) := Lib.hid (hx ▸ BK5.out.far4 HN5_6.out _ _ _ _)
    replace BK6 : Hid (Bx x6 g6 31 #[.bool nb1, .slice Ab1 kb1 cb1, .bool nb2, .slice Ab2 kb2 cb2]) := Lib.hid (hx ▸ BK6.out.put4 _ _ _ _)
    clear ne5_6 en5_6
    replace HB : Hid (Below w.heap.size w x6) := Lib.hid (hx ▸ below_put4 HB.out HG6.out _ _ _ _)
    replace Ha := Lib.hid (Ha.out.kp KP)
    replace Hb := Lib.hid (Hb.out.kp KP)
    rw [hx]
    clear hx KP
    clear c5_0 c5_1 c5_2 c5_3 f5_0 f5_1 f5_2 f5_3
    clear c6_0 c6_1 c6_2 c6_3 f6_0 f6_1 f6_2 f6_3
    obtain ⟨c5_0, c5_1, c5_2, c5_3, f5_0, f5_1, f5_2, f5_3⟩ := BK5.out.all4
    obtain ⟨c6_0, c6_1, c6_2, c6_3, f6_0, f6_1, f6_2, f6_3⟩ := BK6.out.all4
    refine (p_qdiv0 _ _ q r _ Ha.out Hb.out H0.out).mono ?_
    rintro e u5 ⟨vd, rfl, hv, hb⟩
    replace HB := Lib.hid (bth HB.out hb)
    clear c5_0 c5_1 c5_2 c5_3 f5_0 f5_1 f5_2 f5_3
    replace BK5 := Lib.hid (BK5.out.below hb)
    obtain ⟨c5_0, c5_1, c5_2, c5_3, f5_0, f5_1, f5_2, f5_3⟩ := BK5.out.all4
    clear c6_0 c6_1 c6_2 c6_3 f6_0 f6_1 f6_2 f6_3
    replace BK6 := Lib.hid (BK6.out.below hb)
    obtain ⟨c6_0, c6_1, c6_2, c6_3, f6_0, f6_1, f6_2, f6_3⟩ := BK6.out.all4
    replace Ha := Lib.hid (Ha.out.below hb)
    replace Hb := Lib.hid (Hb.out.below hb)
    clear hb
    have Hd := Lib.hid hv
    obtain ⟨nd1, Ad1, kd1, cd1, nd2, Ad2, kd2, cd2, rfl⟩ := hv.shape
    clear hv
    go_wp2_with (first | ((with_reducible refine gate_dst (N := 7) rfl ?_); refine bx_event rfl (cs := #[.bool false, .slice none 0 0, .bool false, .slice none 0 0]) (t := 31) ?hr ?_; (case hr => first | (go_simp; done) | (go_simp; rfl)); intro g7 w7 hg bk hb; have HG7 := Lib.hid (Nat.le_trans HB.out.size hg); replace HB := Lib.hid (bth HB.out hb); have HN5_7 := Lib.hid (Nat.ne_of_lt (Nat.lt_of_lt_of_le BK5.out.lt hg)); have HN6_7 := Lib.hid (Nat.ne_of_lt (Nat.lt_of_lt_of_le BK6.out.lt hg)); have ne5_7 := HN5_7.out; have en5_7 := HN5_7.out.symm; have ne6_7 := HN6_7.out; have en6_7 := HN6_7.out.symm; clear c5_0 c5_1 c5_2 c5_3 f5_0 f5_1 f5_2 f5_3; replace BK5 := Lib.hid (BK5.out.below hb); obtain ⟨c5_0, c5_1, c5_2, c5_3, f5_0, f5_1, f5_2, f5_3⟩ := BK5.out.all4; clear c6_0 c6_1 c6_2 c6_3 f6_0 f6_1 f6_2 f6_3; replace BK6 := Lib.hid (BK6.out.below hb); obtain ⟨c6_0, c6_1, c6_2, c6_3, f6_0, f6_1, f6_2, f6_3⟩ := BK6.out.all4; replace Ha := Lib.hid (Ha.out.below hb); replace Hb := Lib.hid (Hb.out.below hb); replace Hd := Lib.hid (Hd.out.below hb); have BK7 := Lib.hid bk; obtain ⟨c7_0, c7_1, c7_2, c7_3, f7_0, f7_1, f7_2, f7_3⟩ := BK7.out.all4; clear hb hg bk))
    obtain ⟨x7, hx⟩ : ∃ W, ((((w7.setCell ⟨g7, 0, none⟩ (.bool nd1)).setCell ⟨g7, 1, none⟩ (.slice Ad1 kd1 cd1)).setCell ⟨g7, 2, none⟩ (.bool nd2)).setCell ⟨g7, 3, none⟩ (.slice Ad2 kd2 cd2)) = W := ⟨_, rfl⟩
    have KP : Kp w7 x7 := hx ▸ BK7.out.kp4 (by decide) (.bool nd1) (.slice Ad1 kd1 cd1) (.bool nd2) (.slice Ad2 kd2 cd2)
    replace BK5 : Hid (Bx x7 g5 31 #[.bool na1, .slice Aa1 ka1 ca1, .bool na2, .slice Aa2 ka2 ca2]) := Lib.hid (hx ▸ BK5.out.far4 HN5_7.out _ _ _ _)
    replace BK6 : Hid (Bx x7 g6 31 #[.bool nb1, .slice Ab1 kb1 cb1, .bool nb2, .slice Ab2 kb2 cb2]) := Lib.hid (hx ▸ BK6.out.far4 HN6_7.out _ _ _ _)
    replace BK7 : Hid (Bx x7 g7 31 #[.bool nd1, .slice Ad1 kd1 cd1, .bool nd2, .slice Ad2 kd2 cd2]) := Lib.hid (hx ▸ BK7.out.put4 _ _ _ _)
    clear ne5_7 en5_7 ne6_7 en6_7
    replace HB : Hid (Below w.heap.size w x7) := Lib.hid (hx ▸ below_put4 HB.out HG7.out _ _ _ _)
    replace Ha := Lib.hid (Ha.out.kp KP)
    replace Hb := Lib.hid (Hb.out.kp KP)
    replace Hd := Lib.hid (Hd.out.kp KP)
    rw [hx]
    clear hx KP
    clear c5_0 c5_1 c5_2 c5_3 f5_0 f5_1 f5_2 f5_3
    clear c6_0 c6_1 c6_2 c6_3 f6_0 f6_1 f6_2 f6_3
    clear c7_0 c7_1 c7_2 c7_3 f7_0 f7_1 f7_2 f7_3
    obtain ⟨c5_0, c5_1, c5_2, c5_3, f5_0, f5_1, f5_2, f5_3⟩ := BK5.out.all4
    obtain ⟨c6_0, c6_1, c6_2, c6_3, f6_0, f6_1, f6_2, f6_3⟩ := BK6.out.all4
    obtain ⟨c7_0, c7_1, c7_2, c7_3, f7_0, f7_1, f7_2, f7_3⟩ := BK7.out.all4
    refine (p_qmul _ _ q r _ Ha.out Hb.out (n := 40) HQa.out HQb.out (by decide) (by decide)).mono ?_
    rintro e u6 ⟨vs1, rfl, hv, hb⟩
    replace HB := Lib.hid (bth HB.out hb)
    clear c5_0 c5_1 c5_2 c5_3 f5_0 f5_1 f5_2 f5_3
    replace BK5 := Lib.hid (BK5.out.below hb)
    obtain ⟨c5_0, c5_1, c5_2, c5_3, f5_0, f5_1, f5_2, f5_3⟩ := BK5.out.all4
    clear c6_0 c6_1 c6_2 c6_3 f6_0 f6_1 f6_2 f6_3
    replace BK6 := Lib.hid (BK6.out.below hb)
    obtain ⟨c6_0, c6_1, c6_2, c6_3, f6_0, f6_1, f6_2, f6_3⟩ := BK6.out.all4
    clear c7_0 c7_1 c7_2 c7_3 f7_0 f7_1 f7_2 f7_3
    replace BK7 := Lib.hid (BK7.out.below hb)
    obtain ⟨c7_0, c7_1, c7_2, c7_3, f7_0, f7_1, f7_2, f7_3⟩ := BK7.out.all4
    replace Ha := Lib.hid (Ha.out.below hb)
    replace Hb := Lib.hid (Hb.out.below hb)
    replace Hd := Lib.hid (Hd.out.below hb)
    clear hb
    have Hs1 := Lib.hid hv
    clear hv
    go_wp2_with fail
    refine (r_qmul q r _ (n := 40) HQa.out HQb.out (by decide)).mono ?_
    rintro e u7 ⟨rfl, hb⟩
    replace HB := Lib.hid (bth HB.out hb)
    clear c5_0 c5_1 c5_2 c5_3 f5_0 f5_1 f5_2 f5_3
    replace BK5 := Lib.hid (BK5.out.below hb)
    obtain ⟨c5_0, c5_1, c5_2, c5_3, f5_0, f5_1, f5_2, f5_3⟩ := BK5.out.all4
    clear c6_0 c6_1 c6_2 c6_3 f6_0 f6_1 f6_2 f6_3
    replace BK6 := Lib.hid (BK6.out.below hb)
    obtain ⟨c6_0, c6_1, c6_2, c6_3, f6_0, f6_1, f6_2, f6_3⟩ := BK6.out.all4
    clear c7_0 c7_1 c7_2 c7_3 f7_0 f7_1 f7_2 f7_3
    replace BK7 := Lib.hid (BK7.out.below hb)
    obtain ⟨c7_0, c7_1, c7_2, c7_3, f7_0, f7_1, f7_2, f7_3⟩ := BK7.out.all4
    replace Ha := Lib.hid (Ha.out.below hb)
    replace Hb := Lib.hid (Hb.out.below hb)
    replace Hd := Lib.hid (Hd.out.below hb)
    replace Hs1 := Lib.hid (Hs1.out.below hb)
    clear hb
    go_wp2_with fail
    refine (p_is _ (q * r) (qtx (q * r)) _ Hs1.out (n := 80) (TQ_mul HQa.out HQb.out) (by decide) (by decide) (HT0.out.below HB.out)).mono ?_
    rintro e u8 ⟨rfl, hb⟩
    replace HB := Lib.hid (bth HB.out hb)
    clear c5_0 c5_1 c5_2 c5_3 f5_0 f5_1 f5_2 f5_3
    replace BK5 := Lib.hid (BK5.out.below hb)
    obtain ⟨c5_0, c5_1, c5_2, c5_3, f5_0, f5_1, f5_2, f5_3⟩ := BK5.out.all4
    clear c6_0 c6_1 c6_2 c6_3 f6_0 f6_1 f6_2 f6_3
    replace BK6 := Lib.hid (BK6.out.below hb)
    obtain ⟨c6_0, c6_1, c6_2, c6_3, f6_0, f6_1, f6_2, f6_3⟩ := BK6.out.all4
    clear c7_0 c7_1 c7_2 c7_3 f7_0 f7_1 f7_2 f7_3
    replace BK7 := Lib.hid (BK7.out.below hb)
    obtain ⟨c7_0, c7_1, c7_2, c7_3, f7_0, f7_1, f7_2, f7_3⟩ := BK7.out.all4
    replace Ha := Lib.hid (Ha.out.below hb)
    replace Hb := Lib.hid (Hb.out.below hb)
    replace Hd := Lib.hid (Hd.out.below hb)
    replace Hs1 := Lib.hid (Hs1.out.below hb)
    clear hb
    rw [decide_eq_true (rfl : (qtx (q * r)) = (qtx (q * r)))]
    clear Hs1
    go_wp2_with fail
    refine (p_is _ 0 [48] _ Hd.out (n := 1) ⟨td1 (by decide), td1 (by decide)⟩ (by decide) (by decide) (HT0.out.below HB.out)).mono ?_
    rintro e u9 ⟨rfl, hb⟩
    replace HB := Lib.hid (bth HB.out hb)
    clear c5_0 c5_1 c5_2 c5_3 f5_0 f5_1 f5_2 f5_3
    replace BK5 := Lib.hid (BK5.out.below hb)
    obtain ⟨c5_0, c5_1, c5_2, c5_3, f5_0, f5_1, f5_2, f5_3⟩ := BK5.out.all4
    clear c6_0 c6_1 c6_2 c6_3 f6_0 f6_1 f6_2 f6_3
    replace BK6 := Lib.hid (BK6.out.below hb)
    obtain ⟨c6_0, c6_1, c6_2, c6_3, f6_0, f6_1, f6_2, f6_3⟩ := BK6.out.all4
    clear c7_0 c7_1 c7_2 c7_3 f7_0 f7_1 f7_2 f7_3
    replace BK7 := Lib.hid (BK7.out.below hb)
    obtain ⟨c7_0, c7_1, c7_2, c7_3, f7_0, f7_1, f7_2, f7_3⟩ := BK7.out.all4
    replace Ha := Lib.hid (Ha.out.below hb)
    replace Hb := Lib.hid (Hb.out.below hb)
    replace Hd := Lib.hid (Hd.out.below hb)
    clear hb
    rw [decide_eq_true qtx_zero]
    go_wp2_with fail
    go_ret
    exact ⟨rfl, HB.out⟩
  · have e0 : ((S (qtx r)).toList == [48]) = false := by rw [str48]; exact decide_eq_false h0
    have H0 := Lib.hid h0
    clear h0
    have HB := Lib.hid (Below.refl w.heap.size w)
    go_enter Tryz.func9, Tryz.ntmps9
    go_wp2_with fail
    refine (p_known _ (HT0.out.below HB.out)).mono ?_
    rintro e u1 ⟨rfl, hb⟩
    replace HB := Lib.hid (bth HB.out hb)
    clear hb
    go_wp2_with fail
    have hbk : Bx (u1.alloc (.cells #[.string (S (qtx q)), .string (S (qtx r))] 9)) u1.heap.size 9 #[.string (S (qtx q)), .string (S (qtx r))] := blk_new u1 _
    refine (l_right u1.heap.size 2 [(qtx q), (qtx r)] _ (strs_cells [(qtx q), (qtx r)] hbk) hbk.lt (by simp)).mono ?_
    rintro e u2 ⟨rfl, hb0⟩
    have hb := bth (below_alloc (Below.refl u1.heap.size u1) _) hb0
    replace HB := Lib.hid (bth HB.out hb)
    clear hb hb0 hbk
    rw [HRT.out]
    go_wp2_with fail
    refine (l_read q _ (by have := HL.out; omega) (HM0.out.below HB.out)).mono ?_
    rintro e u3 ⟨va, rfl, hv, hb⟩
    replace HB := Lib.hid (bth HB.out hb)
    clear hb
    have Ha := Lib.hid hv
    obtain ⟨na1, Aa1, ka1, ca1, na2, Aa2, ka2, ca2, rfl⟩ := hv.shape
    clear hv
    go_wp2_with fail
    refine (l_read r _ (by have := HL.out; omega) (HM0.out.below HB.out)).mono ?_
    rintro e u4 ⟨vb, rfl, hv, hb⟩
    replace HB := Lib.hid (bth HB.out hb)
    replace Ha := Lib.hid (Ha.out.below hb)
    clear hb
    have Hb := Lib.hid hv
    obtain ⟨nb1, Ab1, kb1, cb1, nb2, Ab2, kb2, cb2, rfl⟩ := hv.shape
    clear hv
    go_wp2_with (first | ((with_reducible refine gate_dst (N := 5) rfl ?_); refine bx_event rfl (cs := #[.bool false, .slice none 0 0, .bool false, .slice none 0 0]) (t := 31) ?hr ?_; (case hr => first | (go_simp; done) | (go_simp; rfl)); intro g5 w5 hg bk hb; have HG5 := Lib.hid (Nat.le_trans HB.out.size hg); replace HB := Lib.hid (bth HB.out hb); replace Ha := Lib.hid (Ha.out.below hb); replace Hb := Lib.hid (Hb.out.below hb); have BK5 := Lib.hid bk; obtain ⟨c5_0, c5_1, c5_2, c5_3, f5_0, f5_1, f5_2, f5_3⟩ := BK5.out.all4; clear hb hg bk) | ((with_reducible refine gate_dst (N := 6) rfl ?_); refine bx_event rfl (cs := #[.bool false, .slice none 0 0, .bool false, .slice none 0 0]) (t := 31) ?hr ?_; (case hr => first | (go_simp; done) | (go_simp; rfl)); intro g6 w6 hg bk hb; have HG6 := Lib.hid (Nat.le_trans HB.out.size hg); replace HB := Lib.hid (bth HB.out hb); have HN5_6 := Lib.hid (Nat.ne_of_lt (Nat.lt_of_lt_of_le BK5.out.lt hg)); have ne5_6 := HN5_6.out; have en5_6 := HN5_6.out.symm; clear c5_0 c5_1 c5_2 c5_3 f5_0 f5_1 f5_2 f5_3; replace BK5 := Lib.hid (BK5.out.below hb); obtain ⟨c5_0, c5_1, c5_2, c5_3, f5_0, f5_1, f5_2, f5_3⟩ := BK5.out.all4; replace Ha := Lib.hid (Ha.out.below hb); replace Hb := Lib.hid (Hb.out.below hb); have BK6 := Lib.hid bk; obtain ⟨c6_0, c6_1, c6_2, c6_3, f6_0, f6_1, f6_2, f6_3⟩ := BK6.out.all4; clear hb hg bk))
    have HN6_5 := Lib.hid HN5_6.out.symm
    have ne6_5 := HN6_5.out
    have en6_5 := HN6_5.out.symm
    obtain ⟨x5, hx⟩ : ∃ W, ((((w6.setCell ⟨g5, 0, none⟩ (.bool na1)).setCell ⟨g5, 1, none⟩ (.slice Aa1 ka1 ca1)).setCell ⟨g5, 2, none⟩ (.bool na2)).setCell ⟨g5, 3, none⟩ (.slice Aa2 ka2 ca2)) = W := ⟨_, rfl⟩
    have KP : Kp w6 x5 := hx ▸ BK5.out.kp4 (by decide) (.bool na1) (.slice Aa1 ka1 ca1) (.bool na2) (.slice Aa2 ka2 ca2)
    replace BK6 : Hid (Bx x5 g6 31 #[.bool false, .slice none 0 0, .bool false, .slice none 0 0]) := Lib.hid (hx ▸ BK6.out.far4 HN6_5.out _ _ _ _)
    replace BK5 : Hid (Bx x5 g5 31 #[.bool na1, .slice Aa1 ka1 ca1, .bool na2, .slice Aa2 ka2 ca2]) := Lib.hid (hx ▸ BK5.out.put4 _ _ _ _)
    clear ne6_5 en6_5
    replace HB : Hid (Below w.heap.size w x5) := Lib.hid (hx ▸ below_put4 HB.out HG5.out _ _ _ _)
    replace Ha := Lib.hid (Ha.out.kp KP)
    replace Hb := Lib.hid (Hb.out.kp KP)
    rw [hx]
    clear hx KP
    clear c5_0 c5_1 c5_2 c5_3 f5_0 f5_1 f5_2 f5_3
    clear c6_0 c6_1 c6_2 c6_3 f6_0 f6_1 f6_2 f6_3
    obtain ⟨c5_0, c5_1, c5_2, c5_3, f5_0, f5_1, f5_2, f5_3⟩ := BK5.out.all4
    obtain ⟨c6_0, c6_1, c6_2, c6_3, f6_0, f6_1, f6_2, f6_3⟩ := BK6.out.all4
    obtain ⟨x6, hx⟩ : ∃ W, ((((x5.setCell ⟨g6, 0, none⟩ (.bool nb1)).setCell ⟨g6, 1, none⟩ (.slice Ab1 kb1 cb1)).setCell ⟨g6, 2, none⟩ (.bool nb2)).setCell ⟨g6, 3, none⟩ (.slice Ab2 kb2 cb2)) = W := ⟨_, rfl⟩
    have KP : Kp x5 x6 := hx ▸ BK6.out.kp4 (by decide) (.bool nb1) (.slice Ab1 kb1 cb1) (.bool nb2) (.slice Ab2 kb2 cb2)
    replace BK5 : Hid (Bx x6 g5 31 #[.bool na1, .slice Aa1 ka1 ca1, .bool na2, .slice Aa2 ka2 ca2]) := Lib.hid (hx ▸ BK5.out.far4 HN5_6.out _ _ _ _)
    replace BK6 : Hid (Bx x6 g6 31 #[.bool nb1, .slice Ab1 kb1 cb1, .bool nb2, .slice Ab2 kb2 cb2]) := Lib.hid (hx ▸ BK6.out.put4 _ _ _ _)
    clear ne5_6 en5_6
    replace HB : Hid (Below w.heap.size w x6) := Lib.hid (hx ▸ below_put4 HB.out HG6.out _ _ _ _)
    replace Ha := Lib.hid (Ha.out.kp KP)
    replace Hb := Lib.hid (Hb.out.kp KP)
    rw [hx]
    clear hx KP
    clear c5_0 c5_1 c5_2 c5_3 f5_0 f5_1 f5_2 f5_3
    clear c6_0 c6_1 c6_2 c6_3 f6_0 f6_1 f6_2 f6_3
    obtain ⟨c5_0, c5_1, c5_2, c5_3, f5_0, f5_1, f5_2, f5_3⟩ := BK5.out.all4
    obtain ⟨c6_0, c6_1, c6_2, c6_3, f6_0, f6_1, f6_2, f6_3⟩ := BK6.out.all4
    refine (p_qdivK _ _ q r _ Ha.out Hb.out (n := 40) HQa.out HQb.out (by decide) (by decide) H0.out).mono ?_
    rintro e u5 ⟨vd, rfl, hv, hb⟩
    replace HB := Lib.hid (bth HB.out hb)
    clear c5_0 c5_1 c5_2 c5_3 f5_0 f5_1 f5_2 f5_3
    replace BK5 := Lib.hid (BK5.out.below hb)
    obtain ⟨c5_0, c5_1, c5_2, c5_3, f5_0, f5_1, f5_2, f5_3⟩ := BK5.out.all4
    clear c6_0 c6_1 c6_2 c6_3 f6_0 f6_1 f6_2 f6_3
    replace BK6 := Lib.hid (BK6.out.below hb)
    obtain ⟨c6_0, c6_1, c6_2, c6_3, f6_0, f6_1, f6_2, f6_3⟩ := BK6.out.all4
    replace Ha := Lib.hid (Ha.out.below hb)
    replace Hb := Lib.hid (Hb.out.below hb)
    clear hb
    have Hd := Lib.hid hv
    obtain ⟨nd1, Ad1, kd1, cd1, nd2, Ad2, kd2, cd2, rfl⟩ := hv.shape
    clear hv
    go_wp2_with (first | ((with_reducible refine gate_dst (N := 7) rfl ?_); refine bx_event rfl (cs := #[.bool false, .slice none 0 0, .bool false, .slice none 0 0]) (t := 31) ?hr ?_; (case hr => first | (go_simp; done) | (go_simp; rfl)); intro g7 w7 hg bk hb; have HG7 := Lib.hid (Nat.le_trans HB.out.size hg); replace HB := Lib.hid (bth HB.out hb); have HN5_7 := Lib.hid (Nat.ne_of_lt (Nat.lt_of_lt_of_le BK5.out.lt hg)); have HN6_7 := Lib.hid (Nat.ne_of_lt (Nat.lt_of_lt_of_le BK6.out.lt hg)); have ne5_7 := HN5_7.out; have en5_7 := HN5_7.out.symm; have ne6_7 := HN6_7.out; have en6_7 := HN6_7.out.symm; clear c5_0 c5_1 c5_2 c5_3 f5_0 f5_1 f5_2 f5_3; replace BK5 := Lib.hid (BK5.out.below hb); obtain ⟨c5_0, c5_1, c5_2, c5_3, f5_0, f5_1, f5_2, f5_3⟩ := BK5.out.all4; clear c6_0 c6_1 c6_2 c6_3 f6_0 f6_1 f6_2 f6_3; replace BK6 := Lib.hid (BK6.out.below hb); obtain ⟨c6_0, c6_1, c6_2, c6_3, f6_0, f6_1, f6_2, f6_3⟩ := BK6.out.all4; replace Ha := Lib.hid (Ha.out.below hb); replace Hb := Lib.hid (Hb.out.below hb); replace Hd := Lib.hid (Hd.out.below hb); have BK7 := Lib.hid bk; obtain ⟨c7_0, c7_1, c7_2, c7_3, f7_0, f7_1, f7_2, f7_3⟩ := BK7.out.all4; clear hb hg bk))
    obtain ⟨x7, hx⟩ : ∃ W, ((((w7.setCell ⟨g7, 0, none⟩ (.bool nd1)).setCell ⟨g7, 1, none⟩ (.slice Ad1 kd1 cd1)).setCell ⟨g7, 2, none⟩ (.bool nd2)).setCell ⟨g7, 3, none⟩ (.slice Ad2 kd2 cd2)) = W := ⟨_, rfl⟩
    have KP : Kp w7 x7 := hx ▸ BK7.out.kp4 (by decide) (.bool nd1) (.slice Ad1 kd1 cd1) (.bool nd2) (.slice Ad2 kd2 cd2)
    replace BK5 : Hid (Bx x7 g5 31 #[.bool na1, .slice Aa1 ka1 ca1, .bool na2, .slice Aa2 ka2 ca2]) := Lib.hid (hx ▸ BK5.out.far4 HN5_7.out _ _ _ _)
    replace BK6 : Hid (Bx x7 g6 31 #[.bool nb1, .slice Ab1 kb1 cb1, .bool nb2, .slice Ab2 kb2 cb2]) := Lib.hid (hx ▸ BK6.out.far4 HN6_7.out _ _ _ _)
    replace BK7 : Hid (Bx x7 g7 31 #[.bool nd1, .slice Ad1 kd1 cd1, .bool nd2, .slice Ad2 kd2 cd2]) := Lib.hid (hx ▸ BK7.out.put4 _ _ _ _)
    clear ne5_7 en5_7 ne6_7 en6_7
    replace HB : Hid (Below w.heap.size w x7) := Lib.hid (hx ▸ below_put4 HB.out HG7.out _ _ _ _)
    replace Ha := Lib.hid (Ha.out.kp KP)
    replace Hb := Lib.hid (Hb.out.kp KP)
    replace Hd := Lib.hid (Hd.out.kp KP)
    rw [hx]
    clear hx KP
    clear c5_0 c5_1 c5_2 c5_3 f5_0 f5_1 f5_2 f5_3
    clear c6_0 c6_1 c6_2 c6_3 f6_0 f6_1 f6_2 f6_3
    clear c7_0 c7_1 c7_2 c7_3 f7_0 f7_1 f7_2 f7_3
    obtain ⟨c5_0, c5_1, c5_2, c5_3, f5_0, f5_1, f5_2, f5_3⟩ := BK5.out.all4
    obtain ⟨c6_0, c6_1, c6_2, c6_3, f6_0, f6_1, f6_2, f6_3⟩ := BK6.out.all4
    obtain ⟨c7_0, c7_1, c7_2, c7_3, f7_0, f7_1, f7_2, f7_3⟩ := BK7.out.all4
    refine (p_qmul _ _ q r _ Ha.out Hb.out (n := 40) HQa.out HQb.out (by decide) (by decide)).mono ?_
    rintro e u6 ⟨vs1, rfl, hv, hb⟩
    replace HB := Lib.hid (bth HB.out hb)
    clear c5_0 c5_1 c5_2 c5_3 f5_0 f5_1 f5_2 f5_3
    replace BK5 := Lib.hid (BK5.out.below hb)
    obtain ⟨c5_0, c5_1, c5_2, c5_3, f5_0, f5_1, f5_2, f5_3⟩ := BK5.out.all4
    clear c6_0 c6_1 c6_2 c6_3 f6_0 f6_1 f6_2 f6_3
    replace BK6 := Lib.hid (BK6.out.below hb)
    obtain ⟨c6_0, c6_1, c6_2, c6_3, f6_0, f6_1, f6_2, f6_3⟩ := BK6.out.all4
    clear c7_0 c7_1 c7_2 c7_3 f7_0 f7_1 f7_2 f7_3
    replace BK7 := Lib.hid (BK7.out.below hb)
    obtain ⟨c7_0, c7_1, c7_2, c7_3, f7_0, f7_1, f7_2, f7_3⟩ := BK7.out.all4
    replace Ha := Lib.hid (Ha.out.below hb)
    replace Hb := Lib.hid (Hb.out.below hb)
    replace Hd := Lib.hid (Hd.out.below hb)
    clear hb
    have Hs1 := Lib.hid hv
    clear hv
    go_wp2_with fail
    refine (r_qmul q r _ (n := 40) HQa.out HQb.out (by decide)).mono ?_
    rintro e u7 ⟨rfl, hb⟩
    replace HB := Lib.hid (bth HB.out hb)
    clear c5_0 c5_1 c5_2 c5_3 f5_0 f5_1 f5_2 f5_3
    replace BK5 := Lib.hid (BK5.out.below hb)
    obtain ⟨c5_0, c5_1, c5_2, c5_3, f5_0, f5_1, f5_2, f5_3⟩ := BK5.out.all4
    clear c6_0 c6_1 c6_2 c6_3 f6_0 f6_1 f6_2 f6_3
    replace BK6 := Lib.hid (BK6.out.below hb)
    obtain ⟨c6_0, c6_1, c6_2, c6_3, f6_0, f6_1, f6_2, f6_3⟩ := BK6.out.all4
    clear c7_0 c7_1 c7_2 c7_3 f7_0 f7_1 f7_2 f7_3
    replace BK7 := Lib.hid (BK7.out.below hb)
    obtain ⟨c7_0, c7_1, c7_2, c7_3, f7_0, f7_1, f7_2, f7_3⟩ := BK7.out.all4
    replace Ha := Lib.hid (Ha.out.below hb)
    replace Hb := Lib.hid (Hb.out.below hb)
    replace Hd := Lib.hid (Hd.out.below hb)
    replace Hs1 := Lib.hid (Hs1.out.below hb)
    clear hb
    go_wp2_with fail
    refine (p_is _ (q * r) (qtx (q * r)) _ Hs1.out (n := 80) (TQ_mul HQa.out HQb.out) (by decide) (by decide) (HT0.out.below HB.out)).mono ?_
    rintro e u8 ⟨rfl, hb⟩
    replace HB := Lib.hid (bth HB.out hb)
    clear c5_0 c5_1 c5_2 c5_3 f5_0 f5_1 f5_2 f5_3
    replace BK5 := Lib.hid (BK5.out.below hb)
    obtain ⟨c5_0, c5_1, c5_2, c5_3, f5_0, f5_1, f5_2, f5_3⟩ := BK5.out.all4
    clear c6_0 c6_1 c6_2 c6_3 f6_0 f6_1 f6_2 f6_3
    replace BK6 := Lib.hid (BK6.out.below hb)
    obtain ⟨c6_0, c6_1, c6_2, c6_3, f6_0, f6_1, f6_2, f6_3⟩ := BK6.out.all4
    clear c7_0 c7_1 c7_2 c7_3 f7_0 f7_1 f7_2 f7_3
    replace BK7 := Lib.hid (BK7.out.below hb)
    obtain ⟨c7_0, c7_1, c7_2, c7_3, f7_0, f7_1, f7_2, f7_3⟩ := BK7.out.all4
    replace Ha := Lib.hid (Ha.out.below hb)
    replace Hb := Lib.hid (Hb.out.below hb)
    replace Hd := Lib.hid (Hd.out.below hb)
    replace Hs1 := Lib.hid (Hs1.out.below hb)
    clear hb
    rw [decide_eq_true (rfl : (qtx (q * r)) = (qtx (q * r)))]
    clear Hs1
    go_wp2_with fail
    have hb := below_drew (Below.refl u8.heap.size u8)
    replace HB := Lib.hid (bth HB.out hb)
    replace BK5 := Lib.hid (BK5.out.below hb)
    replace BK6 := Lib.hid (BK6.out.below hb)
    replace BK7 := Lib.hid (BK7.out.below hb)
    replace Ha := Lib.hid (Ha.out.below hb)
    replace Hb := Lib.hid (Hb.out.below hb)
    replace Hd := Lib.hid (Hd.out.below hb)
    clear hb
    clear c5_0 c5_1 c5_2 c5_3 f5_0 f5_1 f5_2 f5_3
    clear c6_0 c6_1 c6_2 c6_3 f6_0 f6_1 f6_2 f6_3
    clear c7_0 c7_1 c7_2 c7_3 f7_0 f7_1 f7_2 f7_3
    refine wpL_start 1000 (fun w' => w'.cell? ⟨g7, 0, none⟩ = some (.bool nd1) ∧ w'.cell? ⟨g7, 1, none⟩ = some (.slice Ad1 kd1 cd1) ∧ w'.cell? ⟨g7, 2, none⟩ = some (.bool nd2) ∧ w'.cell? ⟨g7, 3, none⟩ = some (.slice Ad2 kd2 cd2)) 1000 (fun w' => True) (by kernel_rfl) (⟨BK7.out.cell 0, BK7.out.cell 1, BK7.out.cell 2, BK7.out.cell 3⟩) (trivial) (fun hS => ?_)
    refine wpM1 (i := 0) (v := .int .i64 0) (some 45) rfl rfl (by kernel_rfl) (fun _ _ _ h => h) hS (Or.inl ⟨by rfl, fun w hSw => ?_⟩) (fun hS' => ?_)
    · (try dsimp only at hSw); clear hS; first | (go_simp; done) | (go_simp; with_reducible rfl)
    replace hS := hS'; clear hS'
    (try simp only [Act.put, List.setIfInBounds_toArray, List.set_cons_zero, List.set_cons_succ])
    refine wpM1 (i := 1) (v := .bool true) (some 46) rfl rfl (by kernel_rfl) (fun _ _ _ h => h) hS (Or.inl ⟨by rfl, fun w hSw => ?_⟩) (fun hS' => ?_)
    · (try dsimp only at hSw); clear hS; first | (go_simp; done) | (go_simp; with_reducible rfl)
    replace hS := hS'; clear hS'
    (try simp only [Act.put, List.setIfInBounds_toArray, List.set_cons_zero, List.set_cons_succ])
    refine wpM1 (i := 2) (v := .bool true) (some 47) rfl rfl (by kernel_rfl) (fun _ _ _ h => h) hS (Or.inl ⟨by rfl, fun w hSw => ?_⟩) (fun hS' => ?_)
    · (try dsimp only at hSw); clear hS; first | (go_simp; done) | (go_simp; with_reducible rfl)
    replace hS := hS'; clear hS'
    (try simp only [Act.put, List.setIfInBounds_toArray, List.set_cons_zero, List.set_cons_succ])
    refine wpM1 (i := 3) (v := (.agg #[.bool nd1, .slice Ad1 kd1 cd1, .bool nd2, .slice Ad2 kd2 cd2])) (some 48) rfl rfl (by kernel_rfl) (fun _ _ _ h => h) hS (Or.inl ⟨by rfl, fun w hSw => ?_⟩) (fun hS' => ?_)
    · (try dsimp only at hSw); clear hS; first | (go_simp; done) | (go_simp; with_reducible rfl)
    replace hS := hS'; clear hS'
    (try simp only [Act.put, List.setIfInBounds_toArray, List.set_cons_zero, List.set_cons_succ])
    refine wpM1 (i := 4) (v := .string (S (qtx q))) (some 49) rfl rfl (by kernel_rfl) (fun _ _ _ h => h) hS (Or.inl ⟨by rfl, fun w hSw => ?_⟩) (fun hS' => ?_)
    · (try dsimp only at hSw); clear hS; first | (go_simp; done) | (go_simp; with_reducible rfl)
    replace hS := hS'; clear hS'
    (try simp only [Act.put, List.setIfInBounds_toArray, List.set_cons_zero, List.set_cons_succ])
    refine wpM1 (i := 5) (v := .string (S (qtx r))) (some 50) rfl rfl (by kernel_rfl) (fun _ _ _ h => h) hS (Or.inl ⟨by rfl, fun w hSw => ?_⟩) (fun hS' => ?_)
    · (try dsimp only at hSw); clear hS; first | (go_simp; done) | (go_simp; with_reducible rfl)
    replace hS := hS'; clear hS'
    (try simp only [Act.put, List.setIfInBounds_toArray, List.set_cons_zero, List.set_cons_succ])
    refine wpL_one (i := 6) (by kernel_rfl) rfl (by rfl) (fun K hK => ?_)
    clear hS
    go_simp
    refine (r_qdiv q r _ H0.out (n := 40) HQa.out HQb.out (by decide)).mono ?_
    rintro e u ⟨rfl, hb⟩
    replace HB := Lib.hid (bth HB.out hb)
    replace BK5 := Lib.hid (BK5.out.below hb)
    replace BK6 := Lib.hid (BK6.out.below hb)
    replace BK7 := Lib.hid (BK7.out.below hb)
    replace Ha := Lib.hid (Ha.out.below hb)
    replace Hb := Lib.hid (Hb.out.below hb)
    replace Hd := Lib.hid (Hd.out.below hb)
    clear hb
    refine hK.out _ _ ⟨Or.inr (⟨BK7.out.cell 0, BK7.out.cell 1, BK7.out.cell 2, BK7.out.cell 3⟩), Or.inr (trivial)⟩ (fun hS => ?_)
    clear hK K
    (try simp only [Act.put, List.setIfInBounds_toArray, List.set_cons_zero, List.set_cons_succ])
    refine wpL_one (i := 7) (by kernel_rfl) rfl (by rfl) (fun K hK => ?_)
    clear hS
    go_simp
    refine (p_is _ (q / r) (qtx (q / r)) _ Hd.out (n := 80) (TQ_div HQa.out HQb.out H0.out) (by decide) (by decide) (HT0.out.below HB.out)).mono ?_
    rintro e u ⟨rfl, hb⟩
    replace HB := Lib.hid (bth HB.out hb)
    replace BK5 := Lib.hid (BK5.out.below hb)
    replace BK6 := Lib.hid (BK6.out.below hb)
    replace BK7 := Lib.hid (BK7.out.below hb)
    replace Ha := Lib.hid (Ha.out.below hb)
    replace Hb := Lib.hid (Hb.out.below hb)
    replace Hd := Lib.hid (Hd.out.below hb)
    clear hb
    rw [decide_eq_true (rfl : qtx (q / r) = qtx (q / r))]
    refine hK.out _ _ ⟨Or.inr (⟨BK7.out.cell 0, BK7.out.cell 1, BK7.out.cell 2, BK7.out.cell 3⟩), Or.inr (trivial)⟩ (fun hS => ?_)
    clear hK K
    (try simp only [Act.put, List.setIfInBounds_toArray, List.set_cons_zero, List.set_cons_succ])
    refine wpM1 (i := 8) (v := .bool true) (some 53) rfl rfl (by kernel_rfl) (fun _ _ _ h => h) hS (Or.inl ⟨by rfl, fun w hSw => ?_⟩) (fun hS' => ?_)
    · (try dsimp only at hSw); clear hS; first | (go_simp; done) | (go_simp; with_reducible rfl)
    replace hS := hS'; clear hS'
    (try simp only [Act.put, List.setIfInBounds_toArray, List.set_cons_zero, List.set_cons_succ])
    refine wpM2 (i := 9) (v := .bool true) (some 4) rfl rfl (by kernel_rfl) (fun _ _ _ h => h) hS (Or.inl ⟨by rfl, fun w hSw => ?_⟩) (fun hS' => ?_)
    · (try dsimp only at hSw); clear hS; first | (go_simp; done) | (go_simp; with_reducible rfl)
    replace hS := hS'; clear hS'
    (try simp only [Act.put, List.setIfInBounds_toArray, List.set_cons_zero, List.set_cons_succ])
    refine wpL_done (by kernel_rfl) ?_ _
    clear hS
    obtain ⟨c5_0, c5_1, c5_2, c5_3, f5_0, f5_1, f5_2, f5_3⟩ := BK5.out.all4
    obtain ⟨c6_0, c6_1, c6_2, c6_3, f6_0, f6_1, f6_2, f6_3⟩ := BK6.out.all4
    obtain ⟨c7_0, c7_1, c7_2, c7_3, f7_0, f7_1, f7_2, f7_3⟩ := BK7.out.all4
    go_wp2_with fail
    go_ret
    exact ⟨rfl, HB.out⟩
theorem law_muls (s t : List UInt8) (w : World) (ht : tab10 w) (hm : mx3 w) : Calls Tryz.prog 9 #[.string (S s), .string (S t)] w fun e w' => e = .returned (.bool true) ∧ Below w.heap.size w w' := by
  cases h : [s, t].all okQ
  · exact law_muls_out s t w ht h
  · simp only [List.all_cons, List.all_nil, Bool.and_true, Bool.and_eq_true] at h
    obtain ⟨h0, h1⟩ := h
    obtain ⟨q, rfl, l0⟩ := okQ_of h0
    obtain ⟨r, rfl, l1⟩ := okQ_of h1
    exact law_muls_in q r w ht hm ⟨l0, l1⟩
end Go.Proofs.YtapckjeedekphaaGreatDoor

