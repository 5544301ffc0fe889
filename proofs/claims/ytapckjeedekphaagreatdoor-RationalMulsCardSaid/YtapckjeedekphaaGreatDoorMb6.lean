/- Part 6 of the walk: our own texts for this claim, in order. -/
import Derived.Test.YtapckjeedekphaaGreatDoorMb5
namespace Go.Proofs.YtapckjeedekphaaGreatDoor
open Go.RowKit Go.Proofs.YtapckjeedekphaaGreatDoorW.PrintWords PR
theorem whole_eq {q : Rat} (h : q.den = 1) : ((q.num : Int) : Rat) = q := by
  apply Rat.ext
  · simp
  · rw [h]; rfl
theorem RR.whole {w : World} {n1 : Bool} {A1 : Option Addr} {k1 c1 : Nat} {x : Int} {q : Rat} (h1 : RI w (.agg #[.bool n1, .slice A1 k1 c1]) x) (e : ((x : Int) : Rat) = q) : RR w (.agg #[.bool n1, .slice A1 k1 c1, .bool false, .slice none 0 0]) q := (RR.ofInt h1).cast e
theorem whole_add {q r : Rat} (hq : q.den = 1) (hr : r.den = 1) : (((q.num + r.num : Int)) : Rat) = q + r := by rw [Rat.intCast_add, whole_eq hq, whole_eq hr]
def TwoI (w : World) (na1 : Bool) (Aa1 : Option Addr) (ka1 : Nat) (ca1 : Nat) (na2 : Bool) (Aa2 : Option Addr) (ka2 : Nat) (ca2 : Nat) (nb1 : Bool) (Ab1 : Option Addr) (kb1 : Nat) (cb1 : Nat) (nb2 : Bool) (Ab2 : Option Addr) (kb2 : Nat) (cb2 : Nat) (q : Rat) (r : Rat) (g2 g3 : Nat) (w' : World) : Prop := Bx w' g2 31 #[.bool na1, .slice Aa1 ka1 ca1, .bool na2, .slice Aa2 ka2 ca2] ∧ Bx w' g3 31 #[.bool nb1, .slice Ab1 kb1 cb1, .bool nb2, .slice Ab2 kb2 cb2] ∧ Below w.heap.size w w' ∧ RR w' (.agg #[.bool na1, .slice Aa1 ka1 ca1, .bool na2, .slice Aa2 ka2 ca2]) q ∧ RR w' (.agg #[.bool nb1, .slice Ab1 kb1 cb1, .bool nb2, .slice Ab2 kb2 cb2]) r
theorem TwoI.cells {w : World} {na1 : Bool} {Aa1 : Option Addr} {ka1 : Nat} {ca1 : Nat} {na2 : Bool} {Aa2 : Option Addr} {ka2 : Nat} {ca2 : Nat} {nb1 : Bool} {Ab1 : Option Addr} {kb1 : Nat} {cb1 : Nat} {nb2 : Bool} {Ab2 : Option Addr} {kb2 : Nat} {cb2 : Nat} {q : Rat} {r : Rat} {g2 g3 : Nat} {W : World} (h : TwoI w na1 Aa1 ka1 ca1 na2 Aa2 ka2 ca2 nb1 Ab1 kb1 cb1 nb2 Ab2 kb2 cb2 q r g2 g3 W) : W.cell? ⟨g2, 0, none⟩ = some (.bool na1) ∧ W.cell? ⟨g2, 1, none⟩ = some (.slice Aa1 ka1 ca1) ∧ W.cell? ⟨g2, 2, none⟩ = some (.bool na2) ∧ W.cell? ⟨g2, 3, none⟩ = some (.slice Aa2 ka2 ca2) ∧ W.cell? ⟨g3, 0, none⟩ = some (.bool nb1) ∧ W.cell? ⟨g3, 1, none⟩ = some (.slice Ab1 kb1 cb1) ∧ W.cell? ⟨g3, 2, none⟩ = some (.bool nb2) ∧ W.cell? ⟨g3, 3, none⟩ = some (.slice Ab2 kb2 cb2) ∧ Hid (TwoI w na1 Aa1 ka1 ca1 na2 Aa2 ka2 ca2 nb1 Ab1 kb1 cb1 nb2 Ab2 kb2 cb2 q r g2 g3 W) := by
  have h' := h
  obtain ⟨h2, h3, _⟩ := h
  exact ⟨h2.cell 0, h2.cell 1, h2.cell 2, h2.cell 3, h3.cell 0, h3.cell 1, h3.cell 2, h3.cell 3, h'⟩
theorem TwoI.below {w : World} {na1 : Bool} {Aa1 : Option Addr} {ka1 : Nat} {ca1 : Nat} {na2 : Bool} {Aa2 : Option Addr} {ka2 : Nat} {ca2 : Nat} {nb1 : Bool} {Ab1 : Option Addr} {kb1 : Nat} {cb1 : Nat} {nb2 : Bool} {Ab2 : Option Addr} {kb2 : Nat} {cb2 : Nat} {q : Rat} {r : Rat} {g2 g3 : Nat} {W W1 : World} (h : TwoI w na1 Aa1 ka1 ca1 na2 Aa2 ka2 ca2 nb1 Ab1 kb1 cb1 nb2 Ab2 kb2 cb2 q r g2 g3 W) (hb : Below W.heap.size W W1) : TwoI w na1 Aa1 ka1 ca1 na2 Aa2 ka2 ca2 nb1 Ab1 kb1 cb1 nb2 Ab2 kb2 cb2 q r g2 g3 W1 := by
  obtain ⟨h2, h3, hB, k0, k1⟩ := h
  exact ⟨h2.below hb, h3.below hb, bth hB hb, k0.below hb, k1.below hb⟩
theorem TwoI.store {w : World} {na1 : Bool} {Aa1 : Option Addr} {ka1 : Nat} {ca1 : Nat} {na2 : Bool} {Aa2 : Option Addr} {ka2 : Nat} {ca2 : Nat} {nb1 : Bool} {Ab1 : Option Addr} {kb1 : Nat} {cb1 : Nat} {nb2 : Bool} {Ab2 : Option Addr} {kb2 : Nat} {cb2 : Nat} {q : Rat} {r : Rat} {g2 g3 : Nat} {W : World} {gr : Nat} {cs : Array Value} (h : TwoI w na1 Aa1 ka1 ca1 na2 Aa2 ka2 ca2 nb1 Ab1 kb1 cb1 nb2 Ab2 kb2 cb2 q r g2 g3 W) (hx : Bx W gr 31 cs) (hg : w.heap.size ≤ gr) (n2 : g2 ≠ gr) (n3 : g3 ≠ gr) (i : Nat) (u : Value) : TwoI w na1 Aa1 ka1 ca1 na2 Aa2 ka2 ca2 nb1 Ab1 kb1 cb1 nb2 Ab2 kb2 cb2 q r g2 g3 (W.setCell ⟨gr, i, none⟩ u) := by
  obtain ⟨h2, h3, hB, k0, k1⟩ := h
  exact ⟨h2.far (p := ⟨gr, i, none⟩) n2 u, h3.far (p := ⟨gr, i, none⟩) n3 u, hB.setCell hg u, k0.kp ((Kp.refl _).box hx (by decide) i u), k1.kp ((Kp.refl _).box hx (by decide) i u)⟩
set_option maxHeartbeats 1600000 in
theorem p_qadd (va vb : Value) (q r : Rat) (w : World) (ha : RR w va q) (hb : RR w vb r) {n : Nat} (hq : TQ n q) (hr : TQ n r) (hn : n ≤ 400000) (hn1 : 1 ≤ n) : Calls Tryz.prog 39 #[va, vb] w (RetR w (q + r)) := by
  have HA := Lib.hid ha
  have HC := Lib.hid hb
  obtain ⟨na1, Aa1, ka1, ca1, na2, Aa2, ka2, ca2, rfl⟩ := ha.shape
  obtain ⟨nb1, Ab1, kb1, cb1, nb2, Ab2, kb2, cb2, rfl⟩ := hb.shape
  clear ha hb
  have HP := Lib.hid (And.intro hq (And.intro hr (And.intro hn hn1)))
  clear hq hr hn hn1
  by_cases h1 : q.den = 1
  · have HE1 := Lib.hid (decide_eq_true h1)
    have H1 := Lib.hid h1
    clear h1
    by_cases h2 : r.den = 1
    · have HE2 := Lib.hid (decide_eq_true h2)
      have H2 := Lib.hid h2
      clear h2
      have HB := Lib.hid (Below.refl w.heap.size w)
      go_enter Tryz.func39, Tryz.ntmps39
      go_wp2_with (first | ((with_reducible refine gate_dst (N := 2) rfl ?_); refine bx_event rfl (cs := #[.bool na1, .slice Aa1 ka1 ca1, .bool na2, .slice Aa2 ka2 ca2]) (t := 31) ?hr ?_; (case hr => first | (go_simp; done) | (go_simp; rfl)); intro g2 w2 hg bk hb; have HG2 := Lib.hid (Nat.le_trans HB.out.size hg); replace HB := Lib.hid (bth HB.out hb); replace HA := Lib.hid (HA.out.below hb); replace HC := Lib.hid (HC.out.below hb); have BK2 := Lib.hid bk; obtain ⟨c2_0, c2_1, c2_2, c2_3, f2_0, f2_1, f2_2, f2_3⟩ := BK2.out.all4; clear hb hg bk) | ((with_reducible refine gate_dst (N := 3) rfl ?_); refine bx_event rfl (cs := #[.bool nb1, .slice Ab1 kb1 cb1, .bool nb2, .slice Ab2 kb2 cb2]) (t := 31) ?hr ?_; (case hr => first | (go_simp; done) | (go_simp; rfl)); intro g3 w3 hg bk hb; have HG3 := Lib.hid (Nat.le_trans HB.out.size hg); replace HB := Lib.hid (bth HB.out hb); have HN2_3 := Lib.hid (Nat.ne_of_lt (Nat.lt_of_lt_of_le BK2.out.lt hg)); clear c2_0 c2_1 c2_2 c2_3 f2_0 f2_1 f2_2 f2_3; replace BK2 := Lib.hid (BK2.out.below hb); obtain ⟨c2_0, c2_1, c2_2, c2_3, f2_0, f2_1, f2_2, f2_3⟩ := BK2.out.all4; replace HA := Lib.hid (HA.out.below hb); replace HC := Lib.hid (HC.out.below hb); have BK3 := Lib.hid bk; obtain ⟨c3_0, c3_1, c3_2, c3_3, f3_0, f3_1, f3_2, f3_3⟩ := BK3.out.all4; clear hb hg bk) | ((with_reducible refine gate_dst (N := 4) rfl ?_); refine bx_event rfl (cs := #[.bool false, .slice none 0 0, .bool false, .slice none 0 0]) (t := 31) ?hr ?_; (case hr => first | (go_simp; done) | (go_simp; rfl)); intro g4 w4 hg bk hb; have HG4 := Lib.hid (Nat.le_trans HB.out.size hg); replace HB := Lib.hid (bth HB.out hb); have HN2_4 := Lib.hid (Nat.ne_of_lt (Nat.lt_of_lt_of_le BK2.out.lt hg)); have HN3_4 := Lib.hid (Nat.ne_of_lt (Nat.lt_of_lt_of_le BK3.out.lt hg)); clear c2_0 c2_1 c2_2 c2_3 f2_0 f2_1 f2_2 f2_3; replace BK2 := Lib.hid (BK2.out.below hb); obtain ⟨c2_0, c2_1, c2_2, c2_3, f2_0, f2_1, f2_2, f2_3⟩ := BK2.out.all4; clear c3_0 c3_1 c3_2 c3_3 f3_0 f3_1 f3_2 f3_3; replace BK3 := Lib.hid (BK3.out.below hb); obtain ⟨c3_0, c3_1, c3_2, c3_3, f3_0, f3_1, f3_2, f3_3⟩ := BK3.out.all4; replace HA := Lib.hid (HA.out.below hb); replace HC := Lib.hid (HC.out.below hb); have BK4 := Lib.hid bk; obtain ⟨c4_0, c4_1, c4_2, c4_3, f4_0, f4_1, f4_2, f4_3⟩ := BK4.out.all4; clear hb hg bk))
      refine (p_whole _ q _ HA.out (n := n) HP.out.1 (by have := HP.out.2.2.1; omega) HP.out.2.2.2).mono ?_
      rintro e u1 ⟨rfl, hb⟩
      replace HB := Lib.hid (bth HB.out hb)
      clear c2_0 c2_1 c2_2 c2_3 f2_0 f2_1 f2_2 f2_3
      replace BK2 := Lib.hid (BK2.out.below hb)
      obtain ⟨c2_0, c2_1, c2_2, c2_3, f2_0, f2_1, f2_2, f2_3⟩ := BK2.out.all4
      clear c3_0 c3_1 c3_2 c3_3 f3_0 f3_1 f3_2 f3_3
      replace BK3 := Lib.hid (BK3.out.below hb)
      obtain ⟨c3_0, c3_1, c3_2, c3_3, f3_0, f3_1, f3_2, f3_3⟩ := BK3.out.all4
      clear c4_0 c4_1 c4_2 c4_3 f4_0 f4_1 f4_2 f4_3
      replace BK4 := Lib.hid (BK4.out.below hb)
      obtain ⟨c4_0, c4_1, c4_2, c4_3, f4_0, f4_1, f4_2, f4_3⟩ := BK4.out.all4
      replace HA := Lib.hid (HA.out.below hb)
      replace HC := Lib.hid (HC.out.below hb)
      clear hb
      rw [HE1.out]
      go_wp2_with fail
      refine (p_whole _ r _ HC.out (n := n) HP.out.2.1 (by have := HP.out.2.2.1; omega) HP.out.2.2.2).mono ?_
      rintro e u2 ⟨rfl, hb⟩
      replace HB := Lib.hid (bth HB.out hb)
      clear c2_0 c2_1 c2_2 c2_3 f2_0 f2_1 f2_2 f2_3
      replace BK2 := Lib.hid (BK2.out.below hb)
      obtain ⟨c2_0, c2_1, c2_2, c2_3, f2_0, f2_1, f2_2, f2_3⟩ := BK2.out.all4
      clear c3_0 c3_1 c3_2 c3_3 f3_0 f3_1 f3_2 f3_3
      replace BK3 := Lib.hid (BK3.out.below hb)
      obtain ⟨c3_0, c3_1, c3_2, c3_3, f3_0, f3_1, f3_2, f3_3⟩ := BK3.out.all4
      clear c4_0 c4_1 c4_2 c4_3 f4_0 f4_1 f4_2 f4_3
      replace BK4 := Lib.hid (BK4.out.below hb)
      obtain ⟨c4_0, c4_1, c4_2, c4_3, f4_0, f4_1, f4_2, f4_3⟩ := BK4.out.all4
      replace HA := Lib.hid (HA.out.below hb)
      replace HC := Lib.hid (HC.out.below hb)
      clear hb
      rw [HE2.out]
      go_wp2_with fail
      refine (p_add _ _ q.num r.num _ HA.out.num HC.out.num (n := n) HP.out.1.1 HP.out.2.1.1 (by have := HP.out.2.2.1; omega)).mono ?_
      rintro e u3 ⟨vr, rfl, hvr, hb⟩
      replace HB := Lib.hid (bth HB.out hb)
      clear c2_0 c2_1 c2_2 c2_3 f2_0 f2_1 f2_2 f2_3
      replace BK2 := Lib.hid (BK2.out.below hb)
      obtain ⟨c2_0, c2_1, c2_2, c2_3, f2_0, f2_1, f2_2, f2_3⟩ := BK2.out.all4
      clear c3_0 c3_1 c3_2 c3_3 f3_0 f3_1 f3_2 f3_3
      replace BK3 := Lib.hid (BK3.out.below hb)
      obtain ⟨c3_0, c3_1, c3_2, c3_3, f3_0, f3_1, f3_2, f3_3⟩ := BK3.out.all4
      clear c4_0 c4_1 c4_2 c4_3 f4_0 f4_1 f4_2 f4_3
      replace BK4 := Lib.hid (BK4.out.below hb)
      obtain ⟨c4_0, c4_1, c4_2, c4_3, f4_0, f4_1, f4_2, f4_3⟩ := BK4.out.all4
      replace HA := Lib.hid (HA.out.below hb)
      replace HC := Lib.hid (HC.out.below hb)
      clear hb
      have HR := Lib.hid hvr
      obtain ⟨nr, Ar, kr, cr, rfl⟩ := hvr.shape
      clear hvr
      go_wp2_with fail
      refine bodyPost_ret (results_cell_row rfl _ _ g4 31 #[.bool nr, .slice Ar kr cr, .bool false, .slice none 0 0] (0, 0) _ rfl (BK4.out.put4 _ _ _ _) Tryz.underlying31 rfl (by kernel_rfl)) rfl ?_
      have KP := BK4.out.kp4 (by decide) (.bool nr) (.slice Ar kr cr) (.bool false) (.slice none 0 0)
      exact ⟨_, rfl, RR.whole (HR.out.kp KP) (whole_add H1.out H2.out), below_put4 HB.out HG4.out _ _ _ _⟩
    · have HE2 := Lib.hid (decide_eq_false h2)
      clear h2
      have HB := Lib.hid (Below.refl w.heap.size w)
      go_enter Tryz.func39, Tryz.ntmps39
      go_wp2_with (first | ((with_reducible refine gate_dst (N := 2) rfl ?_); refine bx_event rfl (cs := #[.bool na1, .slice Aa1 ka1 ca1, .bool na2, .slice Aa2 ka2 ca2]) (t := 31) ?hr ?_; (case hr => first | (go_simp; done) | (go_simp; rfl)); intro g2 w2 hg bk hb; have HG2 := Lib.hid (Nat.le_trans HB.out.size hg); replace HB := Lib.hid (bth HB.out hb); replace HA := Lib.hid (HA.out.below hb); replace HC := Lib.hid (HC.out.below hb); have BK2 := Lib.hid bk; obtain ⟨c2_0, c2_1, c2_2, c2_3, f2_0, f2_1, f2_2, f2_3⟩ := BK2.out.all4; clear hb hg bk) | ((with_reducible refine gate_dst (N := 3) rfl ?_); refine bx_event rfl (cs := #[.bool nb1, .slice Ab1 kb1 cb1, .bool nb2, .slice Ab2 kb2 cb2]) (t := 31) ?hr ?_; (case hr => first | (go_simp; done) | (go_simp; rfl)); intro g3 w3 hg bk hb; have HG3 := Lib.hid (Nat.le_trans HB.out.size hg); replace HB := Lib.hid (bth HB.out hb); have HN2_3 := Lib.hid (Nat.ne_of_lt (Nat.lt_of_lt_of_le BK2.out.lt hg)); clear c2_0 c2_1 c2_2 c2_3 f2_0 f2_1 f2_2 f2_3; replace BK2 := Lib.hid (BK2.out.below hb); obtain ⟨c2_0, c2_1, c2_2, c2_3, f2_0, f2_1, f2_2, f2_3⟩ := BK2.out.all4; replace HA := Lib.hid (HA.out.below hb); replace HC := Lib.hid (HC.out.below hb); have BK3 := Lib.hid bk; obtain ⟨c3_0, c3_1, c3_2, c3_3, f3_0, f3_1, f3_2, f3_3⟩ := BK3.out.all4; clear hb hg bk) | ((with_reducible refine gate_dst (N := 4) rfl ?_); refine bx_event rfl (cs := #[.bool false, .slice none 0 0, .bool false, .slice none 0 0]) (t := 31) ?hr ?_; (case hr => first | (go_simp; done) | (go_simp; rfl)); intro g4 w4 hg bk hb; have HG4 := Lib.hid (Nat.le_trans HB.out.size hg); replace HB := Lib.hid (bth HB.out hb); have HN2_4 := Lib.hid (Nat.ne_of_lt (Nat.lt_of_lt_of_le BK2.out.lt hg)); have HN3_4 := Lib.hid (Nat.ne_of_lt (Nat.lt_of_lt_of_le BK3.out.lt hg)); clear c2_0 c2_1 c2_2 c2_3 f2_0 f2_1 f2_2 f2_3; replace BK2 := Lib.hid (BK2.out.below hb); obtain ⟨c2_0, c2_1, c2_2, c2_3, f2_0, f2_1, f2_2, f2_3⟩ := BK2.out.all4; clear c3_0 c3_1 c3_2 c3_3 f3_0 f3_1 f3_2 f3_3; replace BK3 := Lib.hid (BK3.out.below hb); obtain ⟨c3_0, c3_1, c3_2, c3_3, f3_0, f3_1, f3_2, f3_3⟩ := BK3.out.all4; replace HA := Lib.hid (HA.out.below hb); replace HC := Lib.hid (HC.out.below hb); have BK4 := Lib.hid bk; obtain ⟨c4_0, c4_1, c4_2, c4_3, f4_0, f4_1, f4_2, f4_3⟩ := BK4.out.all4; clear hb hg bk))
      refine (p_whole _ q _ HA.out (n := n) HP.out.1 (by have := HP.out.2.2.1; omega) HP.out.2.2.2).mono ?_
      rintro e u1 ⟨rfl, hb⟩
      replace HB := Lib.hid (bth HB.out hb)
      clear c2_0 c2_1 c2_2 c2_3 f2_0 f2_1 f2_2 f2_3
      replace BK2 := Lib.hid (BK2.out.below hb)
      obtain ⟨c2_0, c2_1, c2_2, c2_3, f2_0, f2_1, f2_2, f2_3⟩ := BK2.out.all4
      clear c3_0 c3_1 c3_2 c3_3 f3_0 f3_1 f3_2 f3_3
      replace BK3 := Lib.hid (BK3.out.below hb)
      obtain ⟨c3_0, c3_1, c3_2, c3_3, f3_0, f3_1, f3_2, f3_3⟩ := BK3.out.all4
      clear c4_0 c4_1 c4_2 c4_3 f4_0 f4_1 f4_2 f4_3
      replace BK4 := Lib.hid (BK4.out.below hb)
      obtain ⟨c4_0, c4_1, c4_2, c4_3, f4_0, f4_1, f4_2, f4_3⟩ := BK4.out.all4
      replace HA := Lib.hid (HA.out.below hb)
      replace HC := Lib.hid (HC.out.below hb)
      clear hb
      rw [HE1.out]
      go_wp2_with fail
      refine (p_whole _ r _ HC.out (n := n) HP.out.2.1 (by have := HP.out.2.2.1; omega) HP.out.2.2.2).mono ?_
      rintro e u2 ⟨rfl, hb⟩
      replace HB := Lib.hid (bth HB.out hb)
      clear c2_0 c2_1 c2_2 c2_3 f2_0 f2_1 f2_2 f2_3
      replace BK2 := Lib.hid (BK2.out.below hb)
      obtain ⟨c2_0, c2_1, c2_2, c2_3, f2_0, f2_1, f2_2, f2_3⟩ := BK2.out.all4
      clear c3_0 c3_1 c3_2 c3_3 f3_0 f3_1 f3_2 f3_3
      replace BK3 := Lib.hid (BK3.out.below hb)
      obtain ⟨c3_0, c3_1, c3_2, c3_3, f3_0, f3_1, f3_2, f3_3⟩ := BK3.out.all4
      clear c4_0 c4_1 c4_2 c4_3 f4_0 f4_1 f4_2 f4_3
      replace BK4 := Lib.hid (BK4.out.below hb)
      obtain ⟨c4_0, c4_1, c4_2, c4_3, f4_0, f4_1, f4_2, f4_3⟩ := BK4.out.all4
      replace HA := Lib.hid (HA.out.below hb)
      replace HC := Lib.hid (HC.out.below hb)
      clear hb
      rw [HE2.out]
      go_wp2_with fail
      have HI : Hid (TwoI w na1 Aa1 ka1 ca1 na2 Aa2 ka2 ca2 nb1 Ab1 kb1 cb1 nb2 Ab2 kb2 cb2 q r g2 g3 u2) := ⟨BK2.out, BK3.out, HB.out, HA.out, HC.out⟩
      clear c2_0 c2_1 c2_2 c2_3 f2_0 f2_1 f2_2 f2_3 BK2
      clear c3_0 c3_1 c3_2 c3_3 f3_0 f3_1 f3_2 f3_3 BK3
      clear c4_0 c4_1 c4_2 c4_3 f4_0 f4_1 f4_2 f4_3
      clear HB HA HC
      have BKr := BK4
      clear BK4
      first
      | (go_region_held3 (fun w' => w'.cell? ⟨g2, 0, none⟩ = some (.bool na1) ∧ w'.cell? ⟨g2, 1, none⟩ = some (.slice Aa1 ka1 ca1) ∧ w'.cell? ⟨g2, 2, none⟩ = some (.bool na2) ∧ w'.cell? ⟨g2, 3, none⟩ = some (.slice Aa2 ka2 ca2) ∧ w'.cell? ⟨g3, 0, none⟩ = some (.bool nb1) ∧ w'.cell? ⟨g3, 1, none⟩ = some (.slice Ab1 kb1 cb1) ∧ w'.cell? ⟨g3, 2, none⟩ = some (.bool nb2) ∧ w'.cell? ⟨g3, 3, none⟩ = some (.slice Ab2 kb2 cb2) ∧ Hid (TwoI w na1 Aa1 ka1 ca1 na2 Aa2 ka2 ca2 nb1 Ab1 kb1 cb1 nb2 Ab2 kb2 cb2 q r g2 g3 w')) (first | exact (HI.out.below (below_drew (Below.refl _ _))).cells | exact (HQ.out.below hb).cells | exact (((((HQ.out.below hb).store BKr.out HG4.out HN2_4.out HN3_4.out 0 _).store (BKr.out.set_ 0 _) HG4.out HN2_4.out HN3_4.out 1 _).store ((BKr.out.set_ 0 _).set_ 1 _) HG4.out HN2_4.out HN3_4.out 2 _).store (((BKr.out.set_ 0 _).set_ 1 _).set_ 2 _) HG4.out HN2_4.out HN3_4.out 3 _).cells)
          (first | (go_at_call_of 33 Ab1; have HQ0 := ‹_ ∧ _ ∧ _ ∧ _ ∧ _ ∧ _ ∧ _ ∧ _ ∧ Hid (TwoI w na1 Aa1 ka1 ca1 na2 Aa2 ka2 ca2 nb1 Ab1 kb1 cb1 nb2 Ab2 kb2 cb2 q r g2 g3 _)›; have HQ := HQ0.2.2.2.2.2.2.2.2; clear HQ0; refine (p_den _ r _ HQ.out.2.2.2.2).mono ?_; rintro e u ⟨vdb, rfl, hv, hb⟩; have BKr' : Hid (Bx u g4 31 #[.bool false, .slice none 0 0, .bool false, .slice none 0 0]) := (by first | exact BKr.out.below hb | exact BKr.out.drew.below hb); clear BKr; have BKr := BKr'; clear BKr'; have cr0 := BKr.out.cell 0; have fr0 := BKr.out.frozen 0; have cr1 := BKr.out.cell 1; have fr1 := BKr.out.frozen 1; have cr2 := BKr.out.cell 2; have fr2 := BKr.out.frozen 2; have cr3 := BKr.out.cell 3; have fr3 := BKr.out.frozen 3; (try (replace HDa := Lib.hid (HDa.out.below hb))); (try (replace HM1 := Lib.hid (HM1.out.below hb))); (try (replace HM2 := Lib.hid (HM2.out.below hb))); (try (replace HS := Lib.hid (HS.out.below hb))); (try (replace HM3 := Lib.hid (HM3.out.below hb))); have HDb := Lib.hid hv; clear hv) | (go_at_call_of 142 Aa1; have HQ0 := ‹_ ∧ _ ∧ _ ∧ _ ∧ _ ∧ _ ∧ _ ∧ _ ∧ Hid (TwoI w na1 Aa1 ka1 ca1 na2 Aa2 ka2 ca2 nb1 Ab1 kb1 cb1 nb2 Ab2 kb2 cb2 q r g2 g3 _)›; have HQ := HQ0.2.2.2.2.2.2.2.2; clear HQ0; refine (p_mul _ _ q.num r.den _ HQ.out.2.2.2.1.num HDb.out (n := n) HP.out.1.1 HP.out.2.1.2 (by have := HP.out.2.2.1; omega)).mono ?_; rintro e u ⟨vm1, rfl, hv, hb⟩; have BKr' : Hid (Bx u g4 31 #[.bool false, .slice none 0 0, .bool false, .slice none 0 0]) := (by first | exact BKr.out.below hb | exact BKr.out.drew.below hb); clear BKr; have BKr := BKr'; clear BKr'; have cr0 := BKr.out.cell 0; have fr0 := BKr.out.frozen 0; have cr1 := BKr.out.cell 1; have fr1 := BKr.out.frozen 1; have cr2 := BKr.out.cell 2; have fr2 := BKr.out.frozen 2; have cr3 := BKr.out.cell 3; have fr3 := BKr.out.frozen 3; (try (replace HDa := Lib.hid (HDa.out.below hb))); (try (replace HDb := Lib.hid (HDb.out.below hb))); (try (replace HM2 := Lib.hid (HM2.out.below hb))); (try (replace HS := Lib.hid (HS.out.below hb))); (try (replace HM3 := Lib.hid (HM3.out.below hb))); have HM1 := Lib.hid hv; clear hv) | (go_at_call_of 33 Aa1; have HQ0 := ‹_ ∧ _ ∧ _ ∧ _ ∧ _ ∧ _ ∧ _ ∧ _ ∧ Hid (TwoI w na1 Aa1 ka1 ca1 na2 Aa2 ka2 ca2 nb1 Ab1 kb1 cb1 nb2 Ab2 kb2 cb2 q r g2 g3 _)›; have HQ := HQ0.2.2.2.2.2.2.2.2; clear HQ0; refine (p_den _ q _ HQ.out.2.2.2.1).mono ?_; rintro e u ⟨vda, rfl, hv, hb⟩; have BKr' : Hid (Bx u g4 31 #[.bool false, .slice none 0 0, .bool false, .slice none 0 0]) := (by first | exact BKr.out.below hb | exact BKr.out.drew.below hb); clear BKr; have BKr := BKr'; clear BKr'; have cr0 := BKr.out.cell 0; have fr0 := BKr.out.frozen 0; have cr1 := BKr.out.cell 1; have fr1 := BKr.out.frozen 1; have cr2 := BKr.out.cell 2; have fr2 := BKr.out.frozen 2; have cr3 := BKr.out.cell 3; have fr3 := BKr.out.frozen 3; (try (replace HDb := Lib.hid (HDb.out.below hb))); (try (replace HM1 := Lib.hid (HM1.out.below hb))); (try (replace HM2 := Lib.hid (HM2.out.below hb))); (try (replace HS := Lib.hid (HS.out.below hb))); (try (replace HM3 := Lib.hid (HM3.out.below hb))); have HDa := Lib.hid hv; clear hv) | (go_at_call_of 142 Ab1; have HQ0 := ‹_ ∧ _ ∧ _ ∧ _ ∧ _ ∧ _ ∧ _ ∧ _ ∧ Hid (TwoI w na1 Aa1 ka1 ca1 na2 Aa2 ka2 ca2 nb1 Ab1 kb1 cb1 nb2 Ab2 kb2 cb2 q r g2 g3 _)›; have HQ := HQ0.2.2.2.2.2.2.2.2; clear HQ0; refine (p_mul _ _ r.num q.den _ HQ.out.2.2.2.2.num HDa.out (n := n) HP.out.2.1.1 HP.out.1.2 (by have := HP.out.2.2.1; omega)).mono ?_; rintro e u ⟨vm2, rfl, hv, hb⟩; have BKr' : Hid (Bx u g4 31 #[.bool false, .slice none 0 0, .bool false, .slice none 0 0]) := (by first | exact BKr.out.below hb | exact BKr.out.drew.below hb); clear BKr; have BKr := BKr'; clear BKr'; have cr0 := BKr.out.cell 0; have fr0 := BKr.out.frozen 0; have cr1 := BKr.out.cell 1; have fr1 := BKr.out.frozen 1; have cr2 := BKr.out.cell 2; have fr2 := BKr.out.frozen 2; have cr3 := BKr.out.cell 3; have fr3 := BKr.out.frozen 3; (try (replace HDa := Lib.hid (HDa.out.below hb))); (try (replace HDb := Lib.hid (HDb.out.below hb))); (try (replace HM1 := Lib.hid (HM1.out.below hb))); (try (replace HS := Lib.hid (HS.out.below hb))); (try (replace HM3 := Lib.hid (HM3.out.below hb))); have HM2 := Lib.hid hv; clear hv) | (go_at_call 141; have HQ0 := ‹_ ∧ _ ∧ _ ∧ _ ∧ _ ∧ _ ∧ _ ∧ _ ∧ Hid (TwoI w na1 Aa1 ka1 ca1 na2 Aa2 ka2 ca2 nb1 Ab1 kb1 cb1 nb2 Ab2 kb2 cb2 q r g2 g3 _)›; have HQ := HQ0.2.2.2.2.2.2.2.2; clear HQ0; refine (p_add _ _ (q.num * r.den) (r.num * q.den) _ HM1.out HM2.out (n := n + n) (Td_mul HP.out.1.1 HP.out.2.1.2) (Td_mul HP.out.2.1.1 HP.out.1.2) (by have := HP.out.2.2.1; omega)).mono ?_; rintro e u ⟨vs, rfl, hv, hb⟩; have BKr' : Hid (Bx u g4 31 #[.bool false, .slice none 0 0, .bool false, .slice none 0 0]) := (by first | exact BKr.out.below hb | exact BKr.out.drew.below hb); clear BKr; have BKr := BKr'; clear BKr'; have cr0 := BKr.out.cell 0; have fr0 := BKr.out.frozen 0; have cr1 := BKr.out.cell 1; have fr1 := BKr.out.frozen 1; have cr2 := BKr.out.cell 2; have fr2 := BKr.out.frozen 2; have cr3 := BKr.out.cell 3; have fr3 := BKr.out.frozen 3; (try (replace HDa := Lib.hid (HDa.out.below hb))); (try (replace HDb := Lib.hid (HDb.out.below hb))); (try (replace HM1 := Lib.hid (HM1.out.below hb))); (try (replace HM2 := Lib.hid (HM2.out.below hb))); (try (replace HM3 := Lib.hid (HM3.out.below hb))); have HS := Lib.hid hv; clear hv) | (go_at_call 142; have HQ0 := ‹_ ∧ _ ∧ _ ∧ _ ∧ _ ∧ _ ∧ _ ∧ _ ∧ Hid (TwoI w na1 Aa1 ka1 ca1 na2 Aa2 ka2 ca2 nb1 Ab1 kb1 cb1 nb2 Ab2 kb2 cb2 q r g2 g3 _)›; have HQ := HQ0.2.2.2.2.2.2.2.2; clear HQ0; refine (p_mul _ _ q.den r.den _ HDa.out HDb.out (n := n) HP.out.1.2 HP.out.2.1.2 (by have := HP.out.2.2.1; omega)).mono ?_; rintro e u ⟨vm3, rfl, hv, hb⟩; have BKr' : Hid (Bx u g4 31 #[.bool false, .slice none 0 0, .bool false, .slice none 0 0]) := (by first | exact BKr.out.below hb | exact BKr.out.drew.below hb); clear BKr; have BKr := BKr'; clear BKr'; have cr0 := BKr.out.cell 0; have fr0 := BKr.out.frozen 0; have cr1 := BKr.out.cell 1; have fr1 := BKr.out.frozen 1; have cr2 := BKr.out.cell 2; have fr2 := BKr.out.frozen 2; have cr3 := BKr.out.cell 3; have fr3 := BKr.out.frozen 3; (try (replace HDa := Lib.hid (HDa.out.below hb))); (try (replace HDb := Lib.hid (HDb.out.below hb))); (try (replace HM1 := Lib.hid (HM1.out.below hb))); (try (replace HM2 := Lib.hid (HM2.out.below hb))); (try (replace HS := Lib.hid (HS.out.below hb))); have HM3 := Lib.hid hv; clear hv) | (go_at_call 125; have HQ0 := ‹_ ∧ _ ∧ _ ∧ _ ∧ _ ∧ _ ∧ _ ∧ _ ∧ Hid (TwoI w na1 Aa1 ka1 ca1 na2 Aa2 ka2 ca2 nb1 Ab1 kb1 cb1 nb2 Ab2 kb2 cb2 q r g2 g3 _)›; have HQ := HQ0.2.2.2.2.2.2.2.2; clear HQ0; refine (p_reduced _ _ _ _ _ HS.out HM3.out (n := n + n + 1) (Td_add (Td_mul HP.out.1.1 HP.out.2.1.2) (Td_mul HP.out.2.1.1 HP.out.1.2)) (Td_mono (Td_mul HP.out.1.2 HP.out.2.1.2) (by omega)) (Int.mul_ne_zero (den_ne q) (den_ne r)) (by have := HP.out.2.2.1; omega) (by omega)).mono ?_; rintro e u ⟨vr, rfl, hv, hb⟩; have BKr' : Hid (Bx u g4 31 #[.bool false, .slice none 0 0, .bool false, .slice none 0 0]) := (by first | exact BKr.out.below hb | exact BKr.out.drew.below hb); clear BKr; have BKr := BKr'; clear BKr'; have cr0 := BKr.out.cell 0; have fr0 := BKr.out.frozen 0; have cr1 := BKr.out.cell 1; have fr1 := BKr.out.frozen 1; have cr2 := BKr.out.cell 2; have fr2 := BKr.out.frozen 2; have cr3 := BKr.out.cell 3; have fr3 := BKr.out.frozen 3; have HR := Lib.hid (hv.cast (add_eq q r)); obtain ⟨nr1, Ar1, kr1, cr1, nr2, Ar2, kr2, cr2, rfl⟩ := hv.shape; clear hv)))
      | fail
      all_goals
        go_wp2_with fail
        refine bodyPost_ret (results_cell_row rfl _ _ g4 31 #[.bool nr1, .slice Ar1 kr1 cr1, .bool nr2, .slice Ar2 kr2 cr2] (0, 0) _ rfl (BKr.out.put4 _ _ _ _) Tryz.underlying31 rfl (by kernel_rfl)) rfl ?_
        have KP := BKr.out.kp4 (by decide) (.bool nr1) (.slice Ar1 kr1 cr1) (.bool nr2) (.slice Ar2 kr2 cr2)
        exact ⟨_, rfl, HR.out.kp KP, below_put4 ((HQ.out.below hb).2.2.1) HG4.out _ _ _ _⟩
  · have HE1 := Lib.hid (decide_eq_false h1)
    clear h1
    have HB := Lib.hid (Below.refl w.heap.size w)
    go_enter Tryz.func39, Tryz.ntmps39
    go_wp2_with (first | ((with_reducible refine gate_dst (N := 2) rfl ?_); refine bx_event rfl (cs := #[.bool na1, .slice Aa1 ka1 ca1, .bool na2, .slice Aa2 ka2 ca2]) (t := 31) ?hr ?_; (case hr => first | (go_simp; done) | (go_simp; rfl)); intro g2 w2 hg bk hb; have HG2 := Lib.hid (Nat.le_trans HB.out.size hg); replace HB := Lib.hid (bth HB.out hb); replace HA := Lib.hid (HA.out.below hb); replace HC := Lib.hid (HC.out.below hb); have BK2 := Lib.hid bk; obtain ⟨c2_0, c2_1, c2_2, c2_3, f2_0, f2_1, f2_2, f2_3⟩ := BK2.out.all4; clear hb hg bk) | ((with_reducible refine gate_dst (N := 3) rfl ?_); refine bx_event rfl (cs := #[.bool nb1, .slice Ab1 kb1 cb1, .bool nb2, .slice Ab2 kb2 cb2]) (t := 31) ?hr ?_; (case hr => first | (go_simp; done) | (go_simp; rfl)); intro g3 w3 hg bk hb; have HG3 := Lib.hid (Nat.le_trans HB.out.size hg); replace HB := Lib.hid (bth HB.out hb); have HN2_3 := Lib.hid (Nat.ne_of_lt (Nat.lt_of_lt_of_le BK2.out.lt hg)); clear c2_0 c2_1 c2_2 c2_3 f2_0 f2_1 f2_2 f2_3; replace BK2 := Lib.hid (BK2.out.below hb); obtain ⟨c2_0, c2_1, c2_2, c2_3, f2_0, f2_1, f2_2, f2_3⟩ := BK2.out.all4; replace HA := Lib.hid (HA.out.below hb); replace HC := Lib.hid (HC.out.below hb); have BK3 := Lib.hid bk; obtain ⟨c3_0, c3_1, c3_2, c3_3, f3_0, f3_1, f3_2, f3_3⟩ := BK3.out.all4; clear hb hg bk) | ((with_reducible refine gate_dst (N := 4) rfl ?_); refine bx_event rfl (cs := #[.bool false, .slice none 0 0, .bool false, .slice none 0 0]) (t := 31) ?hr ?_; (case hr => first | (go_simp; done) | (go_simp; rfl)); intro g4 w4 hg bk hb; have HG4 := Lib.hid (Nat.le_trans HB.out.size hg); replace HB := Lib.hid (bth HB.out hb); have HN2_4 := Lib.hid (Nat.ne_of_lt (Nat.lt_of_lt_of_le BK2.out.lt hg)); have HN3_4 := Lib.hid (Nat.ne_of_lt (Nat.lt_of_lt_of_le BK3.out.lt hg)); clear c2_0 c2_1 c2_2 c2_3 f2_0 f2_1 f2_2 f2_3; replace BK2 := Lib.hid (BK2.out.below hb); obtain ⟨c2_0, c2_1, c2_2, c2_3, f2_0, f2_1, f2_2, f2_3⟩ := BK2.out.all4; clear c3_0 c3_1 c3_2 c3_3 f3_0 f3_1 f3_2 f3_3; replace BK3 := Lib.hid (BK3.out.below hb); obtain ⟨c3_0, c3_1, c3_2, c3_3, f3_0, f3_1, f3_2, f3_3⟩ := BK3.out.all4; replace HA := Lib.hid (HA.out.below hb); replace HC := Lib.hid (HC.out.below hb); have BK4 := Lib.hid bk; obtain ⟨c4_0, c4_1, c4_2, c4_3, f4_0, f4_1, f4_2, f4_3⟩ := BK4.out.all4; clear hb hg bk))
    refine (p_whole _ q _ HA.out (n := n) HP.out.1 (by have := HP.out.2.2.1; omega) HP.out.2.2.2).mono ?_
    rintro e u1 ⟨rfl, hb⟩
    replace HB := Lib.hid (bth HB.out hb)
    clear c2_0 c2_1 c2_2 c2_3 f2_0 f2_1 f2_2 f2_3
    replace BK2 := Lib.hid (BK2.out.below hb)
    obtain ⟨c2_0, c2_1, c2_2, c2_3, f2_0, f2_1, f2_2, f2_3⟩ := BK2.out.all4
    clear c3_0 c3_1 c3_2 c3_3 f3_0 f3_1 f3_2 f3_3
    replace BK3 := Lib.hid (BK3.out.below hb)
    obtain ⟨c3_0, c3_1, c3_2, c3_3, f3_0, f3_1, f3_2, f3_3⟩ := BK3.out.all4
    clear c4_0 c4_1 c4_2 c4_3 f4_0 f4_1 f4_2 f4_3
    replace BK4 := Lib.hid (BK4.out.below hb)
    obtain ⟨c4_0, c4_1, c4_2, c4_3, f4_0, f4_1, f4_2, f4_3⟩ := BK4.out.all4
    replace HA := Lib.hid (HA.out.below hb)
    replace HC := Lib.hid (HC.out.below hb)
    clear hb
    rw [HE1.out]
    go_wp2_with fail
    have HI : Hid (TwoI w na1 Aa1 ka1 ca1 na2 Aa2 ka2 ca2 nb1 Ab1 kb1 cb1 nb2 Ab2 kb2 cb2 q r g2 g3 u1) := ⟨BK2.out, BK3.out, HB.out, HA.out, HC.out⟩
    clear c2_0 c2_1 c2_2 c2_3 f2_0 f2_1 f2_2 f2_3 BK2
    clear c3_0 c3_1 c3_2 c3_3 f3_0 f3_1 f3_2 f3_3 BK3
    clear c4_0 c4_1 c4_2 c4_3 f4_0 f4_1 f4_2 f4_3
    clear HB HA HC
    have BKr := BK4
    clear BK4
    first
    | (go_region_held3 (fun w' => w'.cell? ⟨g2, 0, none⟩ = some (.bool na1) ∧ w'.cell? ⟨g2, 1, none⟩ = some (.slice Aa1 ka1 ca1) ∧ w'.cell? ⟨g2, 2, none⟩ = some (.bool na2) ∧ w'.cell? ⟨g2, 3, none⟩ = some (.slice Aa2 ka2 ca2) ∧ w'.cell? ⟨g3, 0, none⟩ = some (.bool nb1) ∧ w'.cell? ⟨g3, 1, none⟩ = some (.slice Ab1 kb1 cb1) ∧ w'.cell? ⟨g3, 2, none⟩ = some (.bool nb2) ∧ w'.cell? ⟨g3, 3, none⟩ = some (.slice Ab2 kb2 cb2) ∧ Hid (TwoI w na1 Aa1 ka1 ca1 na2 Aa2 ka2 ca2 nb1 Ab1 kb1 cb1 nb2 Ab2 kb2 cb2 q r g2 g3 w')) (first | exact (HI.out.below (below_drew (Below.refl _ _))).cells | exact (HQ.out.below hb).cells | exact (((((HQ.out.below hb).store BKr.out HG4.out HN2_4.out HN3_4.out 0 _).store (BKr.out.set_ 0 _) HG4.out HN2_4.out HN3_4.out 1 _).store ((BKr.out.set_ 0 _).set_ 1 _) HG4.out HN2_4.out HN3_4.out 2 _).store (((BKr.out.set_ 0 _).set_ 1 _).set_ 2 _) HG4.out HN2_4.out HN3_4.out 3 _).cells)
        (first | (go_at_call_of 33 Ab1; have HQ0 := ‹_ ∧ _ ∧ _ ∧ _ ∧ _ ∧ _ ∧ _ ∧ _ ∧ Hid (TwoI w na1 Aa1 ka1 ca1 na2 Aa2 ka2 ca2 nb1 Ab1 kb1 cb1 nb2 Ab2 kb2 cb2 q r g2 g3 _)›; have HQ := HQ0.2.2.2.2.2.2.2.2; clear HQ0; refine (p_den _ r _ HQ.out.2.2.2.2).mono ?_; rintro e u ⟨vdb, rfl, hv, hb⟩; have BKr' : Hid (Bx u g4 31 #[.bool false, .slice none 0 0, .bool false, .slice none 0 0]) := (by first | exact BKr.out.below hb | exact BKr.out.drew.below hb); clear BKr; have BKr := BKr'; clear BKr'; have cr0 := BKr.out.cell 0; have fr0 := BKr.out.frozen 0; have cr1 := BKr.out.cell 1; have fr1 := BKr.out.frozen 1; have cr2 := BKr.out.cell 2; have fr2 := BKr.out.frozen 2; have cr3 := BKr.out.cell 3; have fr3 := BKr.out.frozen 3; (try (replace HDa := Lib.hid (HDa.out.below hb))); (try (replace HM1 := Lib.hid (HM1.out.below hb))); (try (replace HM2 := Lib.hid (HM2.out.below hb))); (try (replace HS := Lib.hid (HS.out.below hb))); (try (replace HM3 := Lib.hid (HM3.out.below hb))); have HDb := Lib.hid hv; clear hv) | (go_at_call_of 142 Aa1; have HQ0 := ‹_ ∧ _ ∧ _ ∧ _ ∧ _ ∧ _ ∧ _ ∧ _ ∧ Hid (TwoI w na1 Aa1 ka1 ca1 na2 Aa2 ka2 ca2 nb1 Ab1 kb1 cb1 nb2 Ab2 kb2 cb2 q r g2 g3 _)›; have HQ := HQ0.2.2.2.2.2.2.2.2; clear HQ0; refine (p_mul _ _ q.num r.den _ HQ.out.2.2.2.1.num HDb.out (n := n) HP.out.1.1 HP.out.2.1.2 (by have := HP.out.2.2.1; omega)).mono ?_; rintro e u ⟨vm1, rfl, hv, hb⟩; have BKr' : Hid (Bx u g4 31 #[.bool false, .slice none 0 0, .bool false, .slice none 0 0]) := (by first | exact BKr.out.below hb | exact BKr.out.drew.below hb); clear BKr; have BKr := BKr'; clear BKr'; have cr0 := BKr.out.cell 0; have fr0 := BKr.out.frozen 0; have cr1 := BKr.out.cell 1; have fr1 := BKr.out.frozen 1; have cr2 := BKr.out.cell 2; have fr2 := BKr.out.frozen 2; have cr3 := BKr.out.cell 3; have fr3 := BKr.out.frozen 3; (try (replace HDa := Lib.hid (HDa.out.below hb))); (try (replace HDb := Lib.hid (HDb.out.below hb))); (try (replace HM2 := Lib.hid (HM2.out.below hb))); (try (replace HS := Lib.hid (HS.out.below hb))); (try (replace HM3 := Lib.hid (HM3.out.below hb))); have HM1 := Lib.hid hv; clear hv) | (go_at_call_of 33 Aa1; have HQ0 := ‹_ ∧ _ ∧ _ ∧ _ ∧ _ ∧ _ ∧ _ ∧ _ ∧ Hid (TwoI w na1 Aa1 ka1 ca1 na2 Aa2 ka2 ca2 nb1 Ab1 kb1 cb1 nb2 Ab2 kb2 cb2 q r g2 g3 _)›; have HQ := HQ0.2.2.2.2.2.2.2.2; clear HQ0; refine (p_den _ q _ HQ.out.2.2.2.1).mono ?_; rintro e u ⟨vda, rfl, hv, hb⟩; have BKr' : Hid (Bx u g4 31 #[.bool false, .slice none 0 0, .bool false, .slice none 0 0]) := (by first | exact BKr.out.below hb | exact BKr.out.drew.below hb); clear BKr; have BKr := BKr'; clear BKr'; have cr0 := BKr.out.cell 0; have fr0 := BKr.out.frozen 0; have cr1 := BKr.out.cell 1; have fr1 := BKr.out.frozen 1; have cr2 := BKr.out.cell 2; have fr2 := BKr.out.frozen 2; have cr3 := BKr.out.cell 3; have fr3 := BKr.out.frozen 3; (try (replace HDb := Lib.hid (HDb.out.below hb))); (try (replace HM1 := Lib.hid (HM1.out.below hb))); (try (replace HM2 := Lib.hid (HM2.out.below hb))); (try (replace HS := Lib.hid (HS.out.below hb))); (try (replace HM3 := Lib.hid (HM3.out.below hb))); have HDa := Lib.hid hv; clear hv) | (go_at_call_of 142 Ab1; have HQ0 := ‹_ ∧ _ ∧ _ ∧ _ ∧ _ ∧ _ ∧ _ ∧ _ ∧ Hid (TwoI w na1 Aa1 ka1 ca1 na2 Aa2 ka2 ca2 nb1 Ab1 kb1 cb1 nb2 Ab2 kb2 cb2 q r g2 g3 _)›; have HQ := HQ0.2.2.2.2.2.2.2.2; clear HQ0; refine (p_mul _ _ r.num q.den _ HQ.out.2.2.2.2.num HDa.out (n := n) HP.out.2.1.1 HP.out.1.2 (by have := HP.out.2.2.1; omega)).mono ?_; rintro e u ⟨vm2, rfl, hv, hb⟩; have BKr' : Hid (Bx u g4 31 #[.bool false, .slice none 0 0, .bool false, .slice none 0 0]) := (by first | exact BKr.out.below hb | exact BKr.out.drew.below hb); clear BKr; have BKr := BKr'; clear BKr'; have cr0 := BKr.out.cell 0; have fr0 := BKr.out.frozen 0; have cr1 := BKr.out.cell 1; have fr1 := BKr.out.frozen 1; have cr2 := BKr.out.cell 2; have fr2 := BKr.out.frozen 2; have cr3 := BKr.out.cell 3; have fr3 := BKr.out.frozen 3; (try (replace HDa := Lib.hid (HDa.out.below hb))); (try (replace HDb := Lib.hid (HDb.out.below hb))); (try (replace HM1 := Lib.hid (HM1.out.below hb))); (try (replace HS := Lib.hid (HS.out.below hb))); (try (replace HM3 := Lib.hid (HM3.out.below hb))); have HM2 := Lib.hid hv; clear hv) | (go_at_call 141; have HQ0 := ‹_ ∧ _ ∧ _ ∧ _ ∧ _ ∧ _ ∧ _ ∧ _ ∧ Hid (TwoI w na1 Aa1 ka1 ca1 na2 Aa2 ka2 ca2 nb1 Ab1 kb1 cb1 nb2 Ab2 kb2 cb2 q r g2 g3 _)›; have HQ := HQ0.2.2.2.2.2.2.2.2; clear HQ0; refine (p_add _ _ (q.num * r.den) (r.num * q.den) _ HM1.out HM2.out (n := n + n) (Td_mul HP.out.1.1 HP.out.2.1.2) (Td_mul HP.out.2.1.1 HP.out.1.2) (by have := HP.out.2.2.1; omega)).mono ?_; rintro e u ⟨vs, rfl, hv, hb⟩; have BKr' : Hid (Bx u g4 31 #[.bool false, .slice none 0 0, .bool false, .slice none 0 0]) := (by first | exact BKr.out.below hb | exact BKr.out.drew.below hb); clear BKr; have BKr := BKr'; clear BKr'; have cr0 := BKr.out.cell 0; have fr0 := BKr.out.frozen 0; have cr1 := BKr.out.cell 1; have fr1 := BKr.out.frozen 1; have cr2 := BKr.out.cell 2; have fr2 := BKr.out.frozen 2; have cr3 := BKr.out.cell 3; have fr3 := BKr.out.frozen 3; (try (replace HDa := Lib.hid (HDa.out.below hb))); (try (replace HDb := Lib.hid (HDb.out.below hb))); (try (replace HM1 := Lib.hid (HM1.out.below hb))); (try (replace HM2 := Lib.hid (HM2.out.below hb))); (try (replace HM3 := Lib.hid (HM3.out.below hb))); have HS := Lib.hid hv; clear hv) | (go_at_call 142; have HQ0 := ‹_ ∧ _ ∧ _ ∧ _ ∧ _ ∧ _ ∧ _ ∧ _ ∧ Hid (TwoI w na1 Aa1 ka1 ca1 na2 Aa2 ka2 ca2 nb1 Ab1 kb1 cb1 nb2 Ab2 kb2 cb2 q r g2 g3 _)›; have HQ := HQ0.2.2.2.2.2.2.2.2; clear HQ0; refine (p_mul _ _ q.den r.den _ HDa.out HDb.out (n := n) HP.out.1.2 HP.out.2.1.2 (by have := HP.out.2.2.1; omega)).mono ?_; rintro e u ⟨vm3, rfl, hv, hb⟩; have BKr' : Hid (Bx u g4 31 #[.bool false, .slice none 0 0, .bool false, .slice none 0 0]) := (by first | exact BKr.out.below hb | exact BKr.out.drew.below hb); clear BKr; have BKr := BKr'; clear BKr'; have cr0 := BKr.out.cell 0; have fr0 := BKr.out.frozen 0; have cr1 := BKr.out.cell 1; have fr1 := BKr.out.frozen 1; have cr2 := BKr.out.cell 2; have fr2 := BKr.out.frozen 2; have cr3 := BKr.out.cell 3; have fr3 := BKr.out.frozen 3; (try (replace HDa := Lib.hid (HDa.out.below hb))); (try (replace HDb := Lib.hid (HDb.out.below hb))); (try (replace HM1 := Lib.hid (HM1.out.below hb))); (try (replace HM2 := Lib.hid (HM2.out.below hb))); (try (replace HS := Lib.hid (HS.out.below hb))); have HM3 := Lib.hid hv; clear hv) | (go_at_call 125; have HQ0 := ‹_ ∧ _ ∧ _ ∧ _ ∧ _ ∧ _ ∧ _ ∧ _ ∧ Hid (TwoI w na1 Aa1 ka1 ca1 na2 Aa2 ka2 ca2 nb1 Ab1 kb1 cb1 nb2 Ab2 kb2 cb2 q r g2 g3 _)›; have HQ := HQ0.2.2.2.2.2.2.2.2; clear HQ0; refine (p_reduced _ _ _ _ _ HS.out HM3.out (n := n + n + 1) (Td_add (Td_mul HP.out.1.1 HP.out.2.1.2) (Td_mul HP.out.2.1.1 HP.out.1.2)) (Td_mono (Td_mul HP.out.1.2 HP.out.2.1.2) (by omega)) (Int.mul_ne_zero (den_ne q) (den_ne r)) (by have := HP.out.2.2.1; omega) (by omega)).mono ?_; rintro e u ⟨vr, rfl, hv, hb⟩; have BKr' : Hid (Bx u g4 31 #[.bool false, .slice none 0 0, .bool false, .slice none 0 0]) := (by first | exact BKr.out.below hb | exact BKr.out.drew.below hb); clear BKr; have BKr := BKr'; clear BKr'; have cr0 := BKr.out.cell 0; have fr0 := BKr.out.frozen 0; have cr1 := BKr.out.cell 1; have fr1 := BKr.out.frozen 1; have cr2 := BKr.out.cell 2; have fr2 := BKr.out.frozen 2; have cr3 := BKr.out.cell 3; have fr3 := BKr.out.frozen 3; have HR := Lib.hid (hv.cast (add_eq q r)); obtain ⟨nr1, Ar1, kr1, cr1, nr2, Ar2, kr2, cr2, rfl⟩ := hv.shape; clear hv)))
    | fail
    all_goals
      go_wp2_with fail
      refine bodyPost_ret (results_cell_row rfl _ _ g4 31 #[.bool nr1, .slice Ar1 kr1 cr1, .bool nr2, .slice Ar2 kr2 cr2] (0, 0) _ rfl (BKr.out.put4 _ _ _ _) Tryz.underlying31 rfl (by kernel_rfl)) rfl ?_
      have KP := BKr.out.kp4 (by decide) (.bool nr1) (.slice Ar1 kr1 cr1) (.bool nr2) (.slice Ar2 kr2 cr2)
      exact ⟨_, rfl, HR.out.kp KP, below_put4 ((HQ.out.below hb).2.2.1) HG4.out _ _ _ _⟩
end Go.Proofs.YtapckjeedekphaaGreatDoor

namespace Go.Proofs.YtapckjeedekphaaGreatDoor
open Go.RowKit Go.Proofs.YtapckjeedekphaaGreatDoorW.PrintWords PR
theorem DenIs.of_den {q r : Rat} {z : Int} (h : DenIs q z) (e : r.den = q.den) : DenIs r z := by
  unfold DenIs at *
  rw [e]; exact h
def OneI (w : World) (na1 : Bool) (Aa1 : Option Addr) (ka1 : Nat) (ca1 : Nat) (na2 : Bool) (Aa2 : Option Addr) (ka2 : Nat) (ca2 : Nat) (x : Int) (z : Int) (g1 : Nat) (w' : World) : Prop := Bx w' g1 31 #[.bool na1, .slice Aa1 ka1 ca1, .bool na2, .slice Aa2 ka2 ca2] ∧ Below w.heap.size w w' ∧ RI w' (.agg #[.bool na1, .slice Aa1 ka1 ca1]) x ∧ RI w' (.agg #[.bool na2, .slice Aa2 ka2 ca2]) z
theorem OneI.cells {w : World} {na1 : Bool} {Aa1 : Option Addr} {ka1 : Nat} {ca1 : Nat} {na2 : Bool} {Aa2 : Option Addr} {ka2 : Nat} {ca2 : Nat} {x : Int} {z : Int} {g1 : Nat} {W : World} (h : OneI w na1 Aa1 ka1 ca1 na2 Aa2 ka2 ca2 x z g1 W) : W.cell? ⟨g1, 0, none⟩ = some (.bool na1) ∧ W.cell? ⟨g1, 1, none⟩ = some (.slice Aa1 ka1 ca1) ∧ W.cell? ⟨g1, 2, none⟩ = some (.bool na2) ∧ W.cell? ⟨g1, 3, none⟩ = some (.slice Aa2 ka2 ca2) ∧ Hid (OneI w na1 Aa1 ka1 ca1 na2 Aa2 ka2 ca2 x z g1 W) := by
  have h' := h
  obtain ⟨h1, _⟩ := h
  exact ⟨h1.cell 0, h1.cell 1, h1.cell 2, h1.cell 3, h'⟩
theorem OneI.below {w : World} {na1 : Bool} {Aa1 : Option Addr} {ka1 : Nat} {ca1 : Nat} {na2 : Bool} {Aa2 : Option Addr} {ka2 : Nat} {ca2 : Nat} {x : Int} {z : Int} {g1 : Nat} {W W1 : World} (h : OneI w na1 Aa1 ka1 ca1 na2 Aa2 ka2 ca2 x z g1 W) (hb : Below W.heap.size W W1) : OneI w na1 Aa1 ka1 ca1 na2 Aa2 ka2 ca2 x z g1 W1 := by
  obtain ⟨h1, hB, k0, k1⟩ := h
  exact ⟨h1.below hb, bth hB hb, k0.below hb, k1.below hb⟩
theorem OneI.store {w : World} {na1 : Bool} {Aa1 : Option Addr} {ka1 : Nat} {ca1 : Nat} {na2 : Bool} {Aa2 : Option Addr} {ka2 : Nat} {ca2 : Nat} {x : Int} {z : Int} {g1 : Nat} {W : World} {gr : Nat} {cs : Array Value} (h : OneI w na1 Aa1 ka1 ca1 na2 Aa2 ka2 ca2 x z g1 W) (hx : Bx W gr 31 cs) (hg : w.heap.size ≤ gr) (n1 : g1 ≠ gr) (i : Nat) (u : Value) : OneI w na1 Aa1 ka1 ca1 na2 Aa2 ka2 ca2 x z g1 (W.setCell ⟨gr, i, none⟩ u) := by
  obtain ⟨h1, hB, k0, k1⟩ := h
  exact ⟨h1.far (p := ⟨gr, i, none⟩) n1 u, hB.setCell hg u, k0.kp ((Kp.refl _).box hx (by decide) i u), k1.kp ((Kp.refl _).box hx (by decide) i u)⟩
set_option maxHeartbeats 800000 in
theorem p_qneg (v : Value) (q : Rat) (w : World) (hv : RR w v q) : Calls Tryz.prog 43 #[v] w (RetR w (-q)) := by
  obtain ⟨na1, Aa1, ka1, ca1, na2, Aa2, ka2, ca2, za, rfl, hna, hza, hda⟩ := hv
  have HNa := Lib.hid hna
  have HZa := Lib.hid hza
  have HDa := Lib.hid hda
  clear hna hza hda
  have HB := Lib.hid (Below.refl w.heap.size w)
  go_enter Tryz.func43, Tryz.ntmps43
  go_wp2_with (first | ((with_reducible refine gate_dst (N := 1) rfl ?_); refine bx_event rfl (cs := #[.bool na1, .slice Aa1 ka1 ca1, .bool na2, .slice Aa2 ka2 ca2]) (t := 31) ?hr ?_; (case hr => first | (go_simp; done) | (go_simp; rfl)); intro g1 w1 hg bk hb; have HG1 := Lib.hid (Nat.le_trans HB.out.size hg); replace HB := Lib.hid (bth HB.out hb); replace HNa := Lib.hid (HNa.out.below hb); replace HZa := Lib.hid (HZa.out.below hb); have BK1 := Lib.hid bk; obtain ⟨c1_0, c1_1, c1_2, c1_3, f1_0, f1_1, f1_2, f1_3⟩ := BK1.out.all4; clear hb hg bk) | ((with_reducible refine gate_dst (N := 2) rfl ?_); refine bx_event rfl (cs := #[.bool false, .slice none 0 0, .bool false, .slice none 0 0]) (t := 31) ?hr ?_; (case hr => first | (go_simp; done) | (go_simp; rfl)); intro g2 w2 hg bk hb; have HG2 := Lib.hid (Nat.le_trans HB.out.size hg); replace HB := Lib.hid (bth HB.out hb); have HN1_2 := Lib.hid (Nat.ne_of_lt (Nat.lt_of_lt_of_le BK1.out.lt hg)); clear c1_0 c1_1 c1_2 c1_3 f1_0 f1_1 f1_2 f1_3; replace BK1 := Lib.hid (BK1.out.below hb); obtain ⟨c1_0, c1_1, c1_2, c1_3, f1_0, f1_1, f1_2, f1_3⟩ := BK1.out.all4; replace HNa := Lib.hid (HNa.out.below hb); replace HZa := Lib.hid (HZa.out.below hb); have BK2 := Lib.hid bk; obtain ⟨c2_0, c2_1, c2_2, c2_3, f2_0, f2_1, f2_2, f2_3⟩ := BK2.out.all4; clear hb hg bk))
  have HI : Hid (OneI w na1 Aa1 ka1 ca1 na2 Aa2 ka2 ca2 q.num za g1 w2) := ⟨BK1.out, HB.out, HNa.out, HZa.out⟩
  clear c1_0 c1_1 c1_2 c1_3 f1_0 f1_1 f1_2 f1_3 BK1
  clear c2_0 c2_1 c2_2 c2_3 f2_0 f2_1 f2_2 f2_3
  clear HB HNa HZa
  have BKr := BK2
  clear BK2
  first
  | (go_region_held3 (fun w' => w'.cell? ⟨g1, 0, none⟩ = some (.bool na1) ∧ w'.cell? ⟨g1, 1, none⟩ = some (.slice Aa1 ka1 ca1) ∧ w'.cell? ⟨g1, 2, none⟩ = some (.bool na2) ∧ w'.cell? ⟨g1, 3, none⟩ = some (.slice Aa2 ka2 ca2) ∧ Hid (OneI w na1 Aa1 ka1 ca1 na2 Aa2 ka2 ca2 q.num za g1 w')) (first | exact (HI.out.below (below_drew (Below.refl _ _))).cells | exact (HQ.out.below hb).cells | exact (((((HQ.out.below hb).store BKr.out HG2.out HN1_2.out 0 _).store (BKr.out.set_ 0 _) HG2.out HN1_2.out 1 _).store ((BKr.out.set_ 0 _).set_ 1 _) HG2.out HN1_2.out 2 _).store (((BKr.out.set_ 0 _).set_ 1 _).set_ 2 _) HG2.out HN1_2.out 3 _).cells)
      (first | (go_at_call 145; have HQ0 := ‹_ ∧ _ ∧ _ ∧ _ ∧ Hid (OneI w na1 Aa1 ka1 ca1 na2 Aa2 ka2 ca2 q.num za g1 _)›; have HQ := HQ0.2.2.2.2; clear HQ0; refine (p_neg _ q.num _ HQ.out.2.2.1).mono ?_; rintro e u ⟨vr, rfl, hv, hb⟩; have BKr' : Hid (Bx u g2 31 #[.bool false, .slice none 0 0, .bool false, .slice none 0 0]) := (by first | exact BKr.out.below hb | exact BKr.out.drew.below hb); clear BKr; have BKr := BKr'; clear BKr'; have cr0 := BKr.out.cell 0; have fr0 := BKr.out.frozen 0; have cr1 := BKr.out.cell 1; have fr1 := BKr.out.frozen 1; have cr2 := BKr.out.cell 2; have fr2 := BKr.out.frozen 2; have cr3 := BKr.out.cell 3; have fr3 := BKr.out.frozen 3; have HR := Lib.hid hv; obtain ⟨nr, Ar, kr, cr, rfl⟩ := hv.shape; clear hv)))
  | fail
  all_goals
    go_wp2_with fail
    refine bodyPost_ret (results_cell_row rfl _ _ g2 31 #[.bool nr, .slice Ar kr cr, .bool na2, .slice Aa2 ka2 ca2] (0, 0) _ rfl (BKr.out.put4 _ _ _ _) Tryz.underlying31 rfl (by kernel_rfl)) rfl ?_
    have KP := BKr.out.kp4 (by decide) (.bool nr) (.slice Ar kr cr) (.bool na2) (.slice Aa2 ka2 ca2)
    exact ⟨_, rfl, ⟨_, _, _, _, _, _, _, _, za, rfl, (HR.out.kp KP).cast (Rat.neg_num q).symm, ((HQ.out.below hb).2.2.2).kp KP, HDa.out.of_den (Rat.neg_den q)⟩, below_put4 (HQ.out.below hb).2.1 HG2.out _ _ _ _⟩
theorem bx_new1 (w : World) (cs : Array Value) : Bx (w.alloc (.cells cs 27)) w.heap.size 27 cs := by
  unfold Bx; rw [heap_alloc_new]
theorem bx_new2a (w : World) (cs : Array Value) : Bx ((w.alloc (.cells cs 27)).alloc (.cells cs 27)) w.heap.size 27 cs := (bx_new1 w cs).alloc _
theorem bx_new2b (w : World) (cs : Array Value) : Bx ((w.alloc (.cells cs 27)).alloc (.cells cs 27)) (w.heap.size + 1) 27 cs := by
  have h := bx_new1 (w.alloc (.cells cs 27)) cs
  have e : (w.alloc (.cells cs 27)).heap.size = w.heap.size + 1 := Array.size_push _
  rw [e] at h
  exact h
/-- A block of an integer's two cells. -/
def E27 (W : World) (b : Nat) : Prop := ∃ cs, Bx W b 27 cs
theorem E27.of {W : World} {b : Nat} {cs : Array Value} (h : Bx W b 27 cs) : E27 W b := ⟨cs, h⟩
theorem E27.set {W : World} {b : Nat} (h : E27 W b) (i : Nat) (v : Value) : E27 (W.setCell ⟨b, i, none⟩ v) b := by
  obtain ⟨cs, h⟩ := h
  exact ⟨_, h.set_ i v⟩
theorem E27.far {W : World} {b b' : Nat} (h : E27 W b) (hne : b ≠ b') (i : Nat) (v : Value) : E27 (W.setCell ⟨b', i, none⟩ v) b := by
  obtain ⟨cs, h⟩ := h
  exact ⟨_, h.far (p := ⟨b', i, none⟩) hne v⟩
theorem E27.alloc {W : World} {b : Nat} (h : E27 W b) (o : Obj) : E27 (W.alloc o) b := by
  obtain ⟨cs, h⟩ := h
  exact ⟨_, h.alloc o⟩
theorem E27.new (w : World) (cs : Array Value) : E27 (w.alloc (.cells cs 27)) w.heap.size := ⟨cs, bx_new1 w cs⟩
theorem Kp.e27 {w w' : World} {b : Nat} (h : Kp w w') (hx : E27 w' b) (i : Nat) (v : Value) : Kp w (w'.setCell ⟨b, i, none⟩ v) := by
  obtain ⟨cs, hx⟩ := hx
  exact h.box hx (by decide) i v
theorem floor_fdiv (q : Rat) : q.num.fdiv (q.den : Int) = q.floor := by rw [Rat.floor_def, ← Int.fdiv_eq_ediv_of_nonneg _ (by omega)]
def FlI (w2 : World) (g : Nat) (cs : Array Value) (W : World) : Prop := Below w2.heap.size w2 W ∧ Bx w2 g 31 cs
theorem FlI.cells {w2 : World} {g : Nat} {a b c d : Value} {W : World} (h : FlI w2 g #[a, b, c, d] W) : W.cell? ⟨g, 0, none⟩ = some a ∧ W.cell? ⟨g, 1, none⟩ = some b ∧ W.cell? ⟨g, 2, none⟩ = some c ∧ W.cell? ⟨g, 3, none⟩ = some d ∧ Hid (FlI w2 g #[a, b, c, d] W) := by
  have hx := h.2.below h.1
  exact ⟨hx.cell 0, hx.cell 1, hx.cell 2, hx.cell 3, h⟩
theorem FlI.start {w2 : World} {g : Nat} {cs : Array Value} (h : Bx w2 g 31 cs) : FlI w2 g cs w2.drew := ⟨below_drew (Below.refl _ _), h⟩
theorem FlI.base {w2 : World} {g : Nat} {cs : Array Value} (h : Bx w2 g 31 cs) : FlI w2 g cs w2 := ⟨Below.refl _ _, h⟩
theorem FlI.drew {w2 : World} {g : Nat} {cs : Array Value} {W : World} (h : FlI w2 g cs W) : FlI w2 g cs W.drew := ⟨below_drew h.1, h.2⟩
theorem FlI.alloc {w2 : World} {g : Nat} {cs : Array Value} {W : World} (h : FlI w2 g cs W) (o : Obj) : FlI w2 g cs (W.alloc o) := ⟨below_alloc h.1 o, h.2⟩
theorem FlI.call {w2 : World} {g : Nat} {cs : Array Value} {W W1 : World} (h : FlI w2 g cs W) (hb : Below W.heap.size W W1) : FlI w2 g cs W1 := ⟨bth h.1 hb, h.2⟩
theorem FlI.set {w2 : World} {g : Nat} {cs : Array Value} {W : World} (h : FlI w2 g cs W) {b : Nat} (hb : w2.heap.size ≤ b) (i : Nat) (v : Value) : FlI w2 g cs (W.setCell ⟨b, i, none⟩ v) := ⟨h.1.setCell hb v, h.2⟩
set_option maxHeartbeats 6400000 in
theorem p_qfloor (v : Value) (q : Rat) (w : World) (hv : RR w v q) {n : Nat} (hq : TQ n q) (hn : n ≤ 400000) : Calls Tryz.prog 47 #[v] w (RetI w q.floor) := by
  have HV := Lib.hid hv
  have HP := Lib.hid (And.intro hq hn)
  obtain ⟨na1, Aa1, ka1, ca1, na2, Aa2, ka2, ca2, za, rfl, hna, hza, hda⟩ := hv
  have HNa := Lib.hid hna
  have HZa := Lib.hid hza
  have HDa := Lib.hid hda
  clear hna hza hda
  clear hq hn HZa HDa
  have HB := Lib.hid (Below.refl w.heap.size w)
  go_enter Tryz.func47, Tryz.ntmps47
  go_wp2_with (first | ((with_reducible refine gate_dst (N := 1) rfl ?_); refine bx_event rfl (cs := #[.bool na1, .slice Aa1 ka1 ca1, .bool na2, .slice Aa2 ka2 ca2]) (t := 31) ?hr ?_; (case hr => first | (go_simp; done) | (go_simp; rfl)); intro g1 w1 hg bk hb; have HG1 := Lib.hid (Nat.le_trans HB.out.size hg); replace HB := Lib.hid (bth HB.out hb); replace HNa := Lib.hid (HNa.out.below hb); replace HV := Lib.hid (HV.out.below hb); have BK1 := Lib.hid bk; obtain ⟨c1_0, c1_1, c1_2, c1_3, f1_0, f1_1, f1_2, f1_3⟩ := BK1.out.all4; clear hb hg bk) | ((with_reducible refine gate_dst (N := 2) rfl ?_); refine bx_event rfl (cs := #[.bool false, .slice none 0 0]) (t := 27) ?hr ?_; (case hr => first | (go_simp; done) | (go_simp; rfl)); intro g2 w2 hg bk hb; have HG2 := Lib.hid (Nat.le_trans HB.out.size hg); replace HB := Lib.hid (bth HB.out hb); have HN1_2 := Lib.hid (Nat.ne_of_lt (Nat.lt_of_lt_of_le BK1.out.lt hg)); clear c1_0 c1_1 c1_2 c1_3 f1_0 f1_1 f1_2 f1_3; replace BK1 := Lib.hid (BK1.out.below hb); obtain ⟨c1_0, c1_1, c1_2, c1_3, f1_0, f1_1, f1_2, f1_3⟩ := BK1.out.all4; replace HNa := Lib.hid (HNa.out.below hb); replace HV := Lib.hid (HV.out.below hb); have BK2 := Lib.hid bk; obtain ⟨c2_0, c2_1, f2_0, f2_1⟩ := BK2.out.all2; clear hb hg bk))
  first
  | (go_region_held3 (fun w' => w'.cell? ⟨g1, 0, none⟩ = some (.bool na1) ∧ w'.cell? ⟨g1, 1, none⟩ = some (.slice Aa1 ka1 ca1) ∧ w'.cell? ⟨g1, 2, none⟩ = some (.bool na2) ∧ w'.cell? ⟨g1, 3, none⟩ = some (.slice Aa2 ka2 ca2) ∧ Hid (FlI w2 g1 #[.bool na1, .slice Aa1 ka1 ca1, .bool na2, .slice Aa2 ka2 ca2] w')) (first | with_reducible exact (FlI.start BK1.out).cells | with_reducible exact (HQ.out.call hb).cells | (refine FlI.cells ?_; repeat (first | with_reducible exact HQ.out.call hb | with_reducible exact FlI.base BK1.out | with_reducible refine FlI.drew ?_ | with_reducible refine FlI.alloc ?_ _ | (with_reducible refine FlI.set ?_ ?_ _ _; rotate_left; (have := hsz; (try have := hsz'); (try simp only [World.heap_drew]); omega)))))
      (first | (go_at_call 33; have HQ0 := ‹_ ∧ _ ∧ _ ∧ _ ∧ Hid (FlI w2 g1 _ _)›; have HQ := HQ0.2.2.2.2; clear HQ0; refine (p_den _ q _ ?_).mono ?_; (exact HV.out.below HQ.out.1); rintro e u ⟨vd, rfl, hd, hb⟩; have hsz := Nat.le_trans HQ.out.1.size hb.size; (try (have B7 : Bx u w2.heap.size 27 #[Value.bool false, Value.slice none 0 0] := (bx_new1 w2.drew _).below hb; have cB7_0 := B7.cell 0; have cB7_1 := B7.cell 1; have fB7_0 := B7.frozen 0; have fB7_1 := B7.frozen 1; have dB7_0 := fun o => (B7.alloc o).cell 0; have dB7_1 := fun o => (B7.alloc o).cell 1; have eB7_0 := fun o => (B7.alloc o).frozen 0; have eB7_1 := fun o => (B7.alloc o).frozen 1; have nB7 := Nat.ne_of_lt B7.lt; have mB7 := (Nat.ne_of_lt B7.lt).symm)); (try (have B8 : Bx u w2.heap.size 27 #[Value.bool false, Value.slice none 0 0] := (bx_new2a w2.drew _).below hb; have cB8_0 := B8.cell 0; have cB8_1 := B8.cell 1; have fB8_0 := B8.frozen 0; have fB8_1 := B8.frozen 1; have dB8_0 := fun o => (B8.alloc o).cell 0; have dB8_1 := fun o => (B8.alloc o).cell 1; have eB8_0 := fun o => (B8.alloc o).frozen 0; have eB8_1 := fun o => (B8.alloc o).frozen 1; have nB8 := Nat.ne_of_lt B8.lt; have mB8 := (Nat.ne_of_lt B8.lt).symm)); (try (have B9 : Bx u (w2.heap.size + 1) 27 #[Value.bool false, Value.slice none 0 0] := (bx_new2b w2.drew _).below hb; have cB9_0 := B9.cell 0; have cB9_1 := B9.cell 1; have fB9_0 := B9.frozen 0; have fB9_1 := B9.frozen 1; have dB9_0 := fun o => (B9.alloc o).cell 0; have dB9_1 := fun o => (B9.alloc o).cell 1; have eB9_0 := fun o => (B9.alloc o).frozen 0; have eB9_1 := fun o => (B9.alloc o).frozen 1; have nB9 := Nat.ne_of_lt B9.lt; have mB9 := (Nat.ne_of_lt B9.lt).symm));  have HD := Lib.hid hd; clear hd) | (go_at_call 147; have hb1 := hb; clear hb; have HQ0 := ‹_ ∧ _ ∧ _ ∧ _ ∧ Hid (FlI w2 g1 _ _)›; have HQ := HQ0.2.2.2.2; clear HQ0; refine (p_divmod _ _ q.num q.den _ ?_ ?_ (n := n) HP.out.1.1 HP.out.1.2 (by have := HP.out.2; omega) (den_ne q)).mono ?_; (exact HNa.out.below HQ.out.1); (first | exact HD.out | exact HD.out.below (below_alloc (Below.refl _ _) _) | exact HD.out.below (below_alloc (below_alloc (Below.refl _ _) _) _)); rintro e u' ⟨v1, v2, rfl, h1, h2, hb⟩; have hsz' := Nat.le_trans HQ.out.1.size hb.size; (try (have nB7p := nB7; have mB7p := mB7)); (try (have nB8p := nB8; have mB8p := mB8)); (try (have nB9p := nB9; have mB9p := mB9)); (try (have B7o := (by first | exact B7.below hb | exact B7.below (bth (below_alloc (Below.refl _ _) _) hb) : Bx u' _ 27 #[Value.bool false, Value.slice none 0 0]); have cB7o_0 := B7o.cell 0; have cB7o_1 := B7o.cell 1; have fB7o_0 := B7o.frozen 0; have fB7o_1 := B7o.frozen 1; have dB7o_0 := fun o => (B7o.alloc o).cell 0; have dB7o_1 := fun o => (B7o.alloc o).cell 1; have eB7o_0 := fun o => (B7o.alloc o).frozen 0; have eB7o_1 := fun o => (B7o.alloc o).frozen 1; have nB7o := Nat.ne_of_lt B7o.lt; have mB7o := (Nat.ne_of_lt B7o.lt).symm)); (try (have B8o := (by first | exact B8.below hb | exact B8.below (bth (below_alloc (Below.refl _ _) _) hb) : Bx u' _ 27 #[Value.bool false, Value.slice none 0 0]); have cB8o_0 := B8o.cell 0; have cB8o_1 := B8o.cell 1; have fB8o_0 := B8o.frozen 0; have fB8o_1 := B8o.frozen 1; have dB8o_0 := fun o => (B8o.alloc o).cell 0; have dB8o_1 := fun o => (B8o.alloc o).cell 1; have eB8o_0 := fun o => (B8o.alloc o).frozen 0; have eB8o_1 := fun o => (B8o.alloc o).frozen 1; have nB8o := Nat.ne_of_lt B8o.lt; have mB8o := (Nat.ne_of_lt B8o.lt).symm)); (try (have B9o := (by first | exact B9.below hb | exact B9.below (bth (below_alloc (Below.refl _ _) _) hb) : Bx u' _ 27 #[Value.bool false, Value.slice none 0 0]); have cB9o_0 := B9o.cell 0; have cB9o_1 := B9o.cell 1; have fB9o_0 := B9o.frozen 0; have fB9o_1 := B9o.frozen 1; have dB9o_0 := fun o => (B9o.alloc o).cell 0; have dB9o_1 := fun o => (B9o.alloc o).cell 1; have eB9o_0 := fun o => (B9o.alloc o).frozen 0; have eB9o_1 := fun o => (B9o.alloc o).frozen 1; have nB9o := Nat.ne_of_lt B9o.lt; have mB9o := (Nat.ne_of_lt B9o.lt).symm));  (try (have B7 : Bx u' u.heap.size 27 #[Value.bool false, Value.slice none 0 0] := (bx_new1 u _).below hb; have cB7_0 := B7.cell 0; have cB7_1 := B7.cell 1; have fB7_0 := B7.frozen 0; have fB7_1 := B7.frozen 1; have dB7_0 := fun o => (B7.alloc o).cell 0; have dB7_1 := fun o => (B7.alloc o).cell 1; have eB7_0 := fun o => (B7.alloc o).frozen 0; have eB7_1 := fun o => (B7.alloc o).frozen 1; have nB7 := Nat.ne_of_lt B7.lt; have mB7 := (Nat.ne_of_lt B7.lt).symm)); (try (have B8 : Bx u' u.heap.size 27 #[Value.bool false, Value.slice none 0 0] := (bx_new2a u _).below hb; have cB8_0 := B8.cell 0; have cB8_1 := B8.cell 1; have fB8_0 := B8.frozen 0; have fB8_1 := B8.frozen 1; have dB8_0 := fun o => (B8.alloc o).cell 0; have dB8_1 := fun o => (B8.alloc o).cell 1; have eB8_0 := fun o => (B8.alloc o).frozen 0; have eB8_1 := fun o => (B8.alloc o).frozen 1; have nB8 := Nat.ne_of_lt B8.lt; have mB8 := (Nat.ne_of_lt B8.lt).symm)); (try (have B9 : Bx u' (u.heap.size + 1) 27 #[Value.bool false, Value.slice none 0 0] := (bx_new2b u _).below hb; have cB9_0 := B9.cell 0; have cB9_1 := B9.cell 1; have fB9_0 := B9.frozen 0; have fB9_1 := B9.frozen 1; have dB9_0 := fun o => (B9.alloc o).cell 0; have dB9_1 := fun o => (B9.alloc o).cell 1; have eB9_0 := fun o => (B9.alloc o).frozen 0; have eB9_1 := fun o => (B9.alloc o).frozen 1; have nB9 := Nat.ne_of_lt B9.lt; have mB9 := (Nat.ne_of_lt B9.lt).symm));  have HR := Lib.hid h1; obtain ⟨nr, Ar, kr, cr, rfl⟩ := h1.shape; obtain ⟨ns, As, ks, cs, rfl⟩ := h2.shape; clear h1 h2)))
  | fail
  all_goals
    have HL0 := ‹_ ∧ _ ∧ _ ∧ _ ∧ Hid (FlI w2 g1 _ _)›
    have HL := HL0.2.2.2.2
    clear HL0
    clear c2_0 c2_1 f2_0 f2_1 c1_0 c1_1 c1_2 c1_3 f1_0 f1_1 f1_2 f1_3
    have B2' := Lib.hid (BK2.out.below HL.out.1)
    have c2_0 := B2'.out.cell 0
    have c2_1 := B2'.out.cell 1
    have f2_0 := B2'.out.frozen 0
    have f2_1 := B2'.out.frozen 1
    go_wp2_with fail
    refine bodyPost_ret (results_cell_row rfl _ _ g2 27 #[.bool _, .slice Ar kr cr] (0, 0) _ rfl ((B2'.out.set_ 0 _).set_ 1 _) Tryz.underlying27 rfl (by kernel_rfl)) rfl ?_
    refine ⟨_, rfl, (HR.out.cast (floor_fdiv q)).kp ?_, ((bth HB.out HL.out.1).setCell HG2.out _).setCell HG2.out _⟩
    refine Kp.box (Kp.box ?_ B2'.out (by decide) 0 _) (B2'.out.set_ 0 _) (by decide) 1 _
    repeat (first | with_reducible exact Kp.refl _ | with_reducible refine Kp.alloc ?_ _ | (with_reducible refine Kp.e27 ?_ ?bx _ _; (case bx => repeat (first | with_reducible exact E27.of B7 | with_reducible exact E27.of B8 | with_reducible exact E27.of B9 | with_reducible exact E27.of B7o | with_reducible exact E27.of B8o | with_reducible exact E27.of B9o | with_reducible exact E27.new _ _ | with_reducible refine E27.set ?_ _ _ | (with_reducible refine E27.far ?_ ?ne _ _; (case ne => first | with_reducible exact nB7 | with_reducible exact mB7 | with_reducible exact nB7o | with_reducible exact mB7o | with_reducible exact nB8 | with_reducible exact mB8 | with_reducible exact nB9 | with_reducible exact mB9 | with_reducible exact nB8o | with_reducible exact mB8o | with_reducible exact nB9o | with_reducible exact mB9o | with_reducible exact nB7p | with_reducible exact mB7p | with_reducible exact nB8p | with_reducible exact mB8p | with_reducible exact nB9p | with_reducible exact mB9p | exact Nat.succ_ne_self _ | exact (Nat.succ_ne_self _).symm)) | with_reducible refine E27.alloc ?_ _))))
end Go.Proofs.YtapckjeedekphaaGreatDoor

namespace Go.Proofs.YtapckjeedekphaaGreatDoor
open Go.RowKit Go.Proofs.YtapckjeedekphaaGreatDoorW.PrintWords PR
theorem p_makeK (va vb : Value) (x y : Int) (w : World) (ha : RI w va x) (hb : RI w vb y) {n : Nat} (hx : Td n x) (hy : Td n y) (hn : n ≤ 900000) (hn1 : 1 ≤ n) (h0 : y ≠ 0) : Calls Tryz.prog 27 #[va, vb] w (RetRE w (Rat.divInt x y) 0) := by
  have h := p_make va vb x y w ha hb hx hy hn hn1
  rw [if_neg h0, if_neg h0] at h
  exact h
set_option maxHeartbeats 800000 in
theorem p_qceil (v : Value) (q : Rat) (w : World) (hv : RR w v q) {n : Nat} (hq : TQ n q) (hn : n ≤ 400000) : Calls Tryz.prog 48 #[v] w (RetI w q.ceil) := by
  have HV := Lib.hid hv
  have HP := Lib.hid (And.intro hq hn)
  obtain ⟨na1, Aa1, ka1, ca1, na2, Aa2, ka2, ca2, za, rfl, hna, hza, hda⟩ := hv
  have HNa := Lib.hid hna
  have HZa := Lib.hid hza
  have HDa := Lib.hid hda
  clear hna hza hda
  clear hq hn HZa HDa HNa
  have HB := Lib.hid (Below.refl w.heap.size w)
  go_enter Tryz.func48, Tryz.ntmps48
  go_wp2_with (first | ((with_reducible refine gate_dst (N := 1) rfl ?_); refine bx_event rfl (cs := #[.bool na1, .slice Aa1 ka1 ca1, .bool na2, .slice Aa2 ka2 ca2]) (t := 31) ?hr ?_; (case hr => first | (go_simp; done) | (go_simp; rfl)); intro g1 w1 hg bk hb; have HG1 := Lib.hid (Nat.le_trans HB.out.size hg); replace HB := Lib.hid (bth HB.out hb); replace HV := Lib.hid (HV.out.below hb); have BK1 := Lib.hid bk; obtain ⟨c1_0, c1_1, c1_2, c1_3, f1_0, f1_1, f1_2, f1_3⟩ := BK1.out.all4; clear hb hg bk) | ((with_reducible refine gate_dst (N := 2) rfl ?_); refine bx_event rfl (cs := #[.bool false, .slice none 0 0]) (t := 27) ?hr ?_; (case hr => first | (go_simp; done) | (go_simp; rfl)); intro g2 w2 hg bk hb; have HG2 := Lib.hid (Nat.le_trans HB.out.size hg); replace HB := Lib.hid (bth HB.out hb); have HN1_2 := Lib.hid (Nat.ne_of_lt (Nat.lt_of_lt_of_le BK1.out.lt hg)); clear c1_0 c1_1 c1_2 c1_3 f1_0 f1_1 f1_2 f1_3; replace BK1 := Lib.hid (BK1.out.below hb); obtain ⟨c1_0, c1_1, c1_2, c1_3, f1_0, f1_1, f1_2, f1_3⟩ := BK1.out.all4; replace HV := Lib.hid (HV.out.below hb); have BK2 := Lib.hid bk; obtain ⟨c2_0, c2_1, f2_0, f2_1⟩ := BK2.out.all2; clear hb hg bk))
  refine (p_qneg _ q _ HV.out).mono ?_
  rintro e u1 ⟨vn, rfl, hn1, hb⟩
  replace HB := Lib.hid (bth HB.out hb)
  clear c1_0 c1_1 c1_2 c1_3 f1_0 f1_1 f1_2 f1_3
  replace BK1 := Lib.hid (BK1.out.below hb)
  obtain ⟨c1_0, c1_1, c1_2, c1_3, f1_0, f1_1, f1_2, f1_3⟩ := BK1.out.all4
  clear c2_0 c2_1 f2_0 f2_1
  replace BK2 := Lib.hid (BK2.out.below hb)
  obtain ⟨c2_0, c2_1, f2_0, f2_1⟩ := BK2.out.all2
  replace HV := Lib.hid (HV.out.below hb)
  clear hb
  have H1 := Lib.hid hn1
  clear hn1
  go_wp2_with fail
  refine (p_qfloor _ (-q) _ H1.out (n := n) (TQ_neg HP.out.1) HP.out.2).mono ?_
  rintro e u2 ⟨vf, rfl, hf1, hb⟩
  replace HB := Lib.hid (bth HB.out hb)
  clear c1_0 c1_1 c1_2 c1_3 f1_0 f1_1 f1_2 f1_3
  replace BK1 := Lib.hid (BK1.out.below hb)
  obtain ⟨c1_0, c1_1, c1_2, c1_3, f1_0, f1_1, f1_2, f1_3⟩ := BK1.out.all4
  clear c2_0 c2_1 f2_0 f2_1
  replace BK2 := Lib.hid (BK2.out.below hb)
  obtain ⟨c2_0, c2_1, f2_0, f2_1⟩ := BK2.out.all2
  clear hb
  have H2 := Lib.hid hf1
  clear hf1
  go_wp2_with fail
  refine (p_neg _ (-q).floor _ H2.out).mono ?_
  rintro e u3 ⟨vr, rfl, hvr, hb⟩
  replace HB := Lib.hid (bth HB.out hb)
  clear c1_0 c1_1 c1_2 c1_3 f1_0 f1_1 f1_2 f1_3
  replace BK1 := Lib.hid (BK1.out.below hb)
  obtain ⟨c1_0, c1_1, c1_2, c1_3, f1_0, f1_1, f1_2, f1_3⟩ := BK1.out.all4
  clear c2_0 c2_1 f2_0 f2_1
  replace BK2 := Lib.hid (BK2.out.below hb)
  obtain ⟨c2_0, c2_1, f2_0, f2_1⟩ := BK2.out.all2
  clear hb
  have HV2 := Lib.hid (hvr.cast (Rat.ceil_eq_neg_floor_neg q).symm)
  obtain ⟨nr, Ar, kr, cr, rfl⟩ := hvr.shape
  clear hvr
  go_wp2_with fail
  refine bodyPost_ret (results_cell_row rfl _ _ g2 27 #[.bool _, .slice Ar kr cr] (0, 0) _ rfl ((BK2.out.set_ 0 _).set_ 1 _) Tryz.underlying27 rfl (by kernel_rfl)) rfl ?_
  exact ⟨_, rfl, (HV2.out.kp (((Kp.refl _).box BK2.out (by decide) 0 _).box (BK2.out.set_ 0 _) (by decide) 1 _)), (HB.out.setCell HG2.out _).setCell HG2.out _⟩
theorem str_eq (a b : List UInt8) : ((S a).toList == (S b).toList) = decide (a = b) := by
  rw [S_toList, S_toList]
  by_cases h : a = b
  · rw [h, decide_eq_true rfl]; simp
  · rw [decide_eq_false h]; exact beq_eq_false_iff_ne.2 h
set_option maxHeartbeats 800000 in
theorem p_is (v : Value) (q : Rat) (t : List UInt8) (w : World) (hv : RR w v q) {n : Nat} (hq : TQ n q) (hn : n ≤ 1000000) (hn1 : 1 ≤ n) (ht : tab10 w) : Calls Tryz.prog 28 #[v, .string (S t)] w fun e w' => e = .returned (.bool (decide (qtx q = t))) ∧ Below w.heap.size w w' := by
  have HV := Lib.hid hv
  have HP := Lib.hid (And.intro hq (And.intro hn hn1))
  have HTb := Lib.hid ht
  obtain ⟨na1, Aa1, ka1, ca1, na2, Aa2, ka2, ca2, rfl⟩ := hv.shape
  clear hv hq hn hn1 ht
  have HB := Lib.hid (Below.refl w.heap.size w)
  go_enter Tryz.func28, Tryz.ntmps28
  go_wp2_with (first | ((with_reducible refine gate_dst (N := 2) rfl ?_); refine bx_event rfl (cs := #[.bool na1, .slice Aa1 ka1 ca1, .bool na2, .slice Aa2 ka2 ca2]) (t := 31) ?hr ?_; (case hr => first | (go_simp; done) | (go_simp; rfl)); intro g2 w2 hg bk hb; have HG2 := Lib.hid (Nat.le_trans HB.out.size hg); replace HB := Lib.hid (bth HB.out hb); replace HV := Lib.hid (HV.out.below hb); replace HTb := Lib.hid (HTb.out.below hb); have BK2 := Lib.hid bk; obtain ⟨c2_0, c2_1, c2_2, c2_3, f2_0, f2_1, f2_2, f2_3⟩ := BK2.out.all4; clear hb hg bk))
  refine (p_number _ q _ HV.out (n := n) HP.out.1 HP.out.2.1 HP.out.2.2 HTb.out).mono ?_
  rintro e u1 ⟨rfl, hb⟩
  replace HB := Lib.hid (bth HB.out hb)
  clear c2_0 c2_1 c2_2 c2_3 f2_0 f2_1 f2_2 f2_3
  replace BK2 := Lib.hid (BK2.out.below hb)
  obtain ⟨c2_0, c2_1, c2_2, c2_3, f2_0, f2_1, f2_2, f2_3⟩ := BK2.out.all4
  replace HV := Lib.hid (HV.out.below hb)
  replace HTb := Lib.hid (HTb.out.below hb)
  clear hb
  go_wp2_with fail
  go_ret
  exact ⟨by rw [← str_eq]; rfl, HB.out⟩
end Go.Proofs.YtapckjeedekphaaGreatDoor

namespace Go.Proofs.YtapckjeedekphaaGreatDoor
open Go.RowKit Go.Proofs.YtapckjeedekphaaGreatDoorW.PrintWords PR
theorem itx_digit {n : Nat} (h0 : n ≠ 0) (h : n < 10) : itx (n : Int) = [UInt8.ofNat (48 + n)] := by
  rw [itx_pos h0, D10_pos h0, show n / 10 = 0 by omega, D10_zero, show n % 10 = n by omega]
  simp [txd]
theorem itx_negd {n : Nat} (h0 : n ≠ 0) (h : n < 10) : itx (-(n : Int)) = [45, UInt8.ofNat (48 + n)] := by
  have e := itx_sgn (neg := true) (m := (n : Int)) (by omega)
  have e2 : sgn true (n : Int) = -(n : Int) := rfl
  rw [e2] at e
  rw [e, if_pos rfl, Int.toNat_natCast, D10_pos h0, show n / 10 = 0 by omega, D10_zero, show n % 10 = n by omega]
  simp [txd]
theorem known_sum : Rat.divInt 1 2 + Rat.divInt 1 3 = Rat.divInt 5 6 := by
  rw [Rat.divInt_add_divInt 1 1 (by decide) (by decide)]
  rfl
theorem known_a : qtx (Rat.divInt 6 (-4)) = [45, 51, 47, 50] := by
  have h1 : (Rat.divInt 6 (-4)).num = -((3 : Nat) : Int) := by decide
  have h2 : (Rat.divInt 6 (-4)).den = 2 := by decide
  unfold qtx
  rw [h1, h2, if_neg (by decide), itx_negd (by decide) (by decide)]
  have h3 : itx ((2 : Nat) : Int) = [50] := itx_digit (by decide) (by decide)
  rw [h3]; rfl
theorem known_b : qtx (Rat.divInt 1 2 + Rat.divInt 1 3) = [53, 47, 54] := by
  rw [known_sum]
  have h1 : (Rat.divInt 5 6).num = ((5 : Nat) : Int) := by decide
  have h2 : (Rat.divInt 5 6).den = 6 := by decide
  unfold qtx
  rw [h1, h2, if_neg (by decide), itx_digit (by decide) (by decide)]
  have h3 : itx ((6 : Nat) : Int) = [54] := itx_digit (by decide) (by decide)
  rw [h3]; rfl
theorem known_floor : itx (Rat.divInt 6 (-4)).floor = [45, 50] := by
  have h : (Rat.divInt 6 (-4)).floor = -((2 : Nat) : Int) := by decide
  rw [h, itx_negd (by decide) (by decide)]; rfl
theorem known_ceil : itx (Rat.divInt 6 (-4)).ceil = [45, 49] := by
  have h : (Rat.divInt 6 (-4)).ceil = -((1 : Nat) : Int) := by decide
  rw [h, itx_negd (by decide) (by decide)]; rfl
theorem td1 {z : Int} (h : -10 < z ∧ z < 10) : Td 1 z := h
theorem str_const {a b : List UInt8} (h : a = b) : ((S a).toList == b) = true := by rw [S_toList, h]; simp
theorem Td_ceil {n : Nat} {q : Rat} (h : TQ n q) : Td n q.ceil := by
  rw [Rat.ceil_eq_neg_floor_neg]; exact Td_neg (Td_floor (TQ_neg h))
set_option maxHeartbeats 3200000 in
theorem p_known (w : World) (ht : tab10 w) : Calls Tryz.prog 24 #[] w fun e w' => e = .returned (.bool true) ∧ Below w.heap.size w w' := by
  have HT0 := Lib.hid ht
  clear ht
  have e1 := str_const known_a
  have e2 := str_const known_b
  have e3 := str_const known_floor
  have e4 := str_const known_ceil
  have Q1 := Lib.hid (TQ_divInt (td1 (z := 6) (by decide)) (td1 (z := -4) (by decide)) (by decide))
  have Q2 := Lib.hid (TQ_divInt (td1 (z := 1) (by decide)) (td1 (z := 2) (by decide)) (by decide))
  have Q3 := Lib.hid (TQ_divInt (td1 (z := 1) (by decide)) (td1 (z := 3) (by decide)) (by decide))
  obtain ⟨qa, hqa⟩ : ∃ q, Rat.divInt 6 (-4) = q := ⟨_, rfl⟩
  obtain ⟨qb, hqb⟩ : ∃ q, Rat.divInt 1 2 = q := ⟨_, rfl⟩
  obtain ⟨qc, hqc⟩ : ∃ q, Rat.divInt 1 3 = q := ⟨_, rfl⟩
  rw [hqa] at e1 e3 e4 Q1
  rw [hqb, hqc] at e2
  rw [hqb] at Q2
  rw [hqc] at Q3
  have HQA := Lib.hid hqa
  have HQB := Lib.hid hqb
  have HQC := Lib.hid hqc
  clear hqa hqb hqc
  have HB := Lib.hid (Below.refl w.heap.size w)
  go_enter Tryz.func24, Tryz.ntmps24
  go_wp2_with fail
  refine (p_from 6 _ (by decide) (by decide)).mono ?_
  rintro e u1 ⟨va1, rfl, hv, hb⟩
  replace HB := Lib.hid (bth HB.out hb)
  clear hb
  have Ha1 := Lib.hid hv
  clear hv
  go_wp2_with fail
  refine (p_from (-4) _ (by decide) (by decide)).mono ?_
  rintro e u2 ⟨va2, rfl, hv, hb⟩
  replace HB := Lib.hid (bth HB.out hb)
  replace Ha1 := Lib.hid (Ha1.out.below hb)
  clear hb
  have Ha2 := Lib.hid hv
  clear hv
  go_wp2_with fail
  refine (p_makeK _ _ 6 (-4) _ Ha1.out Ha2.out (n := 1) (td1 (by decide)) (td1 (by decide)) (by decide) (by decide) (by decide)).mono ?_
  rintro e u3 ⟨va, rfl, hv, hb⟩
  replace HB := Lib.hid (bth HB.out hb)
  replace Ha1 := Lib.hid (Ha1.out.below hb)
  replace Ha2 := Lib.hid (Ha2.out.below hb)
  clear hb
  rw [HQA.out] at hv
  have Ha := Lib.hid hv
  obtain ⟨na1, Aa1, ka1, ca1, na2, Aa2, ka2, ca2, rfl⟩ := hv.shape
  clear hv
  clear Ha1 Ha2
  go_wp2_with (first | ((with_reducible refine gate_dst (N := 1) rfl ?_); refine bx_event rfl (cs := #[.bool false, .slice none 0 0, .bool false, .slice none 0 0]) (t := 31) ?hr ?_; (case hr => first | (go_simp; done) | (go_simp; rfl)); intro g1 w1 hg bk hb; have HG1 := Lib.hid (Nat.le_trans HB.out.size hg); replace HB := Lib.hid (bth HB.out hb); replace Ha := Lib.hid (Ha.out.below hb); have BK1 := Lib.hid bk; obtain ⟨c1_0, c1_1, c1_2, c1_3, f1_0, f1_1, f1_2, f1_3⟩ := BK1.out.all4; clear hb hg bk))
  obtain ⟨x1, hx⟩ : ∃ W, ((((w1.setCell ⟨g1, 0, none⟩ (.bool na1)).setCell ⟨g1, 1, none⟩ (.slice Aa1 ka1 ca1)).setCell ⟨g1, 2, none⟩ (.bool na2)).setCell ⟨g1, 3, none⟩ (.slice Aa2 ka2 ca2)) = W := ⟨_, rfl⟩
  have KP : Kp w1 x1 := hx ▸ BK1.out.kp4 (by decide) (.bool na1) (.slice Aa1 ka1 ca1) (.bool na2) (.slice Aa2 ka2 ca2)
  have B1' : Hid (Bx x1 g1 31 #[.bool na1, .slice Aa1 ka1 ca1, .bool na2, .slice Aa2 ka2 ca2]) := Lib.hid (hx ▸ BK1.out.put4 _ _ _ _)
  skip
  have HB' : Hid (Below w.heap.size w x1) := Lib.hid (hx ▸ below_put4 HB.out HG1.out _ _ _ _)
  have Ha' := Lib.hid (Ha.out.kp KP)
  rw [hx]
  clear hx KP HB BK1 Ha
  clear c1_0 c1_1 c1_2 c1_3 f1_0 f1_1 f1_2 f1_3
  have BK1 := B1'
  clear B1'
  obtain ⟨c1_0, c1_1, c1_2, c1_3, f1_0, f1_1, f1_2, f1_3⟩ := BK1.out.all4
  have HB := HB'
  clear HB'
  have Ha := Ha'
  clear Ha'
  refine (p_from 1 _ (by decide) (by decide)).mono ?_
  rintro e u4 ⟨vb1, rfl, hv, hb⟩
  replace HB := Lib.hid (bth HB.out hb)
  clear c1_0 c1_1 c1_2 c1_3 f1_0 f1_1 f1_2 f1_3
  replace BK1 := Lib.hid (BK1.out.below hb)
  obtain ⟨c1_0, c1_1, c1_2, c1_3, f1_0, f1_1, f1_2, f1_3⟩ := BK1.out.all4
  replace Ha := Lib.hid (Ha.out.below hb)
  clear hb
  have Hb1 := Lib.hid hv
  clear hv
  go_wp2_with fail
  refine (p_from 2 _ (by decide) (by decide)).mono ?_
  rintro e u5 ⟨vb2, rfl, hv, hb⟩
  replace HB := Lib.hid (bth HB.out hb)
  clear c1_0 c1_1 c1_2 c1_3 f1_0 f1_1 f1_2 f1_3
  replace BK1 := Lib.hid (BK1.out.below hb)
  obtain ⟨c1_0, c1_1, c1_2, c1_3, f1_0, f1_1, f1_2, f1_3⟩ := BK1.out.all4
  replace Ha := Lib.hid (Ha.out.below hb)
  replace Hb1 := Lib.hid (Hb1.out.below hb)
  clear hb
  have Hb2 := Lib.hid hv
  clear hv
  go_wp2_with fail
  refine (p_makeK _ _ 1 2 _ Hb1.out Hb2.out (n := 1) (td1 (by decide)) (td1 (by decide)) (by decide) (by decide) (by decide)).mono ?_
  rintro e u6 ⟨vb, rfl, hv, hb⟩
  replace HB := Lib.hid (bth HB.out hb)
  clear c1_0 c1_1 c1_2 c1_3 f1_0 f1_1 f1_2 f1_3
  replace BK1 := Lib.hid (BK1.out.below hb)
  obtain ⟨c1_0, c1_1, c1_2, c1_3, f1_0, f1_1, f1_2, f1_3⟩ := BK1.out.all4
  replace Ha := Lib.hid (Ha.out.below hb)
  replace Hb1 := Lib.hid (Hb1.out.below hb)
  replace Hb2 := Lib.hid (Hb2.out.below hb)
  clear hb
  rw [HQB.out] at hv
  have Hb := Lib.hid hv
  obtain ⟨nb1, Ab1, kb1, cb1, nb2, Ab2, kb2, cb2, rfl⟩ := hv.shape
  clear hv
  clear Hb1 Hb2
  go_wp2_with (first | ((with_reducible refine gate_dst (N := 3) rfl ?_); refine bx_event rfl (cs := #[.bool false, .slice none 0 0, .bool false, .slice none 0 0]) (t := 31) ?hr ?_; (case hr => first | (go_simp; done) | (go_simp; rfl)); intro g3 w3 hg bk hb; have HG3 := Lib.hid (Nat.le_trans HB.out.size hg); replace HB := Lib.hid (bth HB.out hb); have HN1_3 := Lib.hid (Nat.ne_of_lt (Nat.lt_of_lt_of_le BK1.out.lt hg)); have ne1_3 := HN1_3.out; have en1_3 := HN1_3.out.symm; clear c1_0 c1_1 c1_2 c1_3 f1_0 f1_1 f1_2 f1_3; replace BK1 := Lib.hid (BK1.out.below hb); obtain ⟨c1_0, c1_1, c1_2, c1_3, f1_0, f1_1, f1_2, f1_3⟩ := BK1.out.all4; replace Ha := Lib.hid (Ha.out.below hb); replace Hb := Lib.hid (Hb.out.below hb); have BK3 := Lib.hid bk; obtain ⟨c3_0, c3_1, c3_2, c3_3, f3_0, f3_1, f3_2, f3_3⟩ := BK3.out.all4; clear hb hg bk))
  obtain ⟨x3, hx⟩ : ∃ W, ((((w3.setCell ⟨g3, 0, none⟩ (.bool nb1)).setCell ⟨g3, 1, none⟩ (.slice Ab1 kb1 cb1)).setCell ⟨g3, 2, none⟩ (.bool nb2)).setCell ⟨g3, 3, none⟩ (.slice Ab2 kb2 cb2)) = W := ⟨_, rfl⟩
  have KP : Kp w3 x3 := hx ▸ BK3.out.kp4 (by decide) (.bool nb1) (.slice Ab1 kb1 cb1) (.bool nb2) (.slice Ab2 kb2 cb2)
  have B1' : Hid (Bx x3 g1 31 #[.bool na1, .slice Aa1 ka1 ca1, .bool na2, .slice Aa2 ka2 ca2]) := Lib.hid (hx ▸ BK1.out.far4 HN1_3.out _ _ _ _)
  have B3' : Hid (Bx x3 g3 31 #[.bool nb1, .slice Ab1 kb1 cb1, .bool nb2, .slice Ab2 kb2 cb2]) := Lib.hid (hx ▸ BK3.out.put4 _ _ _ _)
  skip
  clear ne1_3 en1_3
  have HB' : Hid (Below w.heap.size w x3) := Lib.hid (hx ▸ below_put4 HB.out HG3.out _ _ _ _)
  have Ha' := Lib.hid (Ha.out.kp KP)
  have Hb' := Lib.hid (Hb.out.kp KP)
  rw [hx]
  clear hx KP HB BK1 BK3 Ha Hb
  clear c1_0 c1_1 c1_2 c1_3 f1_0 f1_1 f1_2 f1_3
  clear c3_0 c3_1 c3_2 c3_3 f3_0 f3_1 f3_2 f3_3
  have BK1 := B1'
  clear B1'
  obtain ⟨c1_0, c1_1, c1_2, c1_3, f1_0, f1_1, f1_2, f1_3⟩ := BK1.out.all4
  have BK3 := B3'
  clear B3'
  obtain ⟨c3_0, c3_1, c3_2, c3_3, f3_0, f3_1, f3_2, f3_3⟩ := BK3.out.all4
  have HB := HB'
  clear HB'
  have Ha := Ha'
  clear Ha'
  have Hb := Hb'
  clear Hb'
  refine (p_from 1 _ (by decide) (by decide)).mono ?_
  rintro e u7 ⟨vc1, rfl, hv, hb⟩
  replace HB := Lib.hid (bth HB.out hb)
  clear c1_0 c1_1 c1_2 c1_3 f1_0 f1_1 f1_2 f1_3
  replace BK1 := Lib.hid (BK1.out.below hb)
  obtain ⟨c1_0, c1_1, c1_2, c1_3, f1_0, f1_1, f1_2, f1_3⟩ := BK1.out.all4
  clear c3_0 c3_1 c3_2 c3_3 f3_0 f3_1 f3_2 f3_3
  replace BK3 := Lib.hid (BK3.out.below hb)
  obtain ⟨c3_0, c3_1, c3_2, c3_3, f3_0, f3_1, f3_2, f3_3⟩ := BK3.out.all4
  replace Ha := Lib.hid (Ha.out.below hb)
  replace Hb := Lib.hid (Hb.out.below hb)
  clear hb
  have Hc1 := Lib.hid hv
  clear hv
  go_wp2_with fail
  refine (p_from 3 _ (by decide) (by decide)).mono ?_
  rintro e u8 ⟨vc2, rfl, hv, hb⟩
  replace HB := Lib.hid (bth HB.out hb)
  clear c1_0 c1_1 c1_2 c1_3 f1_0 f1_1 f1_2 f1_3
  replace BK1 := Lib.hid (BK1.out.below hb)
  obtain ⟨c1_0, c1_1, c1_2, c1_3, f1_0, f1_1, f1_2, f1_3⟩ := BK1.out.all4
  clear c3_0 c3_1 c3_2 c3_3 f3_0 f3_1 f3_2 f3_3
  replace BK3 := Lib.hid (BK3.out.below hb)
  obtain ⟨c3_0, c3_1, c3_2, c3_3, f3_0, f3_1, f3_2, f3_3⟩ := BK3.out.all4
  replace Ha := Lib.hid (Ha.out.below hb)
  replace Hb := Lib.hid (Hb.out.below hb)
  replace Hc1 := Lib.hid (Hc1.out.below hb)
  clear hb
  have Hc2 := Lib.hid hv
  clear hv
  go_wp2_with fail
  refine (p_makeK _ _ 1 3 _ Hc1.out Hc2.out (n := 1) (td1 (by decide)) (td1 (by decide)) (by decide) (by decide) (by decide)).mono ?_
  rintro e u9 ⟨vc, rfl, hv, hb⟩
  replace HB := Lib.hid (bth HB.out hb)
  clear c1_0 c1_1 c1_2 c1_3 f1_0 f1_1 f1_2 f1_3
  replace BK1 := Lib.hid (BK1.out.below hb)
  obtain ⟨c1_0, c1_1, c1_2, c1_3, f1_0, f1_1, f1_2, f1_3⟩ := BK1.out.all4
  clear c3_0 c3_1 c3_2 c3_3 f3_0 f3_1 f3_2 f3_3
  replace BK3 := Lib.hid (BK3.out.below hb)
  obtain ⟨c3_0, c3_1, c3_2, c3_3, f3_0, f3_1, f3_2, f3_3⟩ := BK3.out.all4
  replace Ha := Lib.hid (Ha.out.below hb)
  replace Hb := Lib.hid (Hb.out.below hb)
  replace Hc1 := Lib.hid (Hc1.out.below hb)
  replace Hc2 := Lib.hid (Hc2.out.below hb)
  clear hb
  rw [HQC.out] at hv
  have Hc := Lib.hid hv
  obtain ⟨nc1, Ac1, kc1, cc1, nc2, Ac2, kc2, cc2, rfl⟩ := hv.shape
  clear hv
  clear Hc1 Hc2
  go_wp2_with (first | ((with_reducible refine gate_dst (N := 5) rfl ?_); refine bx_event rfl (cs := #[.bool false, .slice none 0 0, .bool false, .slice none 0 0]) (t := 31) ?hr ?_; (case hr => first | (go_simp; done) | (go_simp; rfl)); intro g5 w5 hg bk hb; have HG5 := Lib.hid (Nat.le_trans HB.out.size hg); replace HB := Lib.hid (bth HB.out hb); have HN1_5 := Lib.hid (Nat.ne_of_lt (Nat.lt_of_lt_of_le BK1.out.lt hg)); have HN3_5 := Lib.hid (Nat.ne_of_lt (Nat.lt_of_lt_of_le BK3.out.lt hg)); have ne1_5 := HN1_5.out; have en1_5 := HN1_5.out.symm; have ne3_5 := HN3_5.out; have en3_5 := HN3_5.out.symm; clear c1_0 c1_1 c1_2 c1_3 f1_0 f1_1 f1_2 f1_3; replace BK1 := Lib.hid (BK1.out.below hb); obtain ⟨c1_0, c1_1, c1_2, c1_3, f1_0, f1_1, f1_2, f1_3⟩ := BK1.out.all4; clear c3_0 c3_1 c3_2 c3_3 f3_0 f3_1 f3_2 f3_3; replace BK3 := Lib.hid (BK3.out.below hb); obtain ⟨c3_0, c3_1, c3_2, c3_3, f3_0, f3_1, f3_2, f3_3⟩ := BK3.out.all4; replace Ha := Lib.hid (Ha.out.below hb); replace Hb := Lib.hid (Hb.out.below hb); replace Hc := Lib.hid (Hc.out.below hb); have BK5 := Lib.hid bk; obtain ⟨c5_0, c5_1, c5_2, c5_3, f5_0, f5_1, f5_2, f5_3⟩ := BK5.out.all4; clear hb hg bk))
  obtain ⟨x5, hx⟩ : ∃ W, ((((w5.setCell ⟨g5, 0, none⟩ (.bool nc1)).setCell ⟨g5, 1, none⟩ (.slice Ac1 kc1 cc1)).setCell ⟨g5, 2, none⟩ (.bool nc2)).setCell ⟨g5, 3, none⟩ (.slice Ac2 kc2 cc2)) = W := ⟨_, rfl⟩
  have KP : Kp w5 x5 := hx ▸ BK5.out.kp4 (by decide) (.bool nc1) (.slice Ac1 kc1 cc1) (.bool nc2) (.slice Ac2 kc2 cc2)
  have B1' : Hid (Bx x5 g1 31 #[.bool na1, .slice Aa1 ka1 ca1, .bool na2, .slice Aa2 ka2 ca2]) := Lib.hid (hx ▸ BK1.out.far4 HN1_5.out _ _ _ _)
  have B3' : Hid (Bx x5 g3 31 #[.bool nb1, .slice Ab1 kb1 cb1, .bool nb2, .slice Ab2 kb2 cb2]) := Lib.hid (hx ▸ BK3.out.far4 HN3_5.out _ _ _ _)
  have B5' : Hid (Bx x5 g5 31 #[.bool nc1, .slice Ac1 kc1 cc1, .bool nc2, .slice Ac2 kc2 cc2]) := Lib.hid (hx ▸ BK5.out.put4 _ _ _ _)
  skip
  clear ne1_5 en1_5
  clear ne3_5 en3_5
  have HB' : Hid (Below w.heap.size w x5) := Lib.hid (hx ▸ below_put4 HB.out HG5.out _ _ _ _)
  have Ha' := Lib.hid (Ha.out.kp KP)
  have Hb' := Lib.hid (Hb.out.kp KP)
  have Hc' := Lib.hid (Hc.out.kp KP)
  rw [hx]
  clear hx KP HB BK1 BK3 BK5 Ha Hb Hc
  clear c1_0 c1_1 c1_2 c1_3 f1_0 f1_1 f1_2 f1_3
  clear c3_0 c3_1 c3_2 c3_3 f3_0 f3_1 f3_2 f3_3
  clear c5_0 c5_1 c5_2 c5_3 f5_0 f5_1 f5_2 f5_3
  have BK1 := B1'
  clear B1'
  obtain ⟨c1_0, c1_1, c1_2, c1_3, f1_0, f1_1, f1_2, f1_3⟩ := BK1.out.all4
  have BK3 := B3'
  clear B3'
  obtain ⟨c3_0, c3_1, c3_2, c3_3, f3_0, f3_1, f3_2, f3_3⟩ := BK3.out.all4
  have BK5 := B5'
  clear B5'
  obtain ⟨c5_0, c5_1, c5_2, c5_3, f5_0, f5_1, f5_2, f5_3⟩ := BK5.out.all4
  have HB := HB'
  clear HB'
  have Ha := Ha'
  clear Ha'
  have Hb := Hb'
  clear Hb'
  have Hc := Hc'
  clear Hc'
  have hd1 : True := trivial
  refine (p_number _ qa _ Ha.out (n := 1) Q1.out (by decide) (by decide) (HT0.out.below HB.out)).mono ?_
  rintro e u10 ⟨rfl, hb⟩
  replace HB := Lib.hid (bth HB.out hb)
  clear c1_0 c1_1 c1_2 c1_3 f1_0 f1_1 f1_2 f1_3
  replace BK1 := Lib.hid (BK1.out.below hb)
  obtain ⟨c1_0, c1_1, c1_2, c1_3, f1_0, f1_1, f1_2, f1_3⟩ := BK1.out.all4
  clear c3_0 c3_1 c3_2 c3_3 f3_0 f3_1 f3_2 f3_3
  replace BK3 := Lib.hid (BK3.out.below hb)
  obtain ⟨c3_0, c3_1, c3_2, c3_3, f3_0, f3_1, f3_2, f3_3⟩ := BK3.out.all4
  clear c5_0 c5_1 c5_2 c5_3 f5_0 f5_1 f5_2 f5_3
  replace BK5 := Lib.hid (BK5.out.below hb)
  obtain ⟨c5_0, c5_1, c5_2, c5_3, f5_0, f5_1, f5_2, f5_3⟩ := BK5.out.all4
  replace Ha := Lib.hid (Ha.out.below hb)
  replace Hb := Lib.hid (Hb.out.below hb)
  replace Hc := Lib.hid (Hc.out.below hb)
  clear hb
  go_wp2_with fail
  refine (p_qfloor _ qa _ Ha.out (n := 1) Q1.out (by decide)).mono ?_
  rintro e u11 ⟨vf, rfl, hv, hb⟩
  replace HB := Lib.hid (bth HB.out hb)
  clear c1_0 c1_1 c1_2 c1_3 f1_0 f1_1 f1_2 f1_3
  replace BK1 := Lib.hid (BK1.out.below hb)
  obtain ⟨c1_0, c1_1, c1_2, c1_3, f1_0, f1_1, f1_2, f1_3⟩ := BK1.out.all4
  clear c3_0 c3_1 c3_2 c3_3 f3_0 f3_1 f3_2 f3_3
  replace BK3 := Lib.hid (BK3.out.below hb)
  obtain ⟨c3_0, c3_1, c3_2, c3_3, f3_0, f3_1, f3_2, f3_3⟩ := BK3.out.all4
  clear c5_0 c5_1 c5_2 c5_3 f5_0 f5_1 f5_2 f5_3
  replace BK5 := Lib.hid (BK5.out.below hb)
  obtain ⟨c5_0, c5_1, c5_2, c5_3, f5_0, f5_1, f5_2, f5_3⟩ := BK5.out.all4
  replace Ha := Lib.hid (Ha.out.below hb)
  replace Hb := Lib.hid (Hb.out.below hb)
  replace Hc := Lib.hid (Hc.out.below hb)
  clear hb
  have Hf := Lib.hid hv
  clear hv
  go_wp2_with fail
  refine (p_text _ qa.floor 1 _ Hf.out (Td_floor Q1.out) (by decide) (HT0.out.below HB.out)).mono ?_
  rintro e u12 ⟨rfl, hb⟩
  replace HB := Lib.hid (bth HB.out hb)
  clear c1_0 c1_1 c1_2 c1_3 f1_0 f1_1 f1_2 f1_3
  replace BK1 := Lib.hid (BK1.out.below hb)
  obtain ⟨c1_0, c1_1, c1_2, c1_3, f1_0, f1_1, f1_2, f1_3⟩ := BK1.out.all4
  clear c3_0 c3_1 c3_2 c3_3 f3_0 f3_1 f3_2 f3_3
  replace BK3 := Lib.hid (BK3.out.below hb)
  obtain ⟨c3_0, c3_1, c3_2, c3_3, f3_0, f3_1, f3_2, f3_3⟩ := BK3.out.all4
  clear c5_0 c5_1 c5_2 c5_3 f5_0 f5_1 f5_2 f5_3
  replace BK5 := Lib.hid (BK5.out.below hb)
  obtain ⟨c5_0, c5_1, c5_2, c5_3, f5_0, f5_1, f5_2, f5_3⟩ := BK5.out.all4
  replace Ha := Lib.hid (Ha.out.below hb)
  replace Hb := Lib.hid (Hb.out.below hb)
  replace Hc := Lib.hid (Hc.out.below hb)
  replace Hf := Lib.hid (Hf.out.below hb)
  clear hb
  go_wp2_with fail
  refine (p_qceil _ qa _ Ha.out (n := 1) Q1.out (by decide)).mono ?_
  rintro e u13 ⟨vc, rfl, hv, hb⟩
  replace HB := Lib.hid (bth HB.out hb)
  clear c1_0 c1_1 c1_2 c1_3 f1_0 f1_1 f1_2 f1_3
  replace BK1 := Lib.hid (BK1.out.below hb)
  obtain ⟨c1_0, c1_1, c1_2, c1_3, f1_0, f1_1, f1_2, f1_3⟩ := BK1.out.all4
  clear c3_0 c3_1 c3_2 c3_3 f3_0 f3_1 f3_2 f3_3
  replace BK3 := Lib.hid (BK3.out.below hb)
  obtain ⟨c3_0, c3_1, c3_2, c3_3, f3_0, f3_1, f3_2, f3_3⟩ := BK3.out.all4
  clear c5_0 c5_1 c5_2 c5_3 f5_0 f5_1 f5_2 f5_3
  replace BK5 := Lib.hid (BK5.out.below hb)
  obtain ⟨c5_0, c5_1, c5_2, c5_3, f5_0, f5_1, f5_2, f5_3⟩ := BK5.out.all4
  replace Ha := Lib.hid (Ha.out.below hb)
  replace Hb := Lib.hid (Hb.out.below hb)
  replace Hc := Lib.hid (Hc.out.below hb)
  replace Hf := Lib.hid (Hf.out.below hb)
  clear hb
  have Hg := Lib.hid hv
  clear hv
  go_wp2_with fail
  refine (p_text _ qa.ceil 1 _ Hg.out (Td_ceil Q1.out) (by decide) (HT0.out.below HB.out)).mono ?_
  rintro e u14 ⟨rfl, hb⟩
  replace HB := Lib.hid (bth HB.out hb)
  clear c1_0 c1_1 c1_2 c1_3 f1_0 f1_1 f1_2 f1_3
  replace BK1 := Lib.hid (BK1.out.below hb)
  obtain ⟨c1_0, c1_1, c1_2, c1_3, f1_0, f1_1, f1_2, f1_3⟩ := BK1.out.all4
  clear c3_0 c3_1 c3_2 c3_3 f3_0 f3_1 f3_2 f3_3
  replace BK3 := Lib.hid (BK3.out.below hb)
  obtain ⟨c3_0, c3_1, c3_2, c3_3, f3_0, f3_1, f3_2, f3_3⟩ := BK3.out.all4
  clear c5_0 c5_1 c5_2 c5_3 f5_0 f5_1 f5_2 f5_3
  replace BK5 := Lib.hid (BK5.out.below hb)
  obtain ⟨c5_0, c5_1, c5_2, c5_3, f5_0, f5_1, f5_2, f5_3⟩ := BK5.out.all4
  replace Ha := Lib.hid (Ha.out.below hb)
  replace Hb := Lib.hid (Hb.out.below hb)
  replace Hc := Lib.hid (Hc.out.below hb)
  replace Hf := Lib.hid (Hf.out.below hb)
  replace Hg := Lib.hid (Hg.out.below hb)
  clear hb
  go_wp2_with fail
  refine (p_qadd _ _ qb qc _ Hb.out Hc.out (n := 1) Q2.out Q3.out (by decide) (by decide)).mono ?_
  rintro e u15 ⟨vs, rfl, hv, hb⟩
  replace HB := Lib.hid (bth HB.out hb)
  clear c1_0 c1_1 c1_2 c1_3 f1_0 f1_1 f1_2 f1_3
  replace BK1 := Lib.hid (BK1.out.below hb)
  obtain ⟨c1_0, c1_1, c1_2, c1_3, f1_0, f1_1, f1_2, f1_3⟩ := BK1.out.all4
  clear c3_0 c3_1 c3_2 c3_3 f3_0 f3_1 f3_2 f3_3
  replace BK3 := Lib.hid (BK3.out.below hb)
  obtain ⟨c3_0, c3_1, c3_2, c3_3, f3_0, f3_1, f3_2, f3_3⟩ := BK3.out.all4
  clear c5_0 c5_1 c5_2 c5_3 f5_0 f5_1 f5_2 f5_3
  replace BK5 := Lib.hid (BK5.out.below hb)
  obtain ⟨c5_0, c5_1, c5_2, c5_3, f5_0, f5_1, f5_2, f5_3⟩ := BK5.out.all4
  replace Ha := Lib.hid (Ha.out.below hb)
  replace Hb := Lib.hid (Hb.out.below hb)
  replace Hc := Lib.hid (Hc.out.below hb)
  replace Hf := Lib.hid (Hf.out.below hb)
  replace Hg := Lib.hid (Hg.out.below hb)
  clear hb
  have Hs := Lib.hid hv
  clear hv
  go_wp2_with fail
  refine (p_number _ (qb + qc) _ Hs.out (n := 3) (TQ_add Q2.out Q3.out) (by decide) (by decide) (HT0.out.below HB.out)).mono ?_
  rintro e u16 ⟨rfl, hb⟩
  replace HB := Lib.hid (bth HB.out hb)
  clear c1_0 c1_1 c1_2 c1_3 f1_0 f1_1 f1_2 f1_3
  replace BK1 := Lib.hid (BK1.out.below hb)
  obtain ⟨c1_0, c1_1, c1_2, c1_3, f1_0, f1_1, f1_2, f1_3⟩ := BK1.out.all4
  clear c3_0 c3_1 c3_2 c3_3 f3_0 f3_1 f3_2 f3_3
  replace BK3 := Lib.hid (BK3.out.below hb)
  obtain ⟨c3_0, c3_1, c3_2, c3_3, f3_0, f3_1, f3_2, f3_3⟩ := BK3.out.all4
  clear c5_0 c5_1 c5_2 c5_3 f5_0 f5_1 f5_2 f5_3
  replace BK5 := Lib.hid (BK5.out.below hb)
  obtain ⟨c5_0, c5_1, c5_2, c5_3, f5_0, f5_1, f5_2, f5_3⟩ := BK5.out.all4
  replace Ha := Lib.hid (Ha.out.below hb)
  replace Hb := Lib.hid (Hb.out.below hb)
  replace Hc := Lib.hid (Hc.out.below hb)
  replace Hf := Lib.hid (Hf.out.below hb)
  replace Hg := Lib.hid (Hg.out.below hb)
  replace Hs := Lib.hid (Hs.out.below hb)
  clear hb
  go_wp2_with fail
  go_ret
  exact ⟨rfl, HB.out⟩
end Go.Proofs.YtapckjeedekphaaGreatDoor

namespace Go.Proofs.YtapckjeedekphaaGreatDoor
open Go.RowKit Go.Proofs.YtapckjeedekphaaGreatDoorW.PrintWords PR
/-- A text of an integer without a fault. -/
theorem chkI_ok {l : List UInt8} (h : chkI l = 0) : itx (vI l) = l := by
  unfold chkI at h
  split at h
  · exact absurd h (by decide)
  · split at h
    · exact absurd h (by decide)
    · split at h
      · exact absurd h (by decide)
      · rename_i _ h2 h3
        exact itx_vI (by simpa using h2) (by simpa using h3)
theorem p_parse0 (z : Int) (w : World) (h : chkI (itx z) = 0) : Calls Tryz.prog 26 #[.string (S (itx z))] w fun e w' => ∃ v, e = .returned (.tuple #[v, .int .i64 0]) ∧ RI w' v z ∧ Below w.heap.size w w' := by
  refine (p_parse (itx z) w).mono ?_
  rintro e w' ⟨v, rfl, h1, hb⟩
  rw [if_pos h, vI_itx] at h1
  exact ⟨v, by rw [h], h1, hb⟩
theorem p_makeZ (va vb : Value) (x y : Int) (w : World) (ha : RI w va x) (hb : RI w vb y) {n : Nat} (hx : Td n x) (hy : Td n y) (hn : n ≤ 900000) (hn1 : 1 ≤ n) (h0 : y = 0) : Calls Tryz.prog 27 #[va, vb] w (RetRE w 0 19) := by
  have h := p_make va vb x y w ha hb hx hy hn hn1
  rw [if_pos h0, if_pos h0] at h
  exact h
theorem qtx_zero : qtx 0 = [48] := by
  unfold qtx
  rw [if_pos (show (0 : Rat).den = 1 from rfl)]; exact itx_zero
theorem itx_inj {x y : Int} (h : itx x = itx y) : x = y := by
  have := congrArg vI h
  rwa [vI_itx, vI_itx] at this
theorem str_self (a : List UInt8) : ((S a).toList == (S a).toList) = true := by simp
end Go.Proofs.YtapckjeedekphaaGreatDoor

