/- Part 2 of the walk: our own texts for this claim, in order. -/
import Derived.Test.YtapckjeedekphaaGreatDoorMb1
namespace Go.Proofs.YtapckjeedekphaaGreatDoor.PR
open Go.RowKit Go.Proofs.YtapckjeedekphaaGreatDoorW.PrintWords Go.Proofs.YtapckjeedekphaaGreatDoorW.PrintLast Go.Proofs.YtapckjeedekphaaGreatDoorW.PrintMore
set_option linter.unusedVariables false
set_option linter.unusedSimpArgs false

def dowelref01_minus.l0 : Nat → List Int → List Int → List Int → Int → Int → Option (List Int)
  | 0, _, _, _, _, _ => none
  | k + 1, x0, x1, x5, x6, x7 => if x7 < (x0.length : Int) then (if 0 ≤ x7 then (if x7 < (x1.length : Int) then (if (wrap64 ((wrap64 ((rd x0 x7) - x6)) - (rd x1 x7))) < 0 then (if x5.length < 17592186044416 then (dowelref01_minus.l0 k x0 x1 (x5 ++ [wrap64 ((wrap64 ((wrap64 ((rd x0 x7) - x6)) - (rd x1 x7))) + 10)]) 1 (wrap64 (x7 + 1))) else (none)) else (if x5.length < 17592186044416 then (dowelref01_minus.l0 k x0 x1 (x5 ++ [wrap64 ((wrap64 ((rd x0 x7) - x6)) - (rd x1 x7))]) 0 (wrap64 (x7 + 1))) else (none))) else (if (wrap64 ((rd x0 x7) - x6)) < 0 then (if x5.length < 17592186044416 then (dowelref01_minus.l0 k x0 x1 (x5 ++ [wrap64 ((wrap64 ((rd x0 x7) - x6)) + 10)]) 1 (wrap64 (x7 + 1))) else (none)) else (if x5.length < 17592186044416 then (dowelref01_minus.l0 k x0 x1 (x5 ++ [wrap64 ((rd x0 x7) - x6)]) 0 (wrap64 (x7 + 1))) else (none)))) else (none)) else ((dowelref01_trim.f k x5).bind fun t376 => (some t376))
def dowelref01_minus.f (k : Nat) (l0 : List Int) (l1 : List Int) : Option (List Int) := dowelref01_minus.l0 k l0 l1 ([] : List Int) 0 0
set_option maxHeartbeats 8000000 in
set_option maxRecDepth 100000 in
theorem dowelref01_minus.calls (k : Nat) (A0 : Option Addr) (c0 : Nat) (l0 : List Int) (A1 : Option Addr) (c1 : Nat) (l1 : List Int) (r : List Int) (w : World) (hr0 : Kd.C (Kd.int .i64) w A0 l0.length l0) (hc0 : l0.length ≤ c0) (hr1 : Kd.C (Kd.int .i64) w A1 l1.length l1) (hc1 : l1.length ≤ c1) (h : dowelref01_minus.f k l0 l1 = some r) :
    Calls Tryz.prog 167 #[.slice A0 l0.length c0, .slice A1 l1.length c1] w fun e w' => ∃ v0_ : Value, e = .returned (v0_) ∧ Kd.R (Kd.int .i64) 3 w' w.heap.size (fun _ => True) v0_ r ∧ Below w.heap.size w w' := by
  have HR0 := Aside0.mk hr0
  have HC0 := Aside0.mk hc0
  clear hr0 hc0
  have HR1 := Aside0.mk hr1
  have HC1 := Aside0.mk hc1
  clear hr1 hc1
  have HB := Aside0.mk (Below.refl w.heap.size w)
  have H : (dowelref01_minus.l0 k l0 l1 ([] : List Int) 0 0) = some r := h
  clear h
  have H' := Aside0.mk H
  clear H
  go_enter Tryz.func167, Tryz.ntmps167
  go_wp2
  go_loopg [5, 6, 7] k (fun kq v5 v6 v7 w' => ∃ (x5_1 : List Int) (x6_1 : Int) (x7_1 : Int), v6 = .int .i64 x6_1 ∧ v7 = .int .i64 x7_1 ∧ Aside0 (dowelref01_minus.l0 kq l0 l1 x5_1 x6_1 x7_1 = some r) ∧ Aside0 (kq ≤ k) ∧ Aside0 (Kd.R (Kd.int .i64) 3 w' w.heap.size (fun _ => True) v5 x5_1) ∧ Aside0 (Below w.heap.size w w'))
  case atStart => exact ⟨(([] : List Int)), (0), (0), (by first | rfl | (simp; done) | (simp [*]; done)), (by first | rfl | (simp; done) | (simp [*]; done)), H', ⟨Nat.le_refl _⟩, ⟨by first | exact Kd.R_nil _ _ _ _ _ | exact Kd.N_nil _ _ _ _ _ | exact Kd.V_nil _ _ _ _ _ | exact Kd.Q_nil _ _ _ _ _ | exact Kd.S_nil _ _ _ _ _⟩, ⟨by repeat (first | (with_reducible first | exact HB.out | apply below_alloc | apply pw_below_drewN | apply below_drew1) | exact HB.out)⟩⟩
  case round =>
    clear H'
    try clear c1
    try clear p2
    obtain ⟨x5_1, x6_1, x7_1, rfl, rfl, HA, HK1, HO_5, HB⟩ := hrel
    cases gk with
    | zero => exact absurd HA.out (by simp [dowelref01_minus.l0])
    | succ k1 =>
      have H := HA.out
      clear HA
      simp only [dowelref01_minus.l0] at H
      by_cases c3 : x7_1 < (l0.length : Int)
      · rw [if_pos c3] at H
        have c3b0 : decide (x7_1 < (l0.length : Int)) = true := decide_eq_true c3
        clear c3
        by_cases c4 : 0 ≤ x7_1
        · rw [if_pos c4] at H
          have c4b0 : decide (0 ≤ x7_1) = true := decide_eq_true c4
          clear c4
          by_cases c5 : x7_1 < (l1.length : Int)
          · rw [if_pos c5] at H
            have c5b0 : decide (x7_1 < (l1.length : Int)) = true := decide_eq_true c5
            clear c5
            by_cases c6 : (wrap64 ((wrap64 ((rd l0 x7_1) - x6_1)) - (rd l1 x7_1))) < 0
            · rw [if_pos c6] at H
              have c6b0 : decide ((wrap64 ((wrap64 ((rd l0 x7_1) - x6_1)) - (rd l1 x7_1))) < 0) = true := decide_eq_true c6
              clear c6
              by_cases c7 : x5_1.length < 17592186044416
              · rw [if_pos c7] at H
                have LMc7 := Aside0.mk c7
                clear c7
                obtain ⟨y381, hy381⟩ : ∃ y_ : List Int, y_ = (x5_1 ++ [wrap64 ((wrap64 ((wrap64 ((rd l0 x7_1) - x6_1)) - (rd l1 x7_1))) + 10)]) := ⟨_, rfl⟩
                replace H : (dowelref01_minus.l0 k1 l0 l1 y381 1 (wrap64 (x7_1 + 1))) = some r := by first | (rw [hy381]; with_reducible exact H) | (have H2_ := (Option.bind_some _ _).symm.trans H; rw [hy381]; with_reducible exact H2_) | (have H2_ := (Option.bind_some _ _).symm.trans H; with_reducible exact H2_) | with_reducible exact H | (rw [hy381]; exact H) | exact H
                have Ny381 := Aside0.mk hy381
                clear hy381
                have H' := Aside0.mk H
                clear H
                have p379 : 0 ≤ (x7_1 : Int) := of_decide_eq_true (by first | (with_reducible assumption) | assumption)
                have q379 : x7_1 < (l0.length : Int) := of_decide_eq_true (by first | (with_reducible assumption) | assumption)
                obtain ⟨ad379, e379, hx379_0⟩ := Kd.at_int HR0.out x7_1 p379 q379
                cases e379
                replace hx379_0 := (HB.out.cell (World.block_lt_of_cell? w _ hx379_0)).trans hx379_0
                replace p379 := eq_true p379
                replace q379 := eq_true q379
                have p380 : 0 ≤ (x7_1 : Int) := of_decide_eq_true (by first | (with_reducible assumption) | assumption)
                have q380 : x7_1 < (l1.length : Int) := of_decide_eq_true (by first | (with_reducible assumption) | assumption)
                obtain ⟨ad380, e380, hx380_0⟩ := Kd.at_int HR1.out x7_1 p380 q380
                cases e380
                replace hx380_0 := (HB.out.cell (World.block_lt_of_cell? w _ hx380_0)).trans hx380_0
                replace p380 := eq_true p380
                replace q380 := eq_true q380
                go_wp2_with (first | ((with_reducible refine gate_builtin (b := .append) (xs := #[.tmp 35, .tmp 37]) rfl ?_); at_builtin; refine Kd.R_append (Kd.int .i64) (w0 := w) w.heap.size rfl (.tmp 35) (.tmp 37) 165 3 (.int .i64 0) 8 rfl Tryz.underlying165 info3 rfl (by decide) (by omega) u5 x5_1 (wrap64 ((wrap64 ((wrap64 ((rd l0 x7_1) - x6_1)) - (rd l1 x7_1))) + 10)) [.int .i64 (wrap64 ((wrap64 ((wrap64 ((rd l0 x7_1) - x6_1)) - (rd l1 x7_1))) + 10))] (fun _ => True) (fun _ => False) rfl rfl ?aP (fun _ hk => hk.elim) ?aF ?aO ?aB ?aS ?aL ?_; (case aP => exact rfl); (case aB => exact (by repeat (first | (with_reducible first | exact HB.out | apply below_alloc | apply pw_below_drewN | apply below_drew1) | exact HB.out))); (case aF => exact (fun _ _ => trivial)); (case aO => exact (by (with_reducible repeat (first | apply Kd.R_alloc | apply Kd.R_drewN | apply Kd.R_drew)); exact HO_5.out)); (case aS => exact (below_size (by repeat (first | (with_reducible first | exact HB.out | apply below_alloc | apply pw_below_drewN | apply below_drew1) | exact HB.out)))); (case aL => have := LMc7.out; omega); intro v382 w8 ho hb hg hat; rw [← Ny381.out] at ho; have n0_ := Aside0.mk (hb); have n1_ := Aside0.mk (ho); clear HB; clear HO_5; have HB := n0_; have HO383 := n1_; clear n0_ n1_; clear ho hb hg hat))
                go_roundg k1
                case measure => have := HK1.out; omega
                case rel => exact ⟨(y381), (1), (wrap64 (x7_1 + 1)), (by first | rfl | (simp; done) | (simp [*]; done)), (by first | rfl | (simp; done) | (simp [*]; done)), H', ⟨by have := HK1.out; omega⟩, ⟨by (with_reducible repeat (first | apply Kd.R_alloc | apply Kd.R_drewN | apply Kd.R_drew)); exact HO383.out⟩, ⟨by repeat (first | (with_reducible first | exact HB.out | apply below_alloc | apply pw_below_drewN | apply below_drew1) | exact HB.out)⟩⟩
              · rw [if_neg c7] at H
                exact absurd H (by simp)
            · rw [if_neg c6] at H
              have c6b0 : decide ((wrap64 ((wrap64 ((rd l0 x7_1) - x6_1)) - (rd l1 x7_1))) < 0) = false := decide_eq_false c6
              clear c6
              by_cases c9 : x5_1.length < 17592186044416
              · rw [if_pos c9] at H
                have LMc9 := Aside0.mk c9
                clear c9
                obtain ⟨y384, hy384⟩ : ∃ y_ : List Int, y_ = (x5_1 ++ [wrap64 ((wrap64 ((rd l0 x7_1) - x6_1)) - (rd l1 x7_1))]) := ⟨_, rfl⟩
                replace H : (dowelref01_minus.l0 k1 l0 l1 y384 0 (wrap64 (x7_1 + 1))) = some r := by first | (rw [hy384]; with_reducible exact H) | (have H2_ := (Option.bind_some _ _).symm.trans H; rw [hy384]; with_reducible exact H2_) | (have H2_ := (Option.bind_some _ _).symm.trans H; with_reducible exact H2_) | with_reducible exact H | (rw [hy384]; exact H) | exact H
                have Ny384 := Aside0.mk hy384
                clear hy384
                have H' := Aside0.mk H
                clear H
                have p379 : 0 ≤ (x7_1 : Int) := of_decide_eq_true (by first | (with_reducible assumption) | assumption)
                have q379 : x7_1 < (l0.length : Int) := of_decide_eq_true (by first | (with_reducible assumption) | assumption)
                obtain ⟨ad379, e379, hx379_0⟩ := Kd.at_int HR0.out x7_1 p379 q379
                cases e379
                replace hx379_0 := (HB.out.cell (World.block_lt_of_cell? w _ hx379_0)).trans hx379_0
                replace p379 := eq_true p379
                replace q379 := eq_true q379
                have p380 : 0 ≤ (x7_1 : Int) := of_decide_eq_true (by first | (with_reducible assumption) | assumption)
                have q380 : x7_1 < (l1.length : Int) := of_decide_eq_true (by first | (with_reducible assumption) | assumption)
                obtain ⟨ad380, e380, hx380_0⟩ := Kd.at_int HR1.out x7_1 p380 q380
                cases e380
                replace hx380_0 := (HB.out.cell (World.block_lt_of_cell? w _ hx380_0)).trans hx380_0
                replace p380 := eq_true p380
                replace q380 := eq_true q380
                go_wp2_with (first | ((with_reducible refine gate_builtin (b := .append) (xs := #[.tmp 35, .tmp 37]) rfl ?_); at_builtin; refine Kd.R_append (Kd.int .i64) (w0 := w) w.heap.size rfl (.tmp 35) (.tmp 37) 165 3 (.int .i64 0) 8 rfl Tryz.underlying165 info3 rfl (by decide) (by omega) u5 x5_1 (wrap64 ((wrap64 ((rd l0 x7_1) - x6_1)) - (rd l1 x7_1))) [.int .i64 (wrap64 ((wrap64 ((rd l0 x7_1) - x6_1)) - (rd l1 x7_1)))] (fun _ => True) (fun _ => False) rfl rfl ?aP (fun _ hk => hk.elim) ?aF ?aO ?aB ?aS ?aL ?_; (case aP => exact rfl); (case aB => exact (by repeat (first | (with_reducible first | exact HB.out | apply below_alloc | apply pw_below_drewN | apply below_drew1) | exact HB.out))); (case aF => exact (fun _ _ => trivial)); (case aO => exact (by (with_reducible repeat (first | apply Kd.R_alloc | apply Kd.R_drewN | apply Kd.R_drew)); exact HO_5.out)); (case aS => exact (below_size (by repeat (first | (with_reducible first | exact HB.out | apply below_alloc | apply pw_below_drewN | apply below_drew1) | exact HB.out)))); (case aL => have := LMc9.out; omega); intro v385 w10 ho hb hg hat; rw [← Ny384.out] at ho; have n0_ := Aside0.mk (hb); have n1_ := Aside0.mk (ho); clear HB; clear HO_5; have HB := n0_; have HO386 := n1_; clear n0_ n1_; clear ho hb hg hat))
                go_roundg k1
                case measure => have := HK1.out; omega
                case rel => exact ⟨(y384), (0), (wrap64 (x7_1 + 1)), (by first | rfl | (simp; done) | (simp [*]; done)), (by first | rfl | (simp; done) | (simp [*]; done)), H', ⟨by have := HK1.out; omega⟩, ⟨by (with_reducible repeat (first | apply Kd.R_alloc | apply Kd.R_drewN | apply Kd.R_drew)); exact HO386.out⟩, ⟨by repeat (first | (with_reducible first | exact HB.out | apply below_alloc | apply pw_below_drewN | apply below_drew1) | exact HB.out)⟩⟩
              · rw [if_neg c9] at H
                exact absurd H (by simp)
          · rw [if_neg c5] at H
            have c5b0 : decide (x7_1 < (l1.length : Int)) = false := decide_eq_false c5
            clear c5
            by_cases c11 : (wrap64 ((rd l0 x7_1) - x6_1)) < 0
            · rw [if_pos c11] at H
              have c11b0 : decide ((wrap64 ((rd l0 x7_1) - x6_1)) < 0) = true := decide_eq_true c11
              clear c11
              by_cases c12 : x5_1.length < 17592186044416
              · rw [if_pos c12] at H
                have LMc12 := Aside0.mk c12
                clear c12
                obtain ⟨y387, hy387⟩ : ∃ y_ : List Int, y_ = (x5_1 ++ [wrap64 ((wrap64 ((rd l0 x7_1) - x6_1)) + 10)]) := ⟨_, rfl⟩
                replace H : (dowelref01_minus.l0 k1 l0 l1 y387 1 (wrap64 (x7_1 + 1))) = some r := by first | (rw [hy387]; with_reducible exact H) | (have H2_ := (Option.bind_some _ _).symm.trans H; rw [hy387]; with_reducible exact H2_) | (have H2_ := (Option.bind_some _ _).symm.trans H; with_reducible exact H2_) | with_reducible exact H | (rw [hy387]; exact H) | exact H
                have Ny387 := Aside0.mk hy387
                clear hy387
                have H' := Aside0.mk H
                clear H
                have p379 : 0 ≤ (x7_1 : Int) := of_decide_eq_true (by first | (with_reducible assumption) | assumption)
                have q379 : x7_1 < (l0.length : Int) := of_decide_eq_true (by first | (with_reducible assumption) | assumption)
                obtain ⟨ad379, e379, hx379_0⟩ := Kd.at_int HR0.out x7_1 p379 q379
                cases e379
                replace hx379_0 := (HB.out.cell (World.block_lt_of_cell? w _ hx379_0)).trans hx379_0
                replace p379 := eq_true p379
                replace q379 := eq_true q379
                go_wp2_with (first | ((with_reducible refine gate_builtin (b := .append) (xs := #[.tmp 35, .tmp 37]) rfl ?_); at_builtin; refine Kd.R_append (Kd.int .i64) (w0 := w) w.heap.size rfl (.tmp 35) (.tmp 37) 165 3 (.int .i64 0) 8 rfl Tryz.underlying165 info3 rfl (by decide) (by omega) u5 x5_1 (wrap64 ((wrap64 ((rd l0 x7_1) - x6_1)) + 10)) [.int .i64 (wrap64 ((wrap64 ((rd l0 x7_1) - x6_1)) + 10))] (fun _ => True) (fun _ => False) rfl rfl ?aP (fun _ hk => hk.elim) ?aF ?aO ?aB ?aS ?aL ?_; (case aP => exact rfl); (case aB => exact (by repeat (first | (with_reducible first | exact HB.out | apply below_alloc | apply pw_below_drewN | apply below_drew1) | exact HB.out))); (case aF => exact (fun _ _ => trivial)); (case aO => exact (by (with_reducible repeat (first | apply Kd.R_alloc | apply Kd.R_drewN | apply Kd.R_drew)); exact HO_5.out)); (case aS => exact (below_size (by repeat (first | (with_reducible first | exact HB.out | apply below_alloc | apply pw_below_drewN | apply below_drew1) | exact HB.out)))); (case aL => have := LMc12.out; omega); intro v388 w13 ho hb hg hat; rw [← Ny387.out] at ho; have n0_ := Aside0.mk (hb); have n1_ := Aside0.mk (ho); clear HB; clear HO_5; have HB := n0_; have HO389 := n1_; clear n0_ n1_; clear ho hb hg hat))
                go_roundg k1
                case measure => have := HK1.out; omega
                case rel => exact ⟨(y387), (1), (wrap64 (x7_1 + 1)), (by first | rfl | (simp; done) | (simp [*]; done)), (by first | rfl | (simp; done) | (simp [*]; done)), H', ⟨by have := HK1.out; omega⟩, ⟨by (with_reducible repeat (first | apply Kd.R_alloc | apply Kd.R_drewN | apply Kd.R_drew)); exact HO389.out⟩, ⟨by repeat (first | (with_reducible first | exact HB.out | apply below_alloc | apply pw_below_drewN | apply below_drew1) | exact HB.out)⟩⟩
              · rw [if_neg c12] at H
                exact absurd H (by simp)
            · rw [if_neg c11] at H
              have c11b0 : decide ((wrap64 ((rd l0 x7_1) - x6_1)) < 0) = false := decide_eq_false c11
              clear c11
              by_cases c14 : x5_1.length < 17592186044416
              · rw [if_pos c14] at H
                have LMc14 := Aside0.mk c14
                clear c14
                obtain ⟨y390, hy390⟩ : ∃ y_ : List Int, y_ = (x5_1 ++ [wrap64 ((rd l0 x7_1) - x6_1)]) := ⟨_, rfl⟩
                replace H : (dowelref01_minus.l0 k1 l0 l1 y390 0 (wrap64 (x7_1 + 1))) = some r := by first | (rw [hy390]; with_reducible exact H) | (have H2_ := (Option.bind_some _ _).symm.trans H; rw [hy390]; with_reducible exact H2_) | (have H2_ := (Option.bind_some _ _).symm.trans H; with_reducible exact H2_) | with_reducible exact H | (rw [hy390]; exact H) | exact H
                have Ny390 := Aside0.mk hy390
                clear hy390
                have H' := Aside0.mk H
                clear H
                have p379 : 0 ≤ (x7_1 : Int) := of_decide_eq_true (by first | (with_reducible assumption) | assumption)
                have q379 : x7_1 < (l0.length : Int) := of_decide_eq_true (by first | (with_reducible assumption) | assumption)
                obtain ⟨ad379, e379, hx379_0⟩ := Kd.at_int HR0.out x7_1 p379 q379
                cases e379
                replace hx379_0 := (HB.out.cell (World.block_lt_of_cell? w _ hx379_0)).trans hx379_0
                replace p379 := eq_true p379
                replace q379 := eq_true q379
                go_wp2_with (first | ((with_reducible refine gate_builtin (b := .append) (xs := #[.tmp 35, .tmp 37]) rfl ?_); at_builtin; refine Kd.R_append (Kd.int .i64) (w0 := w) w.heap.size rfl (.tmp 35) (.tmp 37) 165 3 (.int .i64 0) 8 rfl Tryz.underlying165 info3 rfl (by decide) (by omega) u5 x5_1 (wrap64 ((rd l0 x7_1) - x6_1)) [.int .i64 (wrap64 ((rd l0 x7_1) - x6_1))] (fun _ => True) (fun _ => False) rfl rfl ?aP (fun _ hk => hk.elim) ?aF ?aO ?aB ?aS ?aL ?_; (case aP => exact rfl); (case aB => exact (by repeat (first | (with_reducible first | exact HB.out | apply below_alloc | apply pw_below_drewN | apply below_drew1) | exact HB.out))); (case aF => exact (fun _ _ => trivial)); (case aO => exact (by (with_reducible repeat (first | apply Kd.R_alloc | apply Kd.R_drewN | apply Kd.R_drew)); exact HO_5.out)); (case aS => exact (below_size (by repeat (first | (with_reducible first | exact HB.out | apply below_alloc | apply pw_below_drewN | apply below_drew1) | exact HB.out)))); (case aL => have := LMc14.out; omega); intro v391 w15 ho hb hg hat; rw [← Ny390.out] at ho; have n0_ := Aside0.mk (hb); have n1_ := Aside0.mk (ho); clear HB; clear HO_5; have HB := n0_; have HO392 := n1_; clear n0_ n1_; clear ho hb hg hat))
                go_roundg k1
                case measure => have := HK1.out; omega
                case rel => exact ⟨(y390), (0), (wrap64 (x7_1 + 1)), (by first | rfl | (simp; done) | (simp [*]; done)), (by first | rfl | (simp; done) | (simp [*]; done)), H', ⟨by have := HK1.out; omega⟩, ⟨by (with_reducible repeat (first | apply Kd.R_alloc | apply Kd.R_drewN | apply Kd.R_drew)); exact HO392.out⟩, ⟨by repeat (first | (with_reducible first | exact HB.out | apply below_alloc | apply pw_below_drewN | apply below_drew1) | exact HB.out)⟩⟩
              · rw [if_neg c14] at H
                exact absurd H (by simp)
        · rw [if_neg c4] at H
          exact absurd H (by simp)
      · rw [if_neg c3] at H
        have c3b0 : decide (x7_1 < (l0.length : Int)) = false := decide_eq_false c3
        clear c3
        replace H := Option.bind_eq_some_iff.mp H
        obtain ⟨t376, A160, H⟩ := H
        replace H : (some t376) = some r := H
        have A16 := Aside0.mk A160
        clear A160
        obtain rfl := Option.some.inj H
        obtain ⟨Ao17, co17, eo17⟩ := Kd.R_slice HO_5.out
        subst eo17
        go_wp2_with (first | ((with_reducible refine gate_callee (f := 166) rfl ?_); refine goesL_ (some 40) rfl rfl Tryz.func166 (by kernel_rfl) rfl #[.slice Ao17 x5_1.length co17] rfl (by (try simp only [List.map_toArray, List.map_cons, List.map_nil]); first | done | rfl | (simp only [List.length_drop, List.length_take]; rfl)) ?_; (with_reducible refine (dowelref01_trim.calls k1 (fun k_ => some k_ = (.slice Ao17 x5_1.length co17 : Value).ownBlock) (.slice Ao17 x5_1.length co17) x5_1 t376 w _ ?side1 ?side2 A16.out).mono ?_); (case side1 => repeat (first | (with_reducible first | exact HB.out | apply below_alloc | apply pw_below_drewN | apply below_drew1) | exact HB.out)); (case side2 => exact Kd.R_tight rfl HO_5.out); rintro e w18 ⟨v377, rfl, ho0, hb, hkp⟩; refine ⟨_, rfl, ?_⟩; have n0_ := Aside0.mk (Kd.R_mono (ok' := fun k_ => True) ho0 (fun k_ hk_ => trivial)); have n1_ := Aside0.mk (hb); clear HB; clear HO_5; have HO378 := n0_; have HB := n1_; clear n0_ n1_; (try clear hb); (try clear hkp); (try clear ho0)))
        go_ret
        exact ⟨_, by first | rfl | (simp [errW_none, errW_some] <;> rfl) | (simp [*, errW_none, errW_some] <;> rfl), by (with_reducible repeat (first | apply Kd.R_alloc | apply Kd.R_drewN | apply Kd.R_drew)); exact HO378.out, by repeat (first | (with_reducible first | exact HB.out | apply below_alloc | apply pw_below_drewN | apply below_drew1) | exact HB.out)⟩

mutual
def dowelref01_plus.l0 : Nat → List Int → List Int → List Int → Int → Int → Option (List Int)
  | 0, _, _, _, _, _ => none
  | k + 1, x0, x1, x5, x6, x7 => if x7 < (x0.length : Int) then (dowelref01_plus.j1 k x0 x1 x5 x6 x7 true) else (if x7 < (x1.length : Int) then (dowelref01_plus.j1 k x0 x1 x5 x6 x7 true) else (dowelref01_plus.j1 k x0 x1 x5 x6 x7 (decide (x6 > 0))))
def dowelref01_plus.j1 : Nat → List Int → List Int → List Int → Int → Int → Bool → Option (List Int)
  | 0, _, _, _, _, _, _ => none
  | k + 1, x0, x1, x5, x6, x7, x22 => if x22 = true then (if x7 < (x0.length : Int) then (if 0 ≤ x7 then (if x7 < (x1.length : Int) then (if x5.length < 17592186044416 then (dowelref01_plus.l0 k x0 x1 (x5 ++ [Int.tmod (wrap64 ((wrap64 (x6 + (rd x0 x7))) + (rd x1 x7))) 10]) (wrap64 (Int.tdiv (wrap64 ((wrap64 (x6 + (rd x0 x7))) + (rd x1 x7))) 10)) (wrap64 (x7 + 1))) else (none)) else (if x5.length < 17592186044416 then (dowelref01_plus.l0 k x0 x1 (x5 ++ [Int.tmod (wrap64 (x6 + (rd x0 x7))) 10]) (wrap64 (Int.tdiv (wrap64 (x6 + (rd x0 x7))) 10)) (wrap64 (x7 + 1))) else (none))) else (none)) else (if x7 < (x1.length : Int) then (if 0 ≤ x7 then (if x5.length < 17592186044416 then (dowelref01_plus.l0 k x0 x1 (x5 ++ [Int.tmod (wrap64 (x6 + (rd x1 x7))) 10]) (wrap64 (Int.tdiv (wrap64 (x6 + (rd x1 x7))) 10)) (wrap64 (x7 + 1))) else (none)) else (none)) else (if x5.length < 17592186044416 then (dowelref01_plus.l0 k x0 x1 (x5 ++ [Int.tmod x6 10]) (wrap64 (Int.tdiv x6 10)) (wrap64 (x7 + 1))) else (none)))) else (some x5)
end
def dowelref01_plus.f (k : Nat) (l0 : List Int) (l1 : List Int) : Option (List Int) := dowelref01_plus.l0 k l0 l1 ([] : List Int) 0 0
set_option maxHeartbeats 8000000 in
set_option maxRecDepth 100000 in
theorem dowelref01_plus.calls (k : Nat) (A0 : Option Addr) (c0 : Nat) (l0 : List Int) (A1 : Option Addr) (c1 : Nat) (l1 : List Int) (r : List Int) (w : World) (hr0 : Kd.C (Kd.int .i64) w A0 l0.length l0) (hc0 : l0.length ≤ c0) (hr1 : Kd.C (Kd.int .i64) w A1 l1.length l1) (hc1 : l1.length ≤ c1) (h : dowelref01_plus.f k l0 l1 = some r) :
    Calls Tryz.prog 182 #[.slice A0 l0.length c0, .slice A1 l1.length c1] w fun e w' => ∃ v0_ : Value, e = .returned (v0_) ∧ Kd.R (Kd.int .i64) 3 w' w.heap.size (fun _ => True) v0_ r ∧ Below w.heap.size w w' := by
  have HR0 := Aside0.mk hr0
  have HC0 := Aside0.mk hc0
  clear hr0 hc0
  have HR1 := Aside0.mk hr1
  have HC1 := Aside0.mk hc1
  clear hr1 hc1
  have HB := Aside0.mk (Below.refl w.heap.size w)
  have H : (dowelref01_plus.l0 k l0 l1 ([] : List Int) 0 0) = some r := h
  clear h
  have H' := Aside0.mk H
  clear H
  go_enter Tryz.func182, Tryz.ntmps182
  go_wp2
  go_loopg [5, 6, 7] k (fun kq v5 v6 v7 w' => ∃ (x5_1 : List Int) (x6_1 : Int) (x7_1 : Int), v6 = .int .i64 x6_1 ∧ v7 = .int .i64 x7_1 ∧ Aside0 (dowelref01_plus.l0 kq l0 l1 x5_1 x6_1 x7_1 = some r) ∧ Aside0 (kq ≤ k) ∧ Aside0 (Kd.R (Kd.int .i64) 3 w' w.heap.size (fun _ => True) v5 x5_1) ∧ Aside0 (Below w.heap.size w w'))
  case atStart => exact ⟨(([] : List Int)), (0), (0), (by first | rfl | (simp; done) | (simp [*]; done)), (by first | rfl | (simp; done) | (simp [*]; done)), H', ⟨Nat.le_refl _⟩, ⟨by first | exact Kd.R_nil _ _ _ _ _ | exact Kd.N_nil _ _ _ _ _ | exact Kd.V_nil _ _ _ _ _ | exact Kd.Q_nil _ _ _ _ _ | exact Kd.S_nil _ _ _ _ _⟩, ⟨by repeat (first | (with_reducible first | exact HB.out | apply below_alloc | apply pw_below_drewN | apply below_drew1) | exact HB.out)⟩⟩
  case round =>
    clear H'
    try clear c1
    try clear p2
    obtain ⟨x5_1, x6_1, x7_1, rfl, rfl, HA, HK1, HO_5, HB⟩ := hrel
    cases gk with
    | zero => exact absurd HA.out (by simp [dowelref01_plus.l0])
    | succ k1 =>
      have H := HA.out
      clear HA
      simp only [dowelref01_plus.l0] at H
      have HC3 := Aside0.mk H
      clear H
      go_upto_region 4 with (fail)
      go_cut [22] (fun v22 wc => ∃ (kq : Nat) (x22_2 : Bool), v22 = .bool x22_2 ∧ Aside0 (dowelref01_plus.j1 kq l0 l1 x5_1 x6_1 x7_1 x22_2 = some r) ∧ Aside0 (kq ≤ k1) ∧ Aside0 (Kd.R (Kd.int .i64) 3 wc w.heap.size (fun _ => True) u5 x5_1) ∧ Aside0 (Below w.heap.size w wc))
      case first =>
        have H := HC3.out
        clear HC3
        by_cases c4 : x7_1 < (l0.length : Int)
        · rw [if_pos c4] at H
          have c4b0 : decide (x7_1 < (l0.length : Int)) = true := decide_eq_true c4
          clear c4
          (first | rw [c4b0] | (simp only [i64_w, i32_w]; rw [c4b0]) | skip)
          have H' := Aside0.mk H
          clear H
          go_wp2
          go_meet
          case rel => exact ⟨_, (true), (by first | rfl | (simp; done) | (simp [*]; done)), H', ⟨by have := HK1.out; first | omega | exact Nat.le_refl _⟩, ⟨by (with_reducible repeat (first | apply Kd.R_alloc | apply Kd.R_drewN | apply Kd.R_drew)); exact HO_5.out⟩, ⟨by repeat (first | (with_reducible first | exact HB.out | apply below_alloc | apply pw_below_drewN | apply below_drew1) | exact HB.out)⟩⟩
        · rw [if_neg c4] at H
          have c4b0 : decide (x7_1 < (l0.length : Int)) = false := decide_eq_false c4
          clear c4
          (first | rw [c4b0] | (simp only [i64_w, i32_w]; rw [c4b0]) | skip)
          by_cases c5 : x7_1 < (l1.length : Int)
          · rw [if_pos c5] at H
            have c5b0 : decide (x7_1 < (l1.length : Int)) = true := decide_eq_true c5
            clear c5
            have H' := Aside0.mk H
            clear H
            go_wp2
            go_meet
            case rel => exact ⟨_, (true), (by first | rfl | (simp; done) | (simp [*]; done)), H', ⟨by have := HK1.out; first | omega | exact Nat.le_refl _⟩, ⟨by (with_reducible repeat (first | apply Kd.R_alloc | apply Kd.R_drewN | apply Kd.R_drew)); exact HO_5.out⟩, ⟨by repeat (first | (with_reducible first | exact HB.out | apply below_alloc | apply pw_below_drewN | apply below_drew1) | exact HB.out)⟩⟩
          · rw [if_neg c5] at H
            have c5b0 : decide (x7_1 < (l1.length : Int)) = false := decide_eq_false c5
            clear c5
            have H' := Aside0.mk H
            clear H
            go_wp2
            go_meet
            case rel => exact ⟨_, (decide (x6_1 > 0)), (by first | rfl | (simp; done) | (simp [*]; done)), H', ⟨by have := HK1.out; first | omega | exact Nat.le_refl _⟩, ⟨by (with_reducible repeat (first | apply Kd.R_alloc | apply Kd.R_drewN | apply Kd.R_drew)); exact HO_5.out⟩, ⟨by repeat (first | (with_reducible first | exact HB.out | apply below_alloc | apply pw_below_drewN | apply below_drew1) | exact HB.out)⟩⟩
      case rest =>
        clear HC3
        try clear c1
        try clear p2
        try clear c4
        try clear c4b0
        try clear c5
        try clear c5b0
        try clear p2
        obtain ⟨kq, x22_2, rfl, HA, HJ2, HO_5, HB⟩ := hcut
        cases kq with
        | zero => exact absurd HA.out (by simp [dowelref01_plus.j1])
        | succ kj2 =>
          have H := HA.out
          clear HA
          simp only [dowelref01_plus.j1] at H
          by_cases c6 : x22_2 = true
          · subst c6
            have H1 : (if x7_1 < (l0.length : Int) then (if 0 ≤ x7_1 then (if x7_1 < (l1.length : Int) then (if x5_1.length < 17592186044416 then (dowelref01_plus.l0 kj2 l0 l1 (x5_1 ++ [Int.tmod (wrap64 ((wrap64 (x6_1 + (rd l0 x7_1))) + (rd l1 x7_1))) 10]) (wrap64 (Int.tdiv (wrap64 ((wrap64 (x6_1 + (rd l0 x7_1))) + (rd l1 x7_1))) 10)) (wrap64 (x7_1 + 1))) else (none)) else (if x5_1.length < 17592186044416 then (dowelref01_plus.l0 kj2 l0 l1 (x5_1 ++ [Int.tmod (wrap64 (x6_1 + (rd l0 x7_1))) 10]) (wrap64 (Int.tdiv (wrap64 (x6_1 + (rd l0 x7_1))) 10)) (wrap64 (x7_1 + 1))) else (none))) else (none)) else (if x7_1 < (l1.length : Int) then (if 0 ≤ x7_1 then (if x5_1.length < 17592186044416 then (dowelref01_plus.l0 kj2 l0 l1 (x5_1 ++ [Int.tmod (wrap64 (x6_1 + (rd l1 x7_1))) 10]) (wrap64 (Int.tdiv (wrap64 (x6_1 + (rd l1 x7_1))) 10)) (wrap64 (x7_1 + 1))) else (none)) else (none)) else (if x5_1.length < 17592186044416 then (dowelref01_plus.l0 kj2 l0 l1 (x5_1 ++ [Int.tmod x6_1 10]) (wrap64 (Int.tdiv x6_1 10)) (wrap64 (x7_1 + 1))) else (none)))) = some r := by rw [if_pos rfl] at H; exact H
            clear H
            have H := H1
            clear H1
            by_cases c7 : x7_1 < (l0.length : Int)
            · rw [if_pos c7] at H
              have c7b0 : decide (x7_1 < (l0.length : Int)) = true := decide_eq_true c7
              clear c7
              by_cases c8 : 0 ≤ x7_1
              · rw [if_pos c8] at H
                have c8b0 : decide (0 ≤ x7_1) = true := decide_eq_true c8
                clear c8
                by_cases c9 : x7_1 < (l1.length : Int)
                · rw [if_pos c9] at H
                  have c9b0 : decide (x7_1 < (l1.length : Int)) = true := decide_eq_true c9
                  clear c9
                  by_cases c10 : x5_1.length < 17592186044416
                  · rw [if_pos c10] at H
                    have LMc10 := Aside0.mk c10
                    clear c10
                    obtain ⟨y395, hy395⟩ : ∃ y_ : List Int, y_ = (x5_1 ++ [Int.tmod (wrap64 ((wrap64 (x6_1 + (rd l0 x7_1))) + (rd l1 x7_1))) 10]) := ⟨_, rfl⟩
                    replace H : (dowelref01_plus.l0 kj2 l0 l1 y395 (wrap64 (Int.tdiv (wrap64 ((wrap64 (x6_1 + (rd l0 x7_1))) + (rd l1 x7_1))) 10)) (wrap64 (x7_1 + 1))) = some r := by first | (rw [hy395]; with_reducible exact H) | (have H2_ := (Option.bind_some _ _).symm.trans H; rw [hy395]; with_reducible exact H2_) | (have H2_ := (Option.bind_some _ _).symm.trans H; with_reducible exact H2_) | with_reducible exact H | (rw [hy395]; exact H) | exact H
                    have Ny395 := Aside0.mk hy395
                    clear hy395
                    have H' := Aside0.mk H
                    clear H
                    have p393 : 0 ≤ (x7_1 : Int) := of_decide_eq_true (by first | (with_reducible assumption) | assumption)
                    have q393 : x7_1 < (l0.length : Int) := of_decide_eq_true (by first | (with_reducible assumption) | assumption)
                    obtain ⟨ad393, e393, hx393_0⟩ := Kd.at_int HR0.out x7_1 p393 q393
                    cases e393
                    replace hx393_0 := (HB.out.cell (World.block_lt_of_cell? w _ hx393_0)).trans hx393_0
                    replace p393 := eq_true p393
                    replace q393 := eq_true q393
                    have p394 : 0 ≤ (x7_1 : Int) := of_decide_eq_true (by first | (with_reducible assumption) | assumption)
                    have q394 : x7_1 < (l1.length : Int) := of_decide_eq_true (by first | (with_reducible assumption) | assumption)
                    obtain ⟨ad394, e394, hx394_0⟩ := Kd.at_int HR1.out x7_1 p394 q394
                    cases e394
                    replace hx394_0 := (HB.out.cell (World.block_lt_of_cell? w _ hx394_0)).trans hx394_0
                    replace p394 := eq_true p394
                    replace q394 := eq_true q394
                    go_wp2_with (first | ((with_reducible refine gate_builtin (b := .append) (xs := #[.tmp 46, .tmp 49]) rfl ?_); (try (refine gate_guard (by rfl) ?_; dsimp only)); at_builtin; refine Kd.R_append (Kd.int .i64) (w0 := w) w.heap.size rfl (.tmp 46) (.tmp 49) 165 3 (.int .i64 0) 8 rfl Tryz.underlying165 info3 rfl (by decide) (by omega) u5 x5_1 (Int.tmod (wrap64 ((wrap64 (x6_1 + (rd l0 x7_1))) + (rd l1 x7_1))) 10) [.int .i64 (Int.tmod (wrap64 ((wrap64 (x6_1 + (rd l0 x7_1))) + (rd l1 x7_1))) 10)] (fun _ => True) (fun _ => False) rfl rfl ?aP (fun _ hk => hk.elim) ?aF ?aO ?aB ?aS ?aL ?_; (case aP => exact rfl); (case aB => exact (by repeat (first | (with_reducible first | exact HB.out | apply below_alloc | apply pw_below_drewN | apply below_drew1) | exact HB.out))); (case aF => exact (fun _ _ => trivial)); (case aO => exact (by (with_reducible repeat (first | apply Kd.R_alloc | apply Kd.R_drewN | apply Kd.R_drew)); exact HO_5.out)); (case aS => exact (below_size (by repeat (first | (with_reducible first | exact HB.out | apply below_alloc | apply pw_below_drewN | apply below_drew1) | exact HB.out)))); (case aL => have := LMc10.out; omega); intro v396 w11 ho hb hg hat; rw [← Ny395.out] at ho; have n0_ := Aside0.mk (hb); have n1_ := Aside0.mk (ho); clear HB; clear HO_5; have HB := n0_; have HO397 := n1_; clear n0_ n1_; clear ho hb hg hat))
                    go_roundg kj2
                    case measure => have := HK1.out; have := HJ2.out; omega
                    case rel => exact ⟨(y395), (wrap64 (Int.tdiv (wrap64 ((wrap64 (x6_1 + (rd l0 x7_1))) + (rd l1 x7_1))) 10)), (wrap64 (x7_1 + 1)), (by first | rfl | (simp; done) | (simp [*]; done)), (by first | rfl | (simp; done) | (simp [*]; done)), H', ⟨by have := HK1.out; have := HJ2.out; omega⟩, ⟨by (with_reducible repeat (first | apply Kd.R_alloc | apply Kd.R_drewN | apply Kd.R_drew)); exact HO397.out⟩, ⟨by repeat (first | (with_reducible first | exact HB.out | apply below_alloc | apply pw_below_drewN | apply below_drew1) | exact HB.out)⟩⟩
                  · rw [if_neg c10] at H
                    exact absurd H (by simp)
                · rw [if_neg c9] at H
                  have c9b0 : decide (x7_1 < (l1.length : Int)) = false := decide_eq_false c9
                  clear c9
                  by_cases c12 : x5_1.length < 17592186044416
                  · rw [if_pos c12] at H
                    have LMc12 := Aside0.mk c12
                    clear c12
                    obtain ⟨y398, hy398⟩ : ∃ y_ : List Int, y_ = (x5_1 ++ [Int.tmod (wrap64 (x6_1 + (rd l0 x7_1))) 10]) := ⟨_, rfl⟩
                    replace H : (dowelref01_plus.l0 kj2 l0 l1 y398 (wrap64 (Int.tdiv (wrap64 (x6_1 + (rd l0 x7_1))) 10)) (wrap64 (x7_1 + 1))) = some r := by first | (rw [hy398]; with_reducible exact H) | (have H2_ := (Option.bind_some _ _).symm.trans H; rw [hy398]; with_reducible exact H2_) | (have H2_ := (Option.bind_some _ _).symm.trans H; with_reducible exact H2_) | with_reducible exact H | (rw [hy398]; exact H) | exact H
                    have Ny398 := Aside0.mk hy398
                    clear hy398
                    have H' := Aside0.mk H
                    clear H
                    have p393 : 0 ≤ (x7_1 : Int) := of_decide_eq_true (by first | (with_reducible assumption) | assumption)
                    have q393 : x7_1 < (l0.length : Int) := of_decide_eq_true (by first | (with_reducible assumption) | assumption)
                    obtain ⟨ad393, e393, hx393_0⟩ := Kd.at_int HR0.out x7_1 p393 q393
                    cases e393
                    replace hx393_0 := (HB.out.cell (World.block_lt_of_cell? w _ hx393_0)).trans hx393_0
                    replace p393 := eq_true p393
                    replace q393 := eq_true q393
                    go_wp2_with (first | ((with_reducible refine gate_builtin (b := .append) (xs := #[.tmp 46, .tmp 49]) rfl ?_); (try (refine gate_guard (by rfl) ?_; dsimp only)); at_builtin; refine Kd.R_append (Kd.int .i64) (w0 := w) w.heap.size rfl (.tmp 46) (.tmp 49) 165 3 (.int .i64 0) 8 rfl Tryz.underlying165 info3 rfl (by decide) (by omega) u5 x5_1 (Int.tmod (wrap64 (x6_1 + (rd l0 x7_1))) 10) [.int .i64 (Int.tmod (wrap64 (x6_1 + (rd l0 x7_1))) 10)] (fun _ => True) (fun _ => False) rfl rfl ?aP (fun _ hk => hk.elim) ?aF ?aO ?aB ?aS ?aL ?_; (case aP => exact rfl); (case aB => exact (by repeat (first | (with_reducible first | exact HB.out | apply below_alloc | apply pw_below_drewN | apply below_drew1) | exact HB.out))); (case aF => exact (fun _ _ => trivial)); (case aO => exact (by (with_reducible repeat (first | apply Kd.R_alloc | apply Kd.R_drewN | apply Kd.R_drew)); exact HO_5.out)); (case aS => exact (below_size (by repeat (first | (with_reducible first | exact HB.out | apply below_alloc | apply pw_below_drewN | apply below_drew1) | exact HB.out)))); (case aL => have := LMc12.out; omega); intro v399 w13 ho hb hg hat; rw [← Ny398.out] at ho; have n0_ := Aside0.mk (hb); have n1_ := Aside0.mk (ho); clear HB; clear HO_5; have HB := n0_; have HO400 := n1_; clear n0_ n1_; clear ho hb hg hat))
                    go_roundg kj2
                    case measure => have := HK1.out; have := HJ2.out; omega
                    case rel => exact ⟨(y398), (wrap64 (Int.tdiv (wrap64 (x6_1 + (rd l0 x7_1))) 10)), (wrap64 (x7_1 + 1)), (by first | rfl | (simp; done) | (simp [*]; done)), (by first | rfl | (simp; done) | (simp [*]; done)), H', ⟨by have := HK1.out; have := HJ2.out; omega⟩, ⟨by (with_reducible repeat (first | apply Kd.R_alloc | apply Kd.R_drewN | apply Kd.R_drew)); exact HO400.out⟩, ⟨by repeat (first | (with_reducible first | exact HB.out | apply below_alloc | apply pw_below_drewN | apply below_drew1) | exact HB.out)⟩⟩
                  · rw [if_neg c12] at H
                    exact absurd H (by simp)
              · rw [if_neg c8] at H
                exact absurd H (by simp)
            · rw [if_neg c7] at H
              have c7b0 : decide (x7_1 < (l0.length : Int)) = false := decide_eq_false c7
              clear c7
              by_cases c14 : x7_1 < (l1.length : Int)
              · rw [if_pos c14] at H
                have c14b0 : decide (x7_1 < (l1.length : Int)) = true := decide_eq_true c14
                clear c14
                by_cases c15 : 0 ≤ x7_1
                · rw [if_pos c15] at H
                  have c15b0 : decide (0 ≤ x7_1) = true := decide_eq_true c15
                  clear c15
                  by_cases c16 : x5_1.length < 17592186044416
                  · rw [if_pos c16] at H
                    have LMc16 := Aside0.mk c16
                    clear c16
                    obtain ⟨y402, hy402⟩ : ∃ y_ : List Int, y_ = (x5_1 ++ [Int.tmod (wrap64 (x6_1 + (rd l1 x7_1))) 10]) := ⟨_, rfl⟩
                    replace H : (dowelref01_plus.l0 kj2 l0 l1 y402 (wrap64 (Int.tdiv (wrap64 (x6_1 + (rd l1 x7_1))) 10)) (wrap64 (x7_1 + 1))) = some r := by first | (rw [hy402]; with_reducible exact H) | (have H2_ := (Option.bind_some _ _).symm.trans H; rw [hy402]; with_reducible exact H2_) | (have H2_ := (Option.bind_some _ _).symm.trans H; with_reducible exact H2_) | with_reducible exact H | (rw [hy402]; exact H) | exact H
                    have Ny402 := Aside0.mk hy402
                    clear hy402
                    have H' := Aside0.mk H
                    clear H
                    have p401 : 0 ≤ (x7_1 : Int) := of_decide_eq_true (by first | (with_reducible assumption) | assumption)
                    have q401 : x7_1 < (l1.length : Int) := of_decide_eq_true (by first | (with_reducible assumption) | assumption)
                    obtain ⟨ad401, e401, hx401_0⟩ := Kd.at_int HR1.out x7_1 p401 q401
                    cases e401
                    replace hx401_0 := (HB.out.cell (World.block_lt_of_cell? w _ hx401_0)).trans hx401_0
                    replace p401 := eq_true p401
                    replace q401 := eq_true q401
                    go_wp2_with (first | ((with_reducible refine gate_builtin (b := .append) (xs := #[.tmp 46, .tmp 49]) rfl ?_); (try (refine gate_guard (by rfl) ?_; dsimp only)); at_builtin; refine Kd.R_append (Kd.int .i64) (w0 := w) w.heap.size rfl (.tmp 46) (.tmp 49) 165 3 (.int .i64 0) 8 rfl Tryz.underlying165 info3 rfl (by decide) (by omega) u5 x5_1 (Int.tmod (wrap64 (x6_1 + (rd l1 x7_1))) 10) [.int .i64 (Int.tmod (wrap64 (x6_1 + (rd l1 x7_1))) 10)] (fun _ => True) (fun _ => False) rfl rfl ?aP (fun _ hk => hk.elim) ?aF ?aO ?aB ?aS ?aL ?_; (case aP => exact rfl); (case aB => exact (by repeat (first | (with_reducible first | exact HB.out | apply below_alloc | apply pw_below_drewN | apply below_drew1) | exact HB.out))); (case aF => exact (fun _ _ => trivial)); (case aO => exact (by (with_reducible repeat (first | apply Kd.R_alloc | apply Kd.R_drewN | apply Kd.R_drew)); exact HO_5.out)); (case aS => exact (below_size (by repeat (first | (with_reducible first | exact HB.out | apply below_alloc | apply pw_below_drewN | apply below_drew1) | exact HB.out)))); (case aL => have := LMc16.out; omega); intro v403 w17 ho hb hg hat; rw [← Ny402.out] at ho; have n0_ := Aside0.mk (hb); have n1_ := Aside0.mk (ho); clear HB; clear HO_5; have HB := n0_; have HO404 := n1_; clear n0_ n1_; clear ho hb hg hat))
                    go_roundg kj2
                    case measure => have := HK1.out; have := HJ2.out; omega
                    case rel => exact ⟨(y402), (wrap64 (Int.tdiv (wrap64 (x6_1 + (rd l1 x7_1))) 10)), (wrap64 (x7_1 + 1)), (by first | rfl | (simp; done) | (simp [*]; done)), (by first | rfl | (simp; done) | (simp [*]; done)), H', ⟨by have := HK1.out; have := HJ2.out; omega⟩, ⟨by (with_reducible repeat (first | apply Kd.R_alloc | apply Kd.R_drewN | apply Kd.R_drew)); exact HO404.out⟩, ⟨by repeat (first | (with_reducible first | exact HB.out | apply below_alloc | apply pw_below_drewN | apply below_drew1) | exact HB.out)⟩⟩
                  · rw [if_neg c16] at H
                    exact absurd H (by simp)
                · rw [if_neg c15] at H
                  exact absurd H (by simp)
              · rw [if_neg c14] at H
                have c14b0 : decide (x7_1 < (l1.length : Int)) = false := decide_eq_false c14
                clear c14
                by_cases c18 : x5_1.length < 17592186044416
                · rw [if_pos c18] at H
                  have LMc18 := Aside0.mk c18
                  clear c18
                  obtain ⟨y405, hy405⟩ : ∃ y_ : List Int, y_ = (x5_1 ++ [Int.tmod x6_1 10]) := ⟨_, rfl⟩
                  replace H : (dowelref01_plus.l0 kj2 l0 l1 y405 (wrap64 (Int.tdiv x6_1 10)) (wrap64 (x7_1 + 1))) = some r := by first | (rw [hy405]; with_reducible exact H) | (have H2_ := (Option.bind_some _ _).symm.trans H; rw [hy405]; with_reducible exact H2_) | (have H2_ := (Option.bind_some _ _).symm.trans H; with_reducible exact H2_) | with_reducible exact H | (rw [hy405]; exact H) | exact H
                  have Ny405 := Aside0.mk hy405
                  clear hy405
                  have H' := Aside0.mk H
                  clear H
                  go_wp2_with (first | ((with_reducible refine gate_builtin (b := .append) (xs := #[.tmp 46, .tmp 49]) rfl ?_); (try (refine gate_guard (by rfl) ?_; dsimp only)); at_builtin; refine Kd.R_append (Kd.int .i64) (w0 := w) w.heap.size rfl (.tmp 46) (.tmp 49) 165 3 (.int .i64 0) 8 rfl Tryz.underlying165 info3 rfl (by decide) (by omega) u5 x5_1 (Int.tmod x6_1 10) [.int .i64 (Int.tmod x6_1 10)] (fun _ => True) (fun _ => False) rfl rfl ?aP (fun _ hk => hk.elim) ?aF ?aO ?aB ?aS ?aL ?_; (case aP => exact rfl); (case aB => exact (by repeat (first | (with_reducible first | exact HB.out | apply below_alloc | apply pw_below_drewN | apply below_drew1) | exact HB.out))); (case aF => exact (fun _ _ => trivial)); (case aO => exact (by (with_reducible repeat (first | apply Kd.R_alloc | apply Kd.R_drewN | apply Kd.R_drew)); exact HO_5.out)); (case aS => exact (below_size (by repeat (first | (with_reducible first | exact HB.out | apply below_alloc | apply pw_below_drewN | apply below_drew1) | exact HB.out)))); (case aL => have := LMc18.out; omega); intro v406 w19 ho hb hg hat; rw [← Ny405.out] at ho; have n0_ := Aside0.mk (hb); have n1_ := Aside0.mk (ho); clear HB; clear HO_5; have HB := n0_; have HO407 := n1_; clear n0_ n1_; clear ho hb hg hat))
                  go_roundg kj2
                  case measure => have := HK1.out; have := HJ2.out; omega
                  case rel => exact ⟨(y405), (wrap64 (Int.tdiv x6_1 10)), (wrap64 (x7_1 + 1)), (by first | rfl | (simp; done) | (simp [*]; done)), (by first | rfl | (simp; done) | (simp [*]; done)), H', ⟨by have := HK1.out; have := HJ2.out; omega⟩, ⟨by (with_reducible repeat (first | apply Kd.R_alloc | apply Kd.R_drewN | apply Kd.R_drew)); exact HO407.out⟩, ⟨by repeat (first | (with_reducible first | exact HB.out | apply below_alloc | apply pw_below_drewN | apply below_drew1) | exact HB.out)⟩⟩
                · rw [if_neg c18] at H
                  exact absurd H (by simp)
          · replace c6 := Bool.eq_false_iff.mpr c6
            subst c6
            have H1 : (some x5_1) = some r := by rw [if_neg (show ¬ (false = true) by decide)] at H; exact H
            clear H
            have H := H1
            clear H1
            obtain rfl := Option.some.inj H
            go_wp2
            go_ret
            exact ⟨_, by first | rfl | (simp [errW_none, errW_some] <;> rfl) | (simp [*, errW_none, errW_some] <;> rfl), by (with_reducible repeat (first | apply Kd.R_alloc | apply Kd.R_drewN | apply Kd.R_drew)); exact HO_5.out, by repeat (first | (with_reducible first | exact HB.out | apply below_alloc | apply pw_below_drewN | apply below_drew1) | exact HB.out)⟩

def dowelref01_Sign.f (a0 : ByteArray) : Option (Int) := if a0.toList = ([48] : List UInt8) then (some 0) else (if 0 < (a0.size : Int) then (if (bt a0 0) = 45 then (some (-1)) else (some 1)) else (none))
set_option maxHeartbeats 8000000 in
set_option maxRecDepth 100000 in
theorem dowelref01_Sign.calls (a0 : ByteArray) (r : Int) (w : World) (h : dowelref01_Sign.f a0 = some r) :
    Calls Tryz.prog 126 #[.string a0] w fun e w' => e = .returned (.int .i64 r) ∧ Drawn0 w w' := by
  have H : (if a0.toList = ([48] : List UInt8) then (some 0) else (if 0 < (a0.size : Int) then (if (bt a0 0) = 45 then (some (-1)) else (some 1)) else (none))) = some r := h
  clear h
  by_cases c2 : a0.toList = ([48] : List UInt8)
  · rw [if_pos c2] at H
    have c2b0 : (a0.toList == ([48] : List UInt8)) = true := beq_iff_eq.mpr c2
    have c2b1 : (a0.toList != ([48] : List UInt8)) = false := bne_eq_false_iff_eq.mpr c2
    clear c2
    obtain rfl := Option.some.inj H
    go_enter Tryz.func126, Tryz.ntmps126
    go_wp2
    go_ret
    exact ⟨by first | rfl | (simp; done) | (simp [*]; done), by repeat (first | exact Drawn0.refl _ | apply Drawn0.step)⟩
  · rw [if_neg c2] at H
    have c2b0 : (a0.toList == ([48] : List UInt8)) = false := beq_eq_false_iff_ne.mpr c2
    have c2b1 : (a0.toList != ([48] : List UInt8)) = true := bne_iff_ne.mpr c2
    by_cases c3 : 0 < (a0.size : Int)
    · rw [if_pos c3] at H
      have c3b0 : decide (0 < (a0.size : Int)) = true := decide_eq_true c3
      have c3b1 : decide (0 < a0.size) = true := decide_eq_true (by omega)
      clear c3
      by_cases c5 : (bt a0 0) = 45
      · rw [if_pos c5] at H
        have c5b0 : ((bt a0 0) == 45) = true := beq_iff_eq.mpr c5
        have c5b1 : ((bt a0 0) != 45) = false := bne_eq_false_iff_eq.mpr c5
        clear c5
        obtain rfl := Option.some.inj H
        have p4 : 0 ≤ (0 : Int) := (by omega)
        have q4 : 0 < a0.size := (by have : (0 : Int) < (a0.size : Int) := of_decide_eq_true (by first | (with_reducible assumption) | assumption); omega)
        have hx4 : ∀ h : 0 < a0.size, ((a0[0]'h).toNat : Int) = bt a0 0 := bt_at a0 0
        clear p4
        have qi4 : (0 < (a0.size : Int)) = True := eq_true (of_decide_eq_true (by first | (with_reducible assumption) | assumption))
        replace q4 := eq_true q4
        go_enter Tryz.func126, Tryz.ntmps126
        go_wp2
        go_ret
        exact ⟨by first | rfl | (simp; done) | (simp [*]; done), by repeat (first | exact Drawn0.refl _ | apply Drawn0.step)⟩
      · rw [if_neg c5] at H
        have c5b0 : ((bt a0 0) == 45) = false := beq_eq_false_iff_ne.mpr c5
        have c5b1 : ((bt a0 0) != 45) = true := bne_iff_ne.mpr c5
        obtain rfl := Option.some.inj H
        have p4 : 0 ≤ (0 : Int) := (by omega)
        have q4 : 0 < a0.size := (by have : (0 : Int) < (a0.size : Int) := of_decide_eq_true (by first | (with_reducible assumption) | assumption); omega)
        have hx4 : ∀ h : 0 < a0.size, ((a0[0]'h).toNat : Int) = bt a0 0 := bt_at a0 0
        clear p4
        have qi4 : (0 < (a0.size : Int)) = True := eq_true (of_decide_eq_true (by first | (with_reducible assumption) | assumption))
        replace q4 := eq_true q4
        go_enter Tryz.func126, Tryz.ntmps126
        go_wp2
        go_ret
        exact ⟨by first | rfl | (simp; done) | (simp [*]; done), by repeat (first | exact Drawn0.refl _ | apply Drawn0.step)⟩
    · rw [if_neg c3] at H
      exact absurd H (by simp)

end Go.Proofs.YtapckjeedekphaaGreatDoor.PR

namespace Go.Proofs.YtapckjeedekphaaGreatDoor
open Go.RowKit Go.Proofs.YtapckjeedekphaaGreatDoorW.PrintWords PR
/-- The order of two numbers as -1, 0, 1. -/
def cmp (x y : Int) : Int := if x < y then -1 else if x = y then 0 else 1
theorem cmp_lt {x y : Int} (h : x < y) : cmp x y = -1 := by unfold cmp; rw [if_pos h]
theorem cmp_gt {x y : Int} (h : y < x) : cmp x y = 1 := by unfold cmp; rw [if_neg (by omega), if_neg (by omega)]
theorem cmp_eq (x : Int) : cmp x x = 0 := by unfold cmp; simp
theorem w64 {x : Int} (h : -9223372036854775808 ≤ x) (h' : x ≤ 9223372036854775807) : wrap64 x = x := by unfold wrap64; omega
theorem rd_nat (xs : List Int) (n : Nat) (h : n < xs.length) : rd xs (n : Int) = xs[n] := by
  unfold rd; simp [List.getD_eq_getElem?_getD, List.getElem?_eq_getElem h]
theorem drop_rd (xs : List Int) (n : Nat) (h : n < xs.length) : xs.drop n = rd xs (n : Int) :: xs.drop (n + 1) := by
  rw [rd_nat xs n h]; exact List.drop_eq_getElem_cons h
theorem take_rd (xs : List Int) (n : Nat) (h : n < xs.length) : xs.take (n + 1) = xs.take n ++ [rd xs (n : Int)] := by
  rw [rd_nat xs n h, List.take_succ_eq_append_getElem h]
theorem Dg_rd {B : Int} {xs : List Int} (hd : Dg B xs) (n : Nat) (h : n < xs.length) : 0 ≤ rd xs (n : Int) ∧ rd xs (n : Int) < B := by
  rw [rd_nat xs n h]; exact hd _ (List.getElem_mem h)
theorem Dg_take {B : Int} {xs : List Int} (hd : Dg B xs) (n : Nat) : Dg B (xs.take n) := fun x hx => hd x (List.mem_of_mem_take hx)
theorem Dg_drop {B : Int} {xs : List Int} (hd : Dg B xs) (n : Nat) : Dg B (xs.drop n) := fun x hx => hd x (List.mem_of_mem_drop hx)
/-- Two lists of digits that agree from place n + 1 on, and not at place n. -/
theorem V_place_lt {B : Int} (hB : 0 < B) {a b : List Int} (ha : Dg B a) (hb : Dg B b) (n : Nat) (h1 : n < a.length) (h2 : n < b.length) (he : a.drop (n + 1) = b.drop (n + 1)) (h : rd a (n : Int) < rd b (n : Int)) : V B a < V B b := by
  have e1 : a = a.take n ++ rd a n :: a.drop (n + 1) := by rw [← drop_rd a n h1, List.take_append_drop]
  have e2 : b = b.take n ++ rd b n :: a.drop (n + 1) := by rw [he, ← drop_rd b n h2, List.take_append_drop]
  rw [e1, e2]
  refine V_top_lt hB ?_ ?_ ?_ h
  · exact Dg_take ha n
  · exact Dg_take hb n
  · simp; omega

theorem order10_loop (a b : List Int) (ha : Dg 10 a) (hb : Dg 10 b) (hl : a.length = b.length) (hm : a.length ≤ 9223372036854775807) (n : Nat) :
    ∀ k, n < k → n ≤ a.length → a.drop n = b.drop n → dowelref01_order.l0 k a b ((n : Int) - 1) = some (cmp (V 10 a) (V 10 b)) := by
  induction n with
  | zero =>
    intro k hk _ he
    obtain ⟨k, rfl⟩ : ∃ m, k = m + 1 := ⟨k - 1, by omega⟩
    simp only [List.drop_zero] at he
    subst he
    simp only [dowelref01_order.l0]
    rw [if_neg (by omega), cmp_eq]
  | succ n ih =>
    intro k hk hn he
    obtain ⟨k, rfl⟩ : ∃ m, k = m + 1 := ⟨k - 1, by omega⟩
    have h1 : n < a.length := by omega
    have h2 : n < b.length := by omega
    have hp := fun h => V_place_lt (B := 10) (by omega) ha hb n h1 h2 he h
    have hq := fun h => V_place_lt (B := 10) (by omega) hb ha n h2 h1 he.symm h
    have e1 : ((n + 1 : Nat) : Int) - 1 = n := by omega
    rw [e1]
    simp only [dowelref01_order.l0]
    rw [if_pos (by omega), if_pos (by omega), if_pos (by omega), if_pos (by omega)]
    by_cases c1 : rd a n < rd b n
    · rw [if_pos c1, cmp_lt (hp c1)]
    · rw [if_neg c1]
      by_cases c2 : rd a n > rd b n
      · rw [if_pos c2, cmp_gt (hq c2)]
      · rw [if_neg c2, w64 (by omega) (by omega)]
        refine ih k (by omega) (by omega) ?_
        rw [drop_rd a n h1, drop_rd b n h2, he, show rd a n = rd b n by omega]
theorem order10 (a b : List Int) (ha : Dg 10 a) (hb : Dg 10 b) (ta : Tr a) (tb : Tr b) (hm : a.length ≤ 9223372036854775806) (k : Nat) (hk : a.length < k) :
    dowelref01_order.f k a b = some (cmp (V 10 a) (V 10 b)) := by
  unfold dowelref01_order.f
  by_cases h : (a.length : Int) = b.length
  · rw [if_pos h, w64 (by omega) (by omega)]
    exact order10_loop a b ha hb (by omega) (by omega) a.length k hk (Nat.le_refl _) (by rw [List.drop_length, List.drop_eq_nil_of_le (by omega)])
  · rw [if_neg h]
    by_cases h2 : (a.length : Int) < b.length
    · rw [if_pos h2, cmp_lt (V_len_lt (by omega) ha hb tb (by omega))]
    · rw [if_neg h2, cmp_gt (V_len_lt (by omega) hb ha ta (by omega))]
theorem order32_loop (a b : List Int) (ha : Dg 4294967296 a) (hb : Dg 4294967296 b) (hl : a.length = b.length) (hm : a.length ≤ 9223372036854775807) (n : Nat) :
    ∀ k, n < k → n ≤ a.length → a.drop n = b.drop n → integer_order.l0 k a b ((n : Int) - 1) = some (cmp (V 4294967296 a) (V 4294967296 b)) := by
  induction n with
  | zero =>
    intro k hk _ he
    obtain ⟨k, rfl⟩ : ∃ m, k = m + 1 := ⟨k - 1, by omega⟩
    simp only [List.drop_zero] at he
    subst he
    simp only [integer_order.l0]
    rw [if_neg (by omega), cmp_eq]
  | succ n ih =>
    intro k hk hn he
    obtain ⟨k, rfl⟩ : ∃ m, k = m + 1 := ⟨k - 1, by omega⟩
    have h1 : n < a.length := by omega
    have h2 : n < b.length := by omega
    have hp := fun h => V_place_lt (B := 4294967296) (by omega) ha hb n h1 h2 he h
    have hq := fun h => V_place_lt (B := 4294967296) (by omega) hb ha n h2 h1 he.symm h
    have e1 : ((n + 1 : Nat) : Int) - 1 = n := by omega
    rw [e1]
    simp only [integer_order.l0]
    rw [if_pos (by omega), if_pos (by omega), if_pos (by omega), if_pos (by omega)]
    by_cases c1 : rd a n = rd b n
    · rw [if_pos c1, w64 (by omega) (by omega)]
      refine ih k (by omega) (by omega) ?_
      rw [drop_rd a n h1, drop_rd b n h2, he, c1]
    · rw [if_neg c1]
      by_cases c2 : rd a n < rd b n
      · rw [if_pos c2, cmp_lt (hp c2)]
      · rw [if_neg c2, cmp_gt (hq (by omega))]
theorem order32 (a b : List Int) (ha : Dg 4294967296 a) (hb : Dg 4294967296 b) (ta : Tr a) (tb : Tr b) (hm : a.length ≤ 9223372036854775806) (k : Nat) (hk : a.length < k) :
    integer_order.f k a b = some (cmp (V 4294967296 a) (V 4294967296 b)) := by
  unfold integer_order.f
  by_cases h : (a.length : Int) = b.length
  · rw [if_pos h, w64 (by omega) (by omega)]
    exact order32_loop a b ha hb (by omega) (by omega) a.length k hk (Nat.le_refl _) (by rw [List.drop_length, List.drop_eq_nil_of_le (by omega)])
  · rw [if_neg h]
    by_cases h2 : (a.length : Int) < b.length
    · rw [if_pos h2, cmp_lt (V_len_lt (by omega) ha hb tb (by omega))]
    · rw [if_neg h2, cmp_gt (V_len_lt (by omega) hb ha ta (by omega))]
end Go.Proofs.YtapckjeedekphaaGreatDoor

namespace Go.Proofs.YtapckjeedekphaaGreatDoor
open Go.RowKit Go.Proofs.YtapckjeedekphaaGreatDoorW.PrintWords PR
def trD (l : List Int) : List Int := (l.reverse.dropWhile (· == 0)).reverse
theorem trD_snoc_zero (l : List Int) : trD (l ++ [0]) = trD l := by simp [trD]
theorem trD_snoc (l : List Int) (x : Int) (h : x ≠ 0) : trD (l ++ [x]) = l ++ [x] := by simp [trD, h]
theorem snoc_cases (l : List Int) : l = [] ∨ ∃ m x, l = m ++ [x] := by
  rcases List.eq_nil_or_concat l with h | ⟨m, x, h⟩
  · exact .inl h
  · exact .inr ⟨m, x, by simpa using h⟩
theorem trD_all (B : Int) (l : List Int) : Tr (trD l) ∧ V B (trD l) = V B l ∧ (trD l).length ≤ l.length ∧ (Dg B l → Dg B (trD l)) ∧ (Tr l → trD l = l) ∧ trD l = l.take (trD l).length := by
  generalize hn : l.length = n
  induction n generalizing l with
  | zero =>
    obtain rfl := List.eq_nil_of_length_eq_zero hn
    exact ⟨.inl rfl, rfl, by simp [trD], fun h => h, fun _ => rfl, rfl⟩
  | succ n ih =>
    rcases snoc_cases l with rfl | ⟨m, x, rfl⟩
    · simp at hn
    · have hm : m.length = n := by simpa using hn
      by_cases hx : x = 0
      · subst hx
        obtain ⟨h1, h2, h3, h4, h5, h6⟩ := ih m hm
        rw [trD_snoc_zero, V_snoc_zero]
        refine ⟨h1, h2, by simpa using Nat.le_succ_of_le h3, fun h => h4 (Dg_append.1 h).1, ?_, ?_⟩
        · rintro (h | ⟨p, y, h, hy⟩)
          · simp at h
          · have := List.append_inj_right' h rfl
            simp at this
            exact absurd this.symm hy
        · rw [List.take_append_of_le_length (by omega)]
          exact h6
      · rw [trD_snoc m x hx]
        exact ⟨.inr ⟨m, x, rfl, hx⟩, rfl, Nat.le_of_eq hn, fun h => h, fun _ => rfl, by rw [List.take_length]⟩
theorem trD_Tr (l : List Int) : Tr (trD l) := (trD_all 10 l).1
theorem trD_V (B : Int) (l : List Int) : V B (trD l) = V B l := (trD_all B l).2.1
theorem trD_len (l : List Int) : (trD l).length ≤ l.length := (trD_all 10 l).2.2.1
theorem trD_Dg {B : Int} {l : List Int} (h : Dg B l) : Dg B (trD l) := (trD_all B l).2.2.2.1 h
theorem trD_id {l : List Int} (h : Tr l) : trD l = l := (trD_all 10 l).2.2.2.2.1 h
theorem trD_take (l : List Int) : trD l = l.take (trD l).length := (trD_all 10 l).2.2.2.2.2
theorem trim10_loop (l : List Int) (hm : l.length ≤ 9223372036854775807) (n : Nat) : ∀ k, n < k → n ≤ l.length → dowelref01_trim.l0 k l (n : Int) = some (trD (l.take n)) := by
  induction n with
  | zero =>
    intro k hk _
    obtain ⟨k, rfl⟩ : ∃ m, k = m + 1 := ⟨k - 1, by omega⟩
    simp only [dowelref01_trim.l0]
    rw [if_neg (by omega), if_pos (by omega), if_pos (by omega)]
    simp [trD]
  | succ n ih =>
    intro k hk hn
    obtain ⟨k, rfl⟩ : ∃ m, k = m + 1 := ⟨k - 1, by omega⟩
    have e1 : wrap64 (((n + 1 : Nat) : Int) - 1) = n := by rw [w64 (by omega) (by omega)]; omega
    simp only [dowelref01_trim.l0]
    rw [e1, if_pos (by omega), if_pos (by omega), if_pos (by omega), take_rd l n (by omega)]
    by_cases c : rd l n = 0
    · rw [if_pos c, c, trD_snoc_zero]
      exact ih k (by omega) (by omega)
    · rw [if_neg c, if_pos (by omega), if_pos (by omega), trD_snoc _ _ c, ← take_rd l n (by omega)]
      rfl
theorem trim10 (l : List Int) (hm : l.length ≤ 9223372036854775807) (k : Nat) (hk : l.length < k) : dowelref01_trim.f k l = some (trD l) := by
  unfold dowelref01_trim.f
  rw [trim10_loop l hm l.length k hk (Nat.le_refl _), List.take_length]

def S (l : List UInt8) : ByteArray := ⟨l.toArray⟩
theorem S_size (l : List UInt8) : (S l).size = l.length := by simp [S, ByteArray.size]
theorem bt_S (l : List UInt8) (n : Nat) (h : n < l.length) : bt (S l) (n : Int) = (l[n].toNat : Int) := by
  unfold bt
  have hs : (n : Int).toNat < (S l).size := by rw [S_size]; omega
  rw [dif_pos hs]
  simp [S, ByteArray.getElem_eq_getElem_data]

def dl (bs : List UInt8) : List Int := (bs.reverse.filter (· != 45)).map fun b => (b.toNat : Int) - 48
theorem dl_minus (l : List UInt8) : dl (l ++ [45]) = dl l := by simp [dl]
theorem dl_snoc (l : List UInt8) (b : UInt8) (h : b ≠ 45) : dl (l ++ [b]) = ((b.toNat : Int) - 48) :: dl l := by
  unfold dl
  rw [List.reverse_append, List.reverse_singleton, List.singleton_append, List.filter_cons, if_pos (by simpa using h), List.map_cons]
theorem digits10_loop (bs : List UInt8) (hm : bs.length ≤ 1000000) (n : Nat) :
    ∀ k acc, bs.length + acc.length + 2 * n + 1 < k → n ≤ bs.length → acc.length + n ≤ 1000000 → dowelref01_digits.l0 k (S bs) acc ((n : Int) - 1) = some (trD (acc ++ dl (bs.take n))) := by
  induction n with
  | zero =>
    intro k acc hk _ ha
    obtain ⟨k, rfl⟩ : ∃ m, k = m + 1 := ⟨k - 1, by omega⟩
    simp only [dowelref01_digits.l0]
    rw [if_neg (by omega), trim10 acc (by omega) k (by omega)]
    simp [dl]
  | succ n ih =>
    intro k acc hk hn ha
    obtain ⟨k, rfl⟩ : ∃ m, k = m + 1 := ⟨k - 1, by omega⟩
    have e1 : ((n + 1 : Nat) : Int) - 1 = n := by omega
    have hb := bs[n].toNat_lt
    rw [e1]
    simp only [dowelref01_digits.l0]
    rw [S_size, if_pos (by omega), if_pos (by omega), if_pos (by omega), bt_S bs n (by omega), w64 (x := (n : Int) - 1) (by omega) (by omega)]
    by_cases c : bs[n] = 45
    · rw [if_pos (by rw [c]; rfl), ih k acc (by omega) (by omega) (by omega)]
      rw [List.take_succ_eq_append_getElem (show n < bs.length by omega), c, dl_minus]
    · have c' : ¬ ((bs[n].toNat : Int) = 45) := fun e => c (by apply UInt8.toNat_inj.1; simpa using (by omega : bs[n].toNat = 45))
      rw [if_neg c', if_pos (by omega), w64 (x := (bs[n].toNat : Int)) (by omega) (by omega), w64 (by omega) (by omega), ih k _ (by simp; omega) (by omega) (by simp; omega)]
      rw [List.take_succ_eq_append_getElem (show n < bs.length by omega), dl_snoc _ _ c, List.append_assoc]
      rfl
theorem digits10 (bs : List UInt8) (hm : bs.length ≤ 500000) (k : Nat) (hk : 3 * bs.length + 1 < k) : dowelref01_digits.f k (S bs) = some (trD (dl bs)) := by
  unfold dowelref01_digits.f
  rw [S_size, w64 (by omega) (by omega), digits10_loop bs (by omega) bs.length k [] (by simp; omega) (Nat.le_refl _) (by simp; omega), List.take_length]
  simp

def txd (d : List Int) : List UInt8 := d.reverse.map fun x => UInt8.ofNat (48 + x.toNat)
def txs (neg : Bool) (d : List Int) : List UInt8 := if d = [] then [48] else (if neg then [45] else []) ++ txd d
theorem strOfNums_S (xs : List Int) : strOfNums xs = S (xs.map fun x => UInt8.ofNat x.toNat) := rfl
theorem text10_loop (d : List Int) (hd : Dg 10 d) (hm : d.length ≤ 1000000) (n : Nat) :
    ∀ k acc, n < k → n ≤ d.length → acc.length + n ≤ 2000000 → dowelref01_text.l0 k d acc ((n : Int) - 1) = some (S ((acc.map fun x => UInt8.ofNat x.toNat) ++ txd (d.take n))) := by
  induction n with
  | zero =>
    intro k acc hk _ ha
    obtain ⟨k, rfl⟩ : ∃ m, k = m + 1 := ⟨k - 1, by omega⟩
    simp only [dowelref01_text.l0]
    rw [if_neg (by omega), strOfNums_S]
    simp [txd]
  | succ n ih =>
    intro k acc hk hn ha
    obtain ⟨k, rfl⟩ : ∃ m, k = m + 1 := ⟨k - 1, by omega⟩
    have e1 : ((n + 1 : Nat) : Int) - 1 = n := by omega
    have hr := Dg_rd hd n (by omega)
    rw [e1]
    simp only [dowelref01_text.l0]
    rw [if_pos (by omega), if_pos (by omega), if_pos (by omega), if_pos (by omega), w64 (x := (n : Int) - 1) (by omega) (by omega), w64 (by omega) (by omega), ih k _ (by omega) (by omega) (by simp; omega)]
    congr 2
    rw [take_rd d n (by omega)]
    have e2 : ((48 + rd d n) % 256).toNat = 48 + (rd d n).toNat := by omega
    simp [txd, e2]
theorem text10 (neg : Bool) (d : List Int) (hd : Dg 10 d) (hm : d.length ≤ 1000000) (k : Nat) (hk : d.length + 2 < k) : dowelref01_text.f k neg d = some (S (txs neg (trD d))) := by
  have ht := trD_Dg hd
  have hl := trD_len d
  unfold dowelref01_text.f
  rw [trim10 d (by omega) k (by omega)]
  simp only [Option.bind_some]
  generalize trD d = e at *
  unfold txs
  by_cases c : e = []
  · subst c; simp; rfl
  · have c' : ¬ ((e.length : Int) = 0) := fun h => c (List.eq_nil_of_length_eq_zero (by omega))
    rw [if_neg c', if_neg c]
    have hj : ∀ acc : List Int, acc.length ≤ 1 → dowelref01_text.j0 k e acc = some (S ((acc.map fun x => UInt8.ofNat x.toNat) ++ txd e)) := by
      intro acc ha
      obtain ⟨k, rfl⟩ : ∃ m, k = m + 1 := ⟨k - 1, by omega⟩
      simp only [dowelref01_text.j0]
      rw [w64 (by omega) (by omega), text10_loop e ht (by omega) e.length k acc (by omega) (Nat.le_refl _) (by omega), List.take_length]
    cases neg with
    | true => simp only [if_true]; rw [if_pos (by simp), hj _ (by simp)]; rfl
    | false => simp only [if_neg (show ¬ (false = true) by decide)]; rw [hj _ (by simp)]; rfl
end Go.Proofs.YtapckjeedekphaaGreatDoor

namespace Go.Proofs.YtapckjeedekphaaGreatDoor.PR
open Go.RowKit Go.Proofs.YtapckjeedekphaaGreatDoorW.PrintWords Go.Proofs.YtapckjeedekphaaGreatDoorW.PrintLast Go.Proofs.YtapckjeedekphaaGreatDoorW.PrintMore
set_option linter.unusedVariables false
set_option linter.unusedSimpArgs false

def dowelref01_Add.f (k : Nat) (a0 : ByteArray) (a1 : ByteArray) : Option (ByteArray) := (dowelref01_digits.f k a0).bind fun t408 => ((dowelref01_digits.f k a1).bind fun t411 => ((dowelref01_Sign.f a0).bind fun t414 => ((dowelref01_Sign.f a1).bind fun t415 => (if ((decide (t414 < 0)) == (decide (t415 < 0))) = true then ((dowelref01_Sign.f a0).bind fun t416 => ((dowelref01_plus.f k t408 t411).bind fun t417 => ((dowelref01_text.f k (decide (t416 < 0)) t417).bind fun t420 => (some t420)))) else ((dowelref01_order.f k t408 t411).bind fun t421 => (if t421 ≥ 0 then ((dowelref01_Sign.f a0).bind fun t422 => ((dowelref01_minus.f k t408 t411).bind fun t423 => ((dowelref01_text.f k (decide (t422 < 0)) t423).bind fun t426 => (some t426)))) else ((dowelref01_Sign.f a1).bind fun t427 => ((dowelref01_minus.f k t411 t408).bind fun t428 => ((dowelref01_text.f k (decide (t427 < 0)) t428).bind fun t431 => (some t431))))))))))
set_option maxHeartbeats 8000000 in
set_option maxRecDepth 100000 in
theorem dowelref01_Add.calls (k : Nat) (a0 : ByteArray) (a1 : ByteArray) (r : ByteArray) (w : World) (h : dowelref01_Add.f k a0 a1 = some r) :
    Calls Tryz.prog 143 #[.string a0, .string a1] w fun e w' => e = .returned (.string r) ∧ Below w.heap.size w w' := by
  have HB := Aside0.mk (Below.refl w.heap.size w)
  have H : ((dowelref01_digits.f k a0).bind fun t408 => ((dowelref01_digits.f k a1).bind fun t411 => ((dowelref01_Sign.f a0).bind fun t414 => ((dowelref01_Sign.f a1).bind fun t415 => (if ((decide (t414 < 0)) == (decide (t415 < 0))) = true then ((dowelref01_Sign.f a0).bind fun t416 => ((dowelref01_plus.f k t408 t411).bind fun t417 => ((dowelref01_text.f k (decide (t416 < 0)) t417).bind fun t420 => (some t420)))) else ((dowelref01_order.f k t408 t411).bind fun t421 => (if t421 ≥ 0 then ((dowelref01_Sign.f a0).bind fun t422 => ((dowelref01_minus.f k t408 t411).bind fun t423 => ((dowelref01_text.f k (decide (t422 < 0)) t423).bind fun t426 => (some t426)))) else ((dowelref01_Sign.f a1).bind fun t427 => ((dowelref01_minus.f k t411 t408).bind fun t428 => ((dowelref01_text.f k (decide (t427 < 0)) t428).bind fun t431 => (some t431))))))))))) = some r := h
  clear h
  replace H := Option.bind_eq_some_iff.mp H
  obtain ⟨t408, A30, H⟩ := H
  replace H : ((dowelref01_digits.f k a1).bind fun t411 => ((dowelref01_Sign.f a0).bind fun t414 => ((dowelref01_Sign.f a1).bind fun t415 => (if ((decide (t414 < 0)) == (decide (t415 < 0))) = true then ((dowelref01_Sign.f a0).bind fun t416 => ((dowelref01_plus.f k t408 t411).bind fun t417 => ((dowelref01_text.f k (decide (t416 < 0)) t417).bind fun t420 => (some t420)))) else ((dowelref01_order.f k t408 t411).bind fun t421 => (if t421 ≥ 0 then ((dowelref01_Sign.f a0).bind fun t422 => ((dowelref01_minus.f k t408 t411).bind fun t423 => ((dowelref01_text.f k (decide (t422 < 0)) t423).bind fun t426 => (some t426)))) else ((dowelref01_Sign.f a1).bind fun t427 => ((dowelref01_minus.f k t411 t408).bind fun t428 => ((dowelref01_text.f k (decide (t427 < 0)) t428).bind fun t431 => (some t431)))))))))) = some r := H
  have A3 := Aside0.mk A30
  clear A30
  replace H := Option.bind_eq_some_iff.mp H
  obtain ⟨t411, A40, H⟩ := H
  replace H : ((dowelref01_Sign.f a0).bind fun t414 => ((dowelref01_Sign.f a1).bind fun t415 => (if ((decide (t414 < 0)) == (decide (t415 < 0))) = true then ((dowelref01_Sign.f a0).bind fun t416 => ((dowelref01_plus.f k t408 t411).bind fun t417 => ((dowelref01_text.f k (decide (t416 < 0)) t417).bind fun t420 => (some t420)))) else ((dowelref01_order.f k t408 t411).bind fun t421 => (if t421 ≥ 0 then ((dowelref01_Sign.f a0).bind fun t422 => ((dowelref01_minus.f k t408 t411).bind fun t423 => ((dowelref01_text.f k (decide (t422 < 0)) t423).bind fun t426 => (some t426)))) else ((dowelref01_Sign.f a1).bind fun t427 => ((dowelref01_minus.f k t411 t408).bind fun t428 => ((dowelref01_text.f k (decide (t427 < 0)) t428).bind fun t431 => (some t431))))))))) = some r := H
  have A4 := Aside0.mk A40
  clear A40
  replace H := Option.bind_eq_some_iff.mp H
  obtain ⟨t414, A50, H⟩ := H
  replace H : ((dowelref01_Sign.f a1).bind fun t415 => (if ((decide (t414 < 0)) == (decide (t415 < 0))) = true then ((dowelref01_Sign.f a0).bind fun t416 => ((dowelref01_plus.f k t408 t411).bind fun t417 => ((dowelref01_text.f k (decide (t416 < 0)) t417).bind fun t420 => (some t420)))) else ((dowelref01_order.f k t408 t411).bind fun t421 => (if t421 ≥ 0 then ((dowelref01_Sign.f a0).bind fun t422 => ((dowelref01_minus.f k t408 t411).bind fun t423 => ((dowelref01_text.f k (decide (t422 < 0)) t423).bind fun t426 => (some t426)))) else ((dowelref01_Sign.f a1).bind fun t427 => ((dowelref01_minus.f k t411 t408).bind fun t428 => ((dowelref01_text.f k (decide (t427 < 0)) t428).bind fun t431 => (some t431)))))))) = some r := H
  have A5 := Aside0.mk A50
  clear A50
  replace H := Option.bind_eq_some_iff.mp H
  obtain ⟨t415, A60, H⟩ := H
  replace H : (if ((decide (t414 < 0)) == (decide (t415 < 0))) = true then ((dowelref01_Sign.f a0).bind fun t416 => ((dowelref01_plus.f k t408 t411).bind fun t417 => ((dowelref01_text.f k (decide (t416 < 0)) t417).bind fun t420 => (some t420)))) else ((dowelref01_order.f k t408 t411).bind fun t421 => (if t421 ≥ 0 then ((dowelref01_Sign.f a0).bind fun t422 => ((dowelref01_minus.f k t408 t411).bind fun t423 => ((dowelref01_text.f k (decide (t422 < 0)) t423).bind fun t426 => (some t426)))) else ((dowelref01_Sign.f a1).bind fun t427 => ((dowelref01_minus.f k t411 t408).bind fun t428 => ((dowelref01_text.f k (decide (t427 < 0)) t428).bind fun t431 => (some t431))))))) = some r := H
  have A6 := Aside0.mk A60
  clear A60
  by_cases c7 : ((decide (t414 < 0)) == (decide (t415 < 0))) = true
  · rw [if_pos c7] at H
    have c7b0 : ((decide (t414 < 0)) == (decide (t415 < 0))) = true := c7
    (try (have c7b1 : decide ((decide (t414 < 0)) = (decide (t415 < 0))) = true := by simpa using c7))
    (try (have c7b2 : ((decide (t414 < 0)) == (decide (t415 < 0))) = true := by simpa using c7))
    clear c7
    replace H := Option.bind_eq_some_iff.mp H
    obtain ⟨t416, A80, H⟩ := H
    replace H : ((dowelref01_plus.f k t408 t411).bind fun t417 => ((dowelref01_text.f k (decide (t416 < 0)) t417).bind fun t420 => (some t420))) = some r := H
    have A8 := Aside0.mk A80
    clear A80
    replace H := Option.bind_eq_some_iff.mp H
    obtain ⟨t417, A90, H⟩ := H
    replace H : ((dowelref01_text.f k (decide (t416 < 0)) t417).bind fun t420 => (some t420)) = some r := H
    have A9 := Aside0.mk A90
    clear A90
    replace H := Option.bind_eq_some_iff.mp H
    obtain ⟨t420, A100, H⟩ := H
    replace H : (some t420) = some r := H
    have A10 := Aside0.mk A100
    clear A100
    obtain rfl := Option.some.inj H
    go_enter Tryz.func143, Tryz.ntmps143
    go_wp2_with (first | ((with_reducible refine gate_callee (f := 154) rfl ?_); refine goesL_ (some 8) rfl rfl Tryz.func154 (by kernel_rfl) rfl #[.string a0] rfl (by (try simp only [List.map_toArray, List.map_cons, List.map_nil]); first | done | rfl | (simp only [List.length_drop, List.length_take]; rfl)) ?_; (with_reducible refine (dowelref01_digits.calls k a0 t408 _ A3.out).mono ?_); rintro e w11 ⟨v409, rfl, ho0, hb⟩; refine ⟨_, rfl, ?_⟩; have n0_ := Aside0.mk (Kd.R_lower ho0 (below_size (by repeat (first | (with_reducible first | exact HB.out | apply below_alloc | apply pw_below_drewN | apply below_drew1) | exact HB.out)))); have n1_ := Aside0.mk (below_step (by repeat (first | (with_reducible first | exact HB.out | apply below_alloc | apply pw_below_drewN | apply below_drew1) | exact HB.out)) hb); clear HB; have HO410 := n0_; have HB := n1_; clear n0_ n1_; (try clear hb); (try clear hb2); (try clear hk); (try clear hi); (try clear ho0)) | ((with_reducible refine gate_callee (f := 154) rfl ?_); refine goesL_ (some 10) rfl rfl Tryz.func154 (by kernel_rfl) rfl #[.string a1] rfl (by (try simp only [List.map_toArray, List.map_cons, List.map_nil]); first | done | rfl | (simp only [List.length_drop, List.length_take]; rfl)) ?_; (with_reducible refine (dowelref01_digits.calls k a1 t411 _ A4.out).mono ?_); rintro e w12 ⟨v412, rfl, ho0, hb⟩; refine ⟨_, rfl, ?_⟩; have n0_ := Aside0.mk (Kd.R_elder' (by (with_reducible repeat (first | apply Kd.R_alloc | apply Kd.R_drewN | apply Kd.R_drew)); exact HO410.out) (Kd.R_base ho0) hb); have n1_ := Aside0.mk (Kd.R_lower (Kd.R_new' ho0 (Kd.R_lt (by (with_reducible repeat (first | apply Kd.R_alloc | apply Kd.R_drewN | apply Kd.R_drew)); exact HO410.out))) (below_size (by repeat (first | (with_reducible first | exact HB.out | apply below_alloc | apply pw_below_drewN | apply below_drew1) | exact HB.out)))); have n2_ := Aside0.mk (below_step (by repeat (first | (with_reducible first | exact HB.out | apply below_alloc | apply pw_below_drewN | apply below_drew1) | exact HB.out)) hb); clear HO410; clear HB; have HO410 := n0_; have HO413 := n1_; have HB := n2_; clear n0_ n1_ n2_; (try clear hb); (try clear hb2); (try clear hk); (try clear hi); (try clear ho0)) | ((with_reducible refine gate_callee (f := 126) rfl ?_); refine goesL_ (some 12) rfl rfl Tryz.func126 (by kernel_rfl) rfl #[.string a0] rfl (by (try simp only [List.map_toArray, List.map_cons, List.map_nil]); first | done | rfl | (simp only [List.length_drop, List.length_take]; rfl)) ?_; (with_reducible refine (dowelref01_Sign.calls a0 t414 _ A5.out).mono ?_); rintro e w' ⟨rfl, ⟨nd, rfl⟩⟩; refine ⟨_, rfl, ?_⟩) | ((with_reducible refine gate_callee (f := 126) rfl ?_); refine goesL_ (some 15) rfl rfl Tryz.func126 (by kernel_rfl) rfl #[.string a1] rfl (by (try simp only [List.map_toArray, List.map_cons, List.map_nil]); first | done | rfl | (simp only [List.length_drop, List.length_take]; rfl)) ?_; (with_reducible refine (dowelref01_Sign.calls a1 t415 _ A6.out).mono ?_); rintro e w' ⟨rfl, ⟨nd, rfl⟩⟩; refine ⟨_, rfl, ?_⟩) | ((with_reducible refine gate_callee (f := 126) rfl ?_); refine goesL_ (some 19) rfl rfl Tryz.func126 (by kernel_rfl) rfl #[.string a0] rfl (by (try simp only [List.map_toArray, List.map_cons, List.map_nil]); first | done | rfl | (simp only [List.length_drop, List.length_take]; rfl)) ?_; (with_reducible refine (dowelref01_Sign.calls a0 t416 _ A8.out).mono ?_); rintro e w' ⟨rfl, ⟨nd, rfl⟩⟩; refine ⟨_, rfl, ?_⟩; obtain ⟨Ao13, co13, eo13⟩ := Kd.R_slice HO410.out; subst eo13; obtain ⟨Ao14, co14, eo14⟩ := Kd.R_slice HO413.out; subst eo14) | ((with_reducible refine gate_callee (f := 182) rfl ?_); refine goesL_ (some 23) rfl rfl Tryz.func182 (by kernel_rfl) rfl #[.slice Ao13 t408.length co13, .slice Ao14 t411.length co14] rfl (by (try simp only [List.map_toArray, List.map_cons, List.map_nil]); first | done | rfl | (simp only [List.length_drop, List.length_take]; rfl)) ?_; (with_reducible refine (dowelref01_plus.calls k _ _ t408 _ _ t411 t417 _ ?side1 ?side2 ?side3 ?side4 A9.out).mono ?_); (case side1 => repeat (first | exact (Kd.R_reads' HO410.out).2.2 | (with_reducible refine Kd.C_alloc ?_ _) | (with_reducible refine Kd.C_drewN ?_ _) | (with_reducible refine Kd.C_drew ?_))); (case side2 => exact (Kd.R_reads' HO410.out).2.1); (case side3 => repeat (first | exact (Kd.R_reads' HO413.out).2.2 | (with_reducible refine Kd.C_alloc ?_ _) | (with_reducible refine Kd.C_drewN ?_ _) | (with_reducible refine Kd.C_drew ?_))); (case side4 => exact (Kd.R_reads' HO413.out).2.1); rintro e w15 ⟨v418, rfl, ho0, hb⟩; refine ⟨_, rfl, ?_⟩; have n0_ := Aside0.mk (Kd.R_elder' (by (with_reducible repeat (first | apply Kd.R_alloc | apply Kd.R_drewN | apply Kd.R_drew)); exact HO410.out) (Kd.R_base ho0) hb); have n1_ := Aside0.mk (Kd.R_elder' (by (with_reducible repeat (first | apply Kd.R_alloc | apply Kd.R_drewN | apply Kd.R_drew)); exact HO413.out) (Kd.R_base ho0) hb); have n2_ := Aside0.mk (Kd.R_lower (Kd.R_new' (Kd.R_new' ho0 (Kd.R_lt (by (with_reducible repeat (first | apply Kd.R_alloc | apply Kd.R_drewN | apply Kd.R_drew)); exact HO410.out))) (Kd.R_lt (by (with_reducible repeat (first | apply Kd.R_alloc | apply Kd.R_drewN | apply Kd.R_drew)); exact HO413.out))) (below_size (by repeat (first | (with_reducible first | exact HB.out | apply below_alloc | apply pw_below_drewN | apply below_drew1) | exact HB.out)))); have n3_ := Aside0.mk (below_step (by repeat (first | (with_reducible first | exact HB.out | apply below_alloc | apply pw_below_drewN | apply below_drew1) | exact HB.out)) hb); clear HO410; clear HO413; clear HB; have HO410 := n0_; have HO413 := n1_; have HO419 := n2_; have HB := n3_; clear n0_ n1_ n2_ n3_; (try clear hb); (try clear hb2); (try clear hk); (try clear hi); (try clear ho0); obtain ⟨Ao16, co16, eo16⟩ := Kd.R_slice HO419.out; subst eo16) | ((with_reducible refine gate_callee (f := 155) rfl ?_); refine goesL_ (some 24) rfl rfl Tryz.func155 (by kernel_rfl) rfl #[.bool (decide (t416 < 0)), .slice Ao16 t417.length co16] rfl (by (try simp only [List.map_toArray, List.map_cons, List.map_nil]); first | done | rfl | (simp only [List.length_drop, List.length_take]; rfl)) ?_; (with_reducible refine (dowelref01_text.calls k (decide (t416 < 0)) (fun k_ => some k_ = (.slice Ao16 t417.length co16 : Value).ownBlock) (.slice Ao16 t417.length co16) t417 t420 w _ ?side1 ?side2 A10.out).mono ?_); (case side1 => repeat (first | (with_reducible first | exact HB.out | apply below_alloc | apply pw_below_drewN | apply below_drew1) | exact HB.out)); (case side2 => exact Kd.R_tight rfl HO419.out); rintro e w17 ⟨rfl, hb, hkp⟩; refine ⟨_, rfl, ?_⟩; have n0_ := Aside0.mk (Kd.R_mono (ok' := fun k_ => some k_ ≠ (.slice Ao14 t411.length co14 : Value).ownBlock) (Kd.R_keptB (HO410.out) hkp (fun k_ hk_ hs_ => (hk_.2) hs_)) (fun k_ hk_ => hk_.1.1.2)); have n1_ := Aside0.mk (Kd.R_mono (ok' := fun k_ => some k_ ≠ (.slice Ao13 t408.length co13 : Value).ownBlock) (Kd.R_keptB (HO413.out) hkp (fun k_ hk_ hs_ => (hk_.2) hs_)) (fun k_ hk_ => hk_.1.1.2)); have n2_ := Aside0.mk (hb); clear HO410; clear HO413; clear HB; clear HO419; have HO410 := n0_; have HO413 := n1_; have HB := n2_; clear n0_ n1_ n2_; (try clear hb); (try clear hkp)))
    go_ret
    exact ⟨by first | rfl | (simp [errW_none, errW_some] <;> rfl) | (simp [*, errW_none, errW_some] <;> rfl), by repeat (first | (with_reducible first | exact HB.out | apply below_alloc | apply pw_below_drewN | apply below_drew1) | exact HB.out)⟩
  · rw [if_neg c7] at H
    have c7b0 : ((decide (t414 < 0)) == (decide (t415 < 0))) = false := by simpa using c7
    (try (have c7b1 : decide ((decide (t414 < 0)) = (decide (t415 < 0))) = false := by simpa using c7))
    (try (have c7b2 : ((decide (t414 < 0)) == (decide (t415 < 0))) = false := by simpa using c7))
    (try (have c7b3 : ¬ ((decide (t414 < 0)) = (decide (t415 < 0))) := by simpa using c7))
    clear c7
    replace H := Option.bind_eq_some_iff.mp H
    obtain ⟨t421, A180, H⟩ := H
    replace H : (if t421 ≥ 0 then ((dowelref01_Sign.f a0).bind fun t422 => ((dowelref01_minus.f k t408 t411).bind fun t423 => ((dowelref01_text.f k (decide (t422 < 0)) t423).bind fun t426 => (some t426)))) else ((dowelref01_Sign.f a1).bind fun t427 => ((dowelref01_minus.f k t411 t408).bind fun t428 => ((dowelref01_text.f k (decide (t427 < 0)) t428).bind fun t431 => (some t431))))) = some r := H
    have A18 := Aside0.mk A180
    clear A180
    by_cases c19 : t421 ≥ 0
    · rw [if_pos c19] at H
      have c19b0 : decide (0 ≤ t421) = true := decide_eq_true c19
      clear c19
      replace H := Option.bind_eq_some_iff.mp H
      obtain ⟨t422, A200, H⟩ := H
      replace H : ((dowelref01_minus.f k t408 t411).bind fun t423 => ((dowelref01_text.f k (decide (t422 < 0)) t423).bind fun t426 => (some t426))) = some r := H
      have A20 := Aside0.mk A200
      clear A200
      replace H := Option.bind_eq_some_iff.mp H
      obtain ⟨t423, A210, H⟩ := H
      replace H : ((dowelref01_text.f k (decide (t422 < 0)) t423).bind fun t426 => (some t426)) = some r := H
      have A21 := Aside0.mk A210
      clear A210
      replace H := Option.bind_eq_some_iff.mp H
      obtain ⟨t426, A220, H⟩ := H
      replace H : (some t426) = some r := H
      have A22 := Aside0.mk A220
      clear A220
      obtain rfl := Option.some.inj H
      go_enter Tryz.func143, Tryz.ntmps143
      go_wp2_with (first | ((with_reducible refine gate_callee (f := 154) rfl ?_); refine goesL_ (some 8) rfl rfl Tryz.func154 (by kernel_rfl) rfl #[.string a0] rfl (by (try simp only [List.map_toArray, List.map_cons, List.map_nil]); first | done | rfl | (simp only [List.length_drop, List.length_take]; rfl)) ?_; (with_reducible refine (dowelref01_digits.calls k a0 t408 _ A3.out).mono ?_); rintro e w23 ⟨v409, rfl, ho0, hb⟩; refine ⟨_, rfl, ?_⟩; have n0_ := Aside0.mk (Kd.R_lower ho0 (below_size (by repeat (first | (with_reducible first | exact HB.out | apply below_alloc | apply pw_below_drewN | apply below_drew1) | exact HB.out)))); have n1_ := Aside0.mk (below_step (by repeat (first | (with_reducible first | exact HB.out | apply below_alloc | apply pw_below_drewN | apply below_drew1) | exact HB.out)) hb); clear HB; have HO410 := n0_; have HB := n1_; clear n0_ n1_; (try clear hb); (try clear hb2); (try clear hk); (try clear hi); (try clear ho0)) | ((with_reducible refine gate_callee (f := 154) rfl ?_); refine goesL_ (some 10) rfl rfl Tryz.func154 (by kernel_rfl) rfl #[.string a1] rfl (by (try simp only [List.map_toArray, List.map_cons, List.map_nil]); first | done | rfl | (simp only [List.length_drop, List.length_take]; rfl)) ?_; (with_reducible refine (dowelref01_digits.calls k a1 t411 _ A4.out).mono ?_); rintro e w24 ⟨v412, rfl, ho0, hb⟩; refine ⟨_, rfl, ?_⟩; have n0_ := Aside0.mk (Kd.R_elder' (by (with_reducible repeat (first | apply Kd.R_alloc | apply Kd.R_drewN | apply Kd.R_drew)); exact HO410.out) (Kd.R_base ho0) hb); have n1_ := Aside0.mk (Kd.R_lower (Kd.R_new' ho0 (Kd.R_lt (by (with_reducible repeat (first | apply Kd.R_alloc | apply Kd.R_drewN | apply Kd.R_drew)); exact HO410.out))) (below_size (by repeat (first | (with_reducible first | exact HB.out | apply below_alloc | apply pw_below_drewN | apply below_drew1) | exact HB.out)))); have n2_ := Aside0.mk (below_step (by repeat (first | (with_reducible first | exact HB.out | apply below_alloc | apply pw_below_drewN | apply below_drew1) | exact HB.out)) hb); clear HO410; clear HB; have HO410 := n0_; have HO413 := n1_; have HB := n2_; clear n0_ n1_ n2_; (try clear hb); (try clear hb2); (try clear hk); (try clear hi); (try clear ho0)) | ((with_reducible refine gate_callee (f := 126) rfl ?_); refine goesL_ (some 12) rfl rfl Tryz.func126 (by kernel_rfl) rfl #[.string a0] rfl (by (try simp only [List.map_toArray, List.map_cons, List.map_nil]); first | done | rfl | (simp only [List.length_drop, List.length_take]; rfl)) ?_; (with_reducible refine (dowelref01_Sign.calls a0 t414 _ A5.out).mono ?_); rintro e w' ⟨rfl, ⟨nd, rfl⟩⟩; refine ⟨_, rfl, ?_⟩) | ((with_reducible refine gate_callee (f := 126) rfl ?_); refine goesL_ (some 15) rfl rfl Tryz.func126 (by kernel_rfl) rfl #[.string a1] rfl (by (try simp only [List.map_toArray, List.map_cons, List.map_nil]); first | done | rfl | (simp only [List.length_drop, List.length_take]; rfl)) ?_; (with_reducible refine (dowelref01_Sign.calls a1 t415 _ A6.out).mono ?_); rintro e w' ⟨rfl, ⟨nd, rfl⟩⟩; refine ⟨_, rfl, ?_⟩; obtain ⟨Ao25, co25, eo25⟩ := Kd.R_slice HO410.out; subst eo25; obtain ⟨Ao26, co26, eo26⟩ := Kd.R_slice HO413.out; subst eo26) | ((with_reducible refine gate_callee (f := 153) rfl ?_); refine goesL_ (some 27) rfl rfl Tryz.func153 (by kernel_rfl) rfl #[.slice Ao25 t408.length co25, .slice Ao26 t411.length co26] rfl (by (try simp only [List.map_toArray, List.map_cons, List.map_nil]); first | done | rfl | (simp only [List.length_drop, List.length_take]; rfl)) ?_; (with_reducible refine (dowelref01_order.calls k _ _ t408 _ _ t411 t421 _ ?side1 ?side2 ?side3 ?side4 A18.out).mono ?_); (case side1 => repeat (first | exact (Kd.R_reads' HO410.out).2.2 | (with_reducible refine Kd.C_alloc ?_ _) | (with_reducible refine Kd.C_drewN ?_ _) | (with_reducible refine Kd.C_drew ?_))); (case side2 => exact (Kd.R_reads' HO410.out).2.1); (case side3 => repeat (first | exact (Kd.R_reads' HO413.out).2.2 | (with_reducible refine Kd.C_alloc ?_ _) | (with_reducible refine Kd.C_drewN ?_ _) | (with_reducible refine Kd.C_drew ?_))); (case side4 => exact (Kd.R_reads' HO413.out).2.1); rintro e w' ⟨rfl, ⟨nd, rfl⟩⟩; refine ⟨_, rfl, ?_⟩) | ((with_reducible refine gate_callee (f := 126) rfl ?_); refine goesL_ (some 30) rfl rfl Tryz.func126 (by kernel_rfl) rfl #[.string a0] rfl (by (try simp only [List.map_toArray, List.map_cons, List.map_nil]); first | done | rfl | (simp only [List.length_drop, List.length_take]; rfl)) ?_; (with_reducible refine (dowelref01_Sign.calls a0 t422 _ A20.out).mono ?_); rintro e w' ⟨rfl, ⟨nd, rfl⟩⟩; refine ⟨_, rfl, ?_⟩) | ((with_reducible refine gate_callee (f := 167) rfl ?_); refine goesL_ (some 34) rfl rfl Tryz.func167 (by kernel_rfl) rfl #[.slice Ao25 t408.length co25, .slice Ao26 t411.length co26] rfl (by (try simp only [List.map_toArray, List.map_cons, List.map_nil]); first | done | rfl | (simp only [List.length_drop, List.length_take]; rfl)) ?_; (with_reducible refine (dowelref01_minus.calls k _ _ t408 _ _ t411 t423 _ ?side1 ?side2 ?side3 ?side4 A21.out).mono ?_); (case side1 => repeat (first | exact (Kd.R_reads' HO410.out).2.2 | (with_reducible refine Kd.C_alloc ?_ _) | (with_reducible refine Kd.C_drewN ?_ _) | (with_reducible refine Kd.C_drew ?_))); (case side2 => exact (Kd.R_reads' HO410.out).2.1); (case side3 => repeat (first | exact (Kd.R_reads' HO413.out).2.2 | (with_reducible refine Kd.C_alloc ?_ _) | (with_reducible refine Kd.C_drewN ?_ _) | (with_reducible refine Kd.C_drew ?_))); (case side4 => exact (Kd.R_reads' HO413.out).2.1); rintro e w27 ⟨v424, rfl, ho0, hb⟩; refine ⟨_, rfl, ?_⟩; have n0_ := Aside0.mk (Kd.R_elder' (by (with_reducible repeat (first | apply Kd.R_alloc | apply Kd.R_drewN | apply Kd.R_drew)); exact HO410.out) (Kd.R_base ho0) hb); have n1_ := Aside0.mk (Kd.R_elder' (by (with_reducible repeat (first | apply Kd.R_alloc | apply Kd.R_drewN | apply Kd.R_drew)); exact HO413.out) (Kd.R_base ho0) hb); have n2_ := Aside0.mk (Kd.R_lower (Kd.R_new' (Kd.R_new' ho0 (Kd.R_lt (by (with_reducible repeat (first | apply Kd.R_alloc | apply Kd.R_drewN | apply Kd.R_drew)); exact HO410.out))) (Kd.R_lt (by (with_reducible repeat (first | apply Kd.R_alloc | apply Kd.R_drewN | apply Kd.R_drew)); exact HO413.out))) (below_size (by repeat (first | (with_reducible first | exact HB.out | apply below_alloc | apply pw_below_drewN | apply below_drew1) | exact HB.out)))); have n3_ := Aside0.mk (below_step (by repeat (first | (with_reducible first | exact HB.out | apply below_alloc | apply pw_below_drewN | apply below_drew1) | exact HB.out)) hb); clear HO410; clear HO413; clear HB; have HO410 := n0_; have HO413 := n1_; have HO425 := n2_; have HB := n3_; clear n0_ n1_ n2_ n3_; (try clear hb); (try clear hb2); (try clear hk); (try clear hi); (try clear ho0); obtain ⟨Ao28, co28, eo28⟩ := Kd.R_slice HO425.out; subst eo28) | ((with_reducible refine gate_callee (f := 155) rfl ?_); refine goesL_ (some 35) rfl rfl Tryz.func155 (by kernel_rfl) rfl #[.bool (decide (t422 < 0)), .slice Ao28 t423.length co28] rfl (by (try simp only [List.map_toArray, List.map_cons, List.map_nil]); first | done | rfl | (simp only [List.length_drop, List.length_take]; rfl)) ?_; (with_reducible refine (dowelref01_text.calls k (decide (t422 < 0)) (fun k_ => some k_ = (.slice Ao28 t423.length co28 : Value).ownBlock) (.slice Ao28 t423.length co28) t423 t426 w _ ?side1 ?side2 A22.out).mono ?_); (case side1 => repeat (first | (with_reducible first | exact HB.out | apply below_alloc | apply pw_below_drewN | apply below_drew1) | exact HB.out)); (case side2 => exact Kd.R_tight rfl HO425.out); rintro e w29 ⟨rfl, hb, hkp⟩; refine ⟨_, rfl, ?_⟩; have n0_ := Aside0.mk (Kd.R_mono (ok' := fun k_ => some k_ ≠ (.slice Ao26 t411.length co26 : Value).ownBlock) (Kd.R_keptB (HO410.out) hkp (fun k_ hk_ hs_ => (hk_.2) hs_)) (fun k_ hk_ => hk_.1.1.2)); have n1_ := Aside0.mk (Kd.R_mono (ok' := fun k_ => some k_ ≠ (.slice Ao25 t408.length co25 : Value).ownBlock) (Kd.R_keptB (HO413.out) hkp (fun k_ hk_ hs_ => (hk_.2) hs_)) (fun k_ hk_ => hk_.1.1.2)); have n2_ := Aside0.mk (hb); clear HO410; clear HO413; clear HB; clear HO425; have HO410 := n0_; have HO413 := n1_; have HB := n2_; clear n0_ n1_ n2_; (try clear hb); (try clear hkp)))
      go_ret
      exact ⟨by first | rfl | (simp [errW_none, errW_some] <;> rfl) | (simp [*, errW_none, errW_some] <;> rfl), by repeat (first | (with_reducible first | exact HB.out | apply below_alloc | apply pw_below_drewN | apply below_drew1) | exact HB.out)⟩
    · rw [if_neg c19] at H
      have c19b0 : decide (0 ≤ t421) = false := decide_eq_false c19
      clear c19
      replace H := Option.bind_eq_some_iff.mp H
      obtain ⟨t427, A300, H⟩ := H
      replace H : ((dowelref01_minus.f k t411 t408).bind fun t428 => ((dowelref01_text.f k (decide (t427 < 0)) t428).bind fun t431 => (some t431))) = some r := H
      have A30 := Aside0.mk A300
      clear A300
      replace H := Option.bind_eq_some_iff.mp H
      obtain ⟨t428, A310, H⟩ := H
      replace H : ((dowelref01_text.f k (decide (t427 < 0)) t428).bind fun t431 => (some t431)) = some r := H
      have A31 := Aside0.mk A310
      clear A310
      replace H := Option.bind_eq_some_iff.mp H
      obtain ⟨t431, A320, H⟩ := H
      replace H : (some t431) = some r := H
      have A32 := Aside0.mk A320
      clear A320
      obtain rfl := Option.some.inj H
      go_enter Tryz.func143, Tryz.ntmps143
      go_wp2_with (first | ((with_reducible refine gate_callee (f := 154) rfl ?_); refine goesL_ (some 8) rfl rfl Tryz.func154 (by kernel_rfl) rfl #[.string a0] rfl (by (try simp only [List.map_toArray, List.map_cons, List.map_nil]); first | done | rfl | (simp only [List.length_drop, List.length_take]; rfl)) ?_; (with_reducible refine (dowelref01_digits.calls k a0 t408 _ A3.out).mono ?_); rintro e w33 ⟨v409, rfl, ho0, hb⟩; refine ⟨_, rfl, ?_⟩; have n0_ := Aside0.mk (Kd.R_lower ho0 (below_size (by repeat (first | (with_reducible first | exact HB.out | apply below_alloc | apply pw_below_drewN | apply below_drew1) | exact HB.out)))); have n1_ := Aside0.mk (below_step (by repeat (first | (with_reducible first | exact HB.out | apply below_alloc | apply pw_below_drewN | apply below_drew1) | exact HB.out)) hb); clear HB; have HO410 := n0_; have HB := n1_; clear n0_ n1_; (try clear hb); (try clear hb2); (try clear hk); (try clear hi); (try clear ho0)) | ((with_reducible refine gate_callee (f := 154) rfl ?_); refine goesL_ (some 10) rfl rfl Tryz.func154 (by kernel_rfl) rfl #[.string a1] rfl (by (try simp only [List.map_toArray, List.map_cons, List.map_nil]); first | done | rfl | (simp only [List.length_drop, List.length_take]; rfl)) ?_; (with_reducible refine (dowelref01_digits.calls k a1 t411 _ A4.out).mono ?_); rintro e w34 ⟨v412, rfl, ho0, hb⟩; refine ⟨_, rfl, ?_⟩; have n0_ := Aside0.mk (Kd.R_elder' (by (with_reducible repeat (first | apply Kd.R_alloc | apply Kd.R_drewN | apply Kd.R_drew)); exact HO410.out) (Kd.R_base ho0) hb); have n1_ := Aside0.mk (Kd.R_lower (Kd.R_new' ho0 (Kd.R_lt (by (with_reducible repeat (first | apply Kd.R_alloc | apply Kd.R_drewN | apply Kd.R_drew)); exact HO410.out))) (below_size (by repeat (first | (with_reducible first | exact HB.out | apply below_alloc | apply pw_below_drewN | apply below_drew1) | exact HB.out)))); have n2_ := Aside0.mk (below_step (by repeat (first | (with_reducible first | exact HB.out | apply below_alloc | apply pw_below_drewN | apply below_drew1) | exact HB.out)) hb); clear HO410; clear HB; have HO410 := n0_; have HO413 := n1_; have HB := n2_; clear n0_ n1_ n2_; (try clear hb); (try clear hb2); (try clear hk); (try clear hi); (try clear ho0)) | ((with_reducible refine gate_callee (f := 126) rfl ?_); refine goesL_ (some 12) rfl rfl Tryz.func126 (by kernel_rfl) rfl #[.string a0] rfl (by (try simp only [List.map_toArray, List.map_cons, List.map_nil]); first | done | rfl | (simp only [List.length_drop, List.length_take]; rfl)) ?_; (with_reducible refine (dowelref01_Sign.calls a0 t414 _ A5.out).mono ?_); rintro e w' ⟨rfl, ⟨nd, rfl⟩⟩; refine ⟨_, rfl, ?_⟩) | ((with_reducible refine gate_callee (f := 126) rfl ?_); refine goesL_ (some 15) rfl rfl Tryz.func126 (by kernel_rfl) rfl #[.string a1] rfl (by (try simp only [List.map_toArray, List.map_cons, List.map_nil]); first | done | rfl | (simp only [List.length_drop, List.length_take]; rfl)) ?_; (with_reducible refine (dowelref01_Sign.calls a1 t415 _ A6.out).mono ?_); rintro e w' ⟨rfl, ⟨nd, rfl⟩⟩; refine ⟨_, rfl, ?_⟩; obtain ⟨Ao35, co35, eo35⟩ := Kd.R_slice HO410.out; subst eo35; obtain ⟨Ao36, co36, eo36⟩ := Kd.R_slice HO413.out; subst eo36) | ((with_reducible refine gate_callee (f := 153) rfl ?_); refine goesL_ (some 27) rfl rfl Tryz.func153 (by kernel_rfl) rfl #[.slice Ao35 t408.length co35, .slice Ao36 t411.length co36] rfl (by (try simp only [List.map_toArray, List.map_cons, List.map_nil]); first | done | rfl | (simp only [List.length_drop, List.length_take]; rfl)) ?_; (with_reducible refine (dowelref01_order.calls k _ _ t408 _ _ t411 t421 _ ?side1 ?side2 ?side3 ?side4 A18.out).mono ?_); (case side1 => repeat (first | exact (Kd.R_reads' HO410.out).2.2 | (with_reducible refine Kd.C_alloc ?_ _) | (with_reducible refine Kd.C_drewN ?_ _) | (with_reducible refine Kd.C_drew ?_))); (case side2 => exact (Kd.R_reads' HO410.out).2.1); (case side3 => repeat (first | exact (Kd.R_reads' HO413.out).2.2 | (with_reducible refine Kd.C_alloc ?_ _) | (with_reducible refine Kd.C_drewN ?_ _) | (with_reducible refine Kd.C_drew ?_))); (case side4 => exact (Kd.R_reads' HO413.out).2.1); rintro e w' ⟨rfl, ⟨nd, rfl⟩⟩; refine ⟨_, rfl, ?_⟩) | ((with_reducible refine gate_callee (f := 126) rfl ?_); refine goesL_ (some 37) rfl rfl Tryz.func126 (by kernel_rfl) rfl #[.string a1] rfl (by (try simp only [List.map_toArray, List.map_cons, List.map_nil]); first | done | rfl | (simp only [List.length_drop, List.length_take]; rfl)) ?_; (with_reducible refine (dowelref01_Sign.calls a1 t427 _ A30.out).mono ?_); rintro e w' ⟨rfl, ⟨nd, rfl⟩⟩; refine ⟨_, rfl, ?_⟩) | ((with_reducible refine gate_callee (f := 167) rfl ?_); refine goesL_ (some 41) rfl rfl Tryz.func167 (by kernel_rfl) rfl #[.slice Ao36 t411.length co36, .slice Ao35 t408.length co35] rfl (by (try simp only [List.map_toArray, List.map_cons, List.map_nil]); first | done | rfl | (simp only [List.length_drop, List.length_take]; rfl)) ?_; (with_reducible refine (dowelref01_minus.calls k _ _ t411 _ _ t408 t428 _ ?side1 ?side2 ?side3 ?side4 A31.out).mono ?_); (case side1 => repeat (first | exact (Kd.R_reads' HO413.out).2.2 | (with_reducible refine Kd.C_alloc ?_ _) | (with_reducible refine Kd.C_drewN ?_ _) | (with_reducible refine Kd.C_drew ?_))); (case side2 => exact (Kd.R_reads' HO413.out).2.1); (case side3 => repeat (first | exact (Kd.R_reads' HO410.out).2.2 | (with_reducible refine Kd.C_alloc ?_ _) | (with_reducible refine Kd.C_drewN ?_ _) | (with_reducible refine Kd.C_drew ?_))); (case side4 => exact (Kd.R_reads' HO410.out).2.1); rintro e w37 ⟨v429, rfl, ho0, hb⟩; refine ⟨_, rfl, ?_⟩; have n0_ := Aside0.mk (Kd.R_elder' (by (with_reducible repeat (first | apply Kd.R_alloc | apply Kd.R_drewN | apply Kd.R_drew)); exact HO410.out) (Kd.R_base ho0) hb); have n1_ := Aside0.mk (Kd.R_elder' (by (with_reducible repeat (first | apply Kd.R_alloc | apply Kd.R_drewN | apply Kd.R_drew)); exact HO413.out) (Kd.R_base ho0) hb); have n2_ := Aside0.mk (Kd.R_lower (Kd.R_new' (Kd.R_new' ho0 (Kd.R_lt (by (with_reducible repeat (first | apply Kd.R_alloc | apply Kd.R_drewN | apply Kd.R_drew)); exact HO410.out))) (Kd.R_lt (by (with_reducible repeat (first | apply Kd.R_alloc | apply Kd.R_drewN | apply Kd.R_drew)); exact HO413.out))) (below_size (by repeat (first | (with_reducible first | exact HB.out | apply below_alloc | apply pw_below_drewN | apply below_drew1) | exact HB.out)))); have n3_ := Aside0.mk (below_step (by repeat (first | (with_reducible first | exact HB.out | apply below_alloc | apply pw_below_drewN | apply below_drew1) | exact HB.out)) hb); clear HO410; clear HO413; clear HB; have HO410 := n0_; have HO413 := n1_; have HO430 := n2_; have HB := n3_; clear n0_ n1_ n2_ n3_; (try clear hb); (try clear hb2); (try clear hk); (try clear hi); (try clear ho0); obtain ⟨Ao38, co38, eo38⟩ := Kd.R_slice HO430.out; subst eo38) | ((with_reducible refine gate_callee (f := 155) rfl ?_); refine goesL_ (some 42) rfl rfl Tryz.func155 (by kernel_rfl) rfl #[.bool (decide (t427 < 0)), .slice Ao38 t428.length co38] rfl (by (try simp only [List.map_toArray, List.map_cons, List.map_nil]); first | done | rfl | (simp only [List.length_drop, List.length_take]; rfl)) ?_; (with_reducible refine (dowelref01_text.calls k (decide (t427 < 0)) (fun k_ => some k_ = (.slice Ao38 t428.length co38 : Value).ownBlock) (.slice Ao38 t428.length co38) t428 t431 w _ ?side1 ?side2 A32.out).mono ?_); (case side1 => repeat (first | (with_reducible first | exact HB.out | apply below_alloc | apply pw_below_drewN | apply below_drew1) | exact HB.out)); (case side2 => exact Kd.R_tight rfl HO430.out); rintro e w39 ⟨rfl, hb, hkp⟩; refine ⟨_, rfl, ?_⟩; have n0_ := Aside0.mk (Kd.R_mono (ok' := fun k_ => some k_ ≠ (.slice Ao36 t411.length co36 : Value).ownBlock) (Kd.R_keptB (HO410.out) hkp (fun k_ hk_ hs_ => (hk_.2) hs_)) (fun k_ hk_ => hk_.1.1.2)); have n1_ := Aside0.mk (Kd.R_mono (ok' := fun k_ => some k_ ≠ (.slice Ao35 t408.length co35 : Value).ownBlock) (Kd.R_keptB (HO413.out) hkp (fun k_ hk_ hs_ => (hk_.2) hs_)) (fun k_ hk_ => hk_.1.1.2)); have n2_ := Aside0.mk (hb); clear HO410; clear HO413; clear HB; clear HO430; have HO410 := n0_; have HO413 := n1_; have HB := n2_; clear n0_ n1_ n2_; (try clear hb); (try clear hkp)))
      go_ret
      exact ⟨by first | rfl | (simp [errW_none, errW_some] <;> rfl) | (simp [*, errW_none, errW_some] <;> rfl), by repeat (first | (with_reducible first | exact HB.out | apply below_alloc | apply pw_below_drewN | apply below_drew1) | exact HB.out)⟩

def dowelref01_Neg.f (k : Nat) (a0 : ByteArray) : Option (ByteArray) := (dowelref01_Sign.f a0).bind fun t432 => ((dowelref01_digits.f k a0).bind fun t433 => ((dowelref01_text.f k (decide (t432 > 0)) t433).bind fun t436 => (some t436)))
set_option maxHeartbeats 8000000 in
set_option maxRecDepth 100000 in
theorem dowelref01_Neg.calls (k : Nat) (a0 : ByteArray) (r : ByteArray) (w : World) (h : dowelref01_Neg.f k a0 = some r) :
    Calls Tryz.prog 127 #[.string a0] w fun e w' => e = .returned (.string r) ∧ Below w.heap.size w w' := by
  have HB := Aside0.mk (Below.refl w.heap.size w)
  have H : ((dowelref01_Sign.f a0).bind fun t432 => ((dowelref01_digits.f k a0).bind fun t433 => ((dowelref01_text.f k (decide (t432 > 0)) t433).bind fun t436 => (some t436)))) = some r := h
  clear h
  replace H := Option.bind_eq_some_iff.mp H
  obtain ⟨t432, A20, H⟩ := H
  replace H : ((dowelref01_digits.f k a0).bind fun t433 => ((dowelref01_text.f k (decide (t432 > 0)) t433).bind fun t436 => (some t436))) = some r := H
  have A2 := Aside0.mk A20
  clear A20
  replace H := Option.bind_eq_some_iff.mp H
  obtain ⟨t433, A30, H⟩ := H
  replace H : ((dowelref01_text.f k (decide (t432 > 0)) t433).bind fun t436 => (some t436)) = some r := H
  have A3 := Aside0.mk A30
  clear A30
  replace H := Option.bind_eq_some_iff.mp H
  obtain ⟨t436, A40, H⟩ := H
  replace H : (some t436) = some r := H
  have A4 := Aside0.mk A40
  clear A40
  obtain rfl := Option.some.inj H
  go_enter Tryz.func127, Tryz.ntmps127
  go_wp2_with (first | ((with_reducible refine gate_callee (f := 126) rfl ?_); refine goesL_ (some 4) rfl rfl Tryz.func126 (by kernel_rfl) rfl #[.string a0] rfl (by (try simp only [List.map_toArray, List.map_cons, List.map_nil]); first | done | rfl | (simp only [List.length_drop, List.length_take]; rfl)) ?_; (with_reducible refine (dowelref01_Sign.calls a0 t432 _ A2.out).mono ?_); rintro e w' ⟨rfl, ⟨nd, rfl⟩⟩; refine ⟨_, rfl, ?_⟩) | ((with_reducible refine gate_callee (f := 154) rfl ?_); refine goesL_ (some 7) rfl rfl Tryz.func154 (by kernel_rfl) rfl #[.string a0] rfl (by (try simp only [List.map_toArray, List.map_cons, List.map_nil]); first | done | rfl | (simp only [List.length_drop, List.length_take]; rfl)) ?_; (with_reducible refine (dowelref01_digits.calls k a0 t433 _ A3.out).mono ?_); rintro e w5 ⟨v434, rfl, ho0, hb⟩; refine ⟨_, rfl, ?_⟩; have n0_ := Aside0.mk (Kd.R_lower ho0 (below_size (by repeat (first | (with_reducible first | exact HB.out | apply below_alloc | apply pw_below_drewN | apply below_drew1) | exact HB.out)))); have n1_ := Aside0.mk (below_step (by repeat (first | (with_reducible first | exact HB.out | apply below_alloc | apply pw_below_drewN | apply below_drew1) | exact HB.out)) hb); clear HB; have HO435 := n0_; have HB := n1_; clear n0_ n1_; (try clear hb); (try clear hb2); (try clear hk); (try clear hi); (try clear ho0); obtain ⟨Ao6, co6, eo6⟩ := Kd.R_slice HO435.out; subst eo6) | ((with_reducible refine gate_callee (f := 155) rfl ?_); refine goesL_ (some 8) rfl rfl Tryz.func155 (by kernel_rfl) rfl #[.bool (decide (t432 > 0)), .slice Ao6 t433.length co6] rfl (by (try simp only [List.map_toArray, List.map_cons, List.map_nil]); first | done | rfl | (simp only [List.length_drop, List.length_take]; rfl)) ?_; (with_reducible refine (dowelref01_text.calls k (decide (t432 > 0)) (fun k_ => some k_ = (.slice Ao6 t433.length co6 : Value).ownBlock) (.slice Ao6 t433.length co6) t433 t436 w _ ?side1 ?side2 A4.out).mono ?_); (case side1 => repeat (first | (with_reducible first | exact HB.out | apply below_alloc | apply pw_below_drewN | apply below_drew1) | exact HB.out)); (case side2 => exact Kd.R_tight rfl HO435.out); rintro e w7 ⟨rfl, hb, hkp⟩; refine ⟨_, rfl, ?_⟩; have n0_ := Aside0.mk (hb); clear HB; clear HO435; have HB := n0_; clear n0_; (try clear hb); (try clear hkp)))
  go_ret
  exact ⟨by first | rfl | (simp [errW_none, errW_some] <;> rfl) | (simp [*, errW_none, errW_some] <;> rfl), by repeat (first | (with_reducible first | exact HB.out | apply below_alloc | apply pw_below_drewN | apply below_drew1) | exact HB.out)⟩

def dowelref01_Sub.f (k : Nat) (a0 : ByteArray) (a1 : ByteArray) : Option (ByteArray) := (dowelref01_Neg.f k a1).bind fun t437 => ((dowelref01_Add.f k a0 t437).bind fun t438 => (some t438))
set_option maxHeartbeats 8000000 in
set_option maxRecDepth 100000 in
theorem dowelref01_Sub.calls (k : Nat) (a0 : ByteArray) (a1 : ByteArray) (r : ByteArray) (w : World) (h : dowelref01_Sub.f k a0 a1 = some r) :
    Calls Tryz.prog 168 #[.string a0, .string a1] w fun e w' => e = .returned (.string r) ∧ Below w.heap.size w w' := by
  have HB := Aside0.mk (Below.refl w.heap.size w)
  have H : ((dowelref01_Neg.f k a1).bind fun t437 => ((dowelref01_Add.f k a0 t437).bind fun t438 => (some t438))) = some r := h
  clear h
  replace H := Option.bind_eq_some_iff.mp H
  obtain ⟨t437, A30, H⟩ := H
  replace H : ((dowelref01_Add.f k a0 t437).bind fun t438 => (some t438)) = some r := H
  have A3 := Aside0.mk A30
  clear A30
  replace H := Option.bind_eq_some_iff.mp H
  obtain ⟨t438, A40, H⟩ := H
  replace H : (some t438) = some r := H
  have A4 := Aside0.mk A40
  clear A40
  obtain rfl := Option.some.inj H
  go_enter Tryz.func168, Tryz.ntmps168
  go_wp2_with (first | ((with_reducible refine gate_callee (f := 127) rfl ?_); refine goesL_ (some 7) rfl rfl Tryz.func127 (by kernel_rfl) rfl #[.string a1] rfl (by (try simp only [List.map_toArray, List.map_cons, List.map_nil]); first | done | rfl | (simp only [List.length_drop, List.length_take]; rfl)) ?_; (with_reducible refine (dowelref01_Neg.calls k a1 t437 _ A3.out).mono ?_); rintro e w5 ⟨rfl, hb⟩; refine ⟨_, rfl, ?_⟩; have n0_ := Aside0.mk (below_step (by repeat (first | (with_reducible first | exact HB.out | apply below_alloc | apply pw_below_drewN | apply below_drew1) | exact HB.out)) hb); clear HB; have HB := n0_; clear n0_; (try clear hb); (try clear hb2); (try clear hk); (try clear hi)) | ((with_reducible refine gate_callee (f := 143) rfl ?_); refine goesL_ (some 8) rfl rfl Tryz.func143 (by kernel_rfl) rfl #[.string a0, .string t437] rfl (by (try simp only [List.map_toArray, List.map_cons, List.map_nil]); first | done | rfl | (simp only [List.length_drop, List.length_take]; rfl)) ?_; (with_reducible refine (dowelref01_Add.calls k a0 t437 t438 _ A4.out).mono ?_); rintro e w6 ⟨rfl, hb⟩; refine ⟨_, rfl, ?_⟩; have n0_ := Aside0.mk (below_step (by repeat (first | (with_reducible first | exact HB.out | apply below_alloc | apply pw_below_drewN | apply below_drew1) | exact HB.out)) hb); clear HB; have HB := n0_; clear n0_; (try clear hb); (try clear hb2); (try clear hk); (try clear hi)))
  go_ret
  exact ⟨by first | rfl | (simp [errW_none, errW_some] <;> rfl) | (simp [*, errW_none, errW_some] <;> rfl), by repeat (first | (with_reducible first | exact HB.out | apply below_alloc | apply pw_below_drewN | apply below_drew1) | exact HB.out)⟩

end Go.Proofs.YtapckjeedekphaaGreatDoor.PR

namespace Go.Proofs.YtapckjeedekphaaGreatDoor
open Go.RowKit Go.Proofs.YtapckjeedekphaaGreatDoorW.PrintWords PR
/-- The decimal digits of a number, the lowest one first. -/
def D10 (n : Nat) : List Int := if h : n = 0 then [] else ((n % 10 : Nat) : Int) :: D10 (n / 10)
  termination_by n
  decreasing_by omega
theorem D10_zero : D10 0 = [] := by rw [D10]; rfl
theorem D10_pos {n : Nat} (h : n ≠ 0) : D10 n = ((n % 10 : Nat) : Int) :: D10 (n / 10) := by rw [D10, dif_neg h]
theorem Tr_cons {x : Int} {l : List Int} (h : Tr l) (hx : l = [] → x ≠ 0) : Tr (x :: l) := by
  rcases h with rfl | ⟨m, y, rfl, hy⟩
  · exact .inr ⟨[], x, rfl, hx rfl⟩
  · exact .inr ⟨x :: m, y, rfl, hy⟩
theorem D10_all (n : Nat) : Dg 10 (D10 n) ∧ V 10 (D10 n) = n ∧ Tr (D10 n) ∧ (D10 n = [] ↔ n = 0) := by
  induction n using Nat.strongRecOn with
  | _ n ih =>
    by_cases h : n = 0
    · subst h; rw [D10_zero]; exact ⟨Dg_nil _, rfl, .inl rfl, by simp⟩
    · obtain ⟨h1, h2, h3, h4⟩ := ih (n / 10) (by omega)
      rw [D10_pos h]
      refine ⟨Dg_cons.2 ⟨by omega, h1⟩, by simp only [V]; rw [h2]; omega, Tr_cons h3 (fun e => ?_), by simp [h]⟩
      have := h4.1 e
      omega
theorem D10_Dg (n : Nat) : Dg 10 (D10 n) := (D10_all n).1
theorem D10_V (n : Nat) : V 10 (D10 n) = n := (D10_all n).2.1
theorem D10_Tr (n : Nat) : Tr (D10 n) := (D10_all n).2.2.1
theorem D10_nil (n : Nat) : D10 n = [] ↔ n = 0 := (D10_all n).2.2.2
theorem D10_eq {l : List Int} {n : Nat} (h : Dg 10 l) (t : Tr l) (v : V 10 l = n) : D10 n = l := V_inj (by omega) (D10_Dg n) h (D10_Tr n) t (by rw [D10_V, v])
theorem trD_D10 {l : List Int} (h : Dg 10 l) : trD l = D10 (V 10 l).toNat := by
  have h0 := V_nonneg (B := 10) (by omega) h
  exact (D10_eq (trD_Dg h) (trD_Tr l) (by rw [trD_V]; omega)).symm
/-- The text of an integer. -/
def itx (z : Int) : List UInt8 := txs (decide (z < 0)) (D10 z.natAbs)
theorem txs_itx (neg : Bool) {d : List Int} (h : Dg 10 d) : txs neg (trD d) = itx (if neg then - V 10 d else V 10 d) := by
  have h0 := V_nonneg (B := 10) (by omega) h
  rw [trD_D10 h]
  unfold itx
  by_cases hz : V 10 d = 0
  · rw [hz]; cases neg <;> simp [D10_zero, txs]
  · cases neg with
    | true => simp only [if_true]; rw [show decide (- V 10 d < 0) = true by simp; omega, show (- V 10 d).natAbs = (V 10 d).toNat by omega]
    | false => simp only [if_neg (show ¬ (false = true) by decide)]; rw [show decide (V 10 d < 0) = false by simp; omega, show (V 10 d).natAbs = (V 10 d).toNat by omega]
theorem text10z (neg : Bool) (d : List Int) (hd : Dg 10 d) (hm : d.length ≤ 1000000) (k : Nat) (hk : d.length + 2 < k) : dowelref01_text.f k neg d = some (S (itx (if neg then - V 10 d else V 10 d))) := by
  rw [text10 neg d hd hm k hk, txs_itx neg hd]
theorem dl_append (a b : List UInt8) : dl (a ++ b) = dl b ++ dl a := by simp [dl]
theorem byte_digit {x : Int} (h : 0 ≤ x ∧ x < 10) : (UInt8.ofNat (48 + x.toNat)).toNat = 48 + x.toNat := by
  rw [UInt8.toNat_ofNat']; omega
theorem dl_txd {d : List Int} (h : Dg 10 d) : dl (txd d) = d := by
  induction d with
  | nil => rfl
  | cons x d ih =>
    rw [Dg_cons] at h
    have e : txd (x :: d) = txd d ++ [UInt8.ofNat (48 + x.toNat)] := by simp [txd]
    have hx := byte_digit h.1
    rw [e, dl_snoc _ _ (fun c => by rw [c] at hx; have : (45 : UInt8).toNat = 45 := rfl; omega), hx, ih h.2]
    congr 1
    omega
theorem dl_itx (z : Int) : trD (dl (itx z)) = D10 z.natAbs := by
  unfold itx txs
  by_cases h : D10 z.natAbs = []
  · rw [if_pos h, h]; rfl
  · rw [if_neg h, dl_append, dl_txd (D10_Dg _)]
    have e : dl (if decide (z < 0) = true then [45] else []) = [] := by
      by_cases c : z < 0
      · simp [c, dl]
      · simp [c, dl]
    rw [e, List.append_nil, trD_id (D10_Tr _)]
theorem itx_len (z : Int) : (itx z).length ≤ (D10 z.natAbs).length + 1 := by
  unfold itx txs
  by_cases h : D10 z.natAbs = []
  · rw [if_pos h, h]; simp
  · rw [if_neg h]; by_cases c : z < 0 <;> simp [c, txd]
theorem D10_len_itx (z : Int) : (D10 z.natAbs).length ≤ (itx z).length := by
  unfold itx txs
  by_cases h : D10 z.natAbs = []
  · rw [if_pos h, h]; simp
  · rw [if_neg h]; by_cases c : z < 0 <;> simp [c, txd]
theorem itx_zero : itx 0 = [48] := by unfold itx; simp [D10_zero, txs]
theorem itx_ne_nil (z : Int) : itx z ≠ [] := by
  unfold itx txs
  by_cases h : D10 z.natAbs = []
  · rw [if_pos h]; simp
  · rw [if_neg h]
    have : txd (D10 z.natAbs) ≠ [] := by simp [txd, h]
    simp [this]
/-- A bound on the digits: |z| < 10 ^ n. -/
def Td (n : Nat) (z : Int) : Prop := -(10 ^ n : Int) < z ∧ z < 10 ^ n
theorem Td_len {n : Nat} {z : Int} (h : Td n z) : (D10 z.natAbs).length ≤ n := by
  apply Classical.byContradiction
  intro hc
  have h1 := V_ge (B := 10) (by omega) (D10_Dg z.natAbs) (D10_Tr _) (by intro e; rw [e] at hc; simp at hc)
  rw [D10_V] at h1
  have h2 := pow_le' (B := 10) (by omega) (show n ≤ (D10 z.natAbs).length - 1 by omega)
  unfold Td at h
  omega
theorem digits10z (z : Int) {n : Nat} (h : Td n z) (hn : n ≤ 400000) (k : Nat) (hk : 3 * n + 4 < k) : dowelref01_digits.f k (S (itx z)) = some (D10 z.natAbs) := by
  have h1 := itx_len z
  have h2 := Td_len h
  rw [digits10 _ (by omega) k (by omega), dl_itx]
theorem S_toList (l : List UInt8) : (S l).toList = l := by exact Go.ByteArray.toList_mk l
theorem itx_head (z : Int) (h : z ≠ 0) : ∃ b l, itx z = b :: l ∧ (z < 0 → b = 45) ∧ (0 < z → b ≠ 45) ∧ itx z ≠ [48] := by
  have hne : D10 z.natAbs ≠ [] := fun e => h (by have := (D10_nil _).1 e; omega)
  unfold itx txs
  rw [if_neg hne]
  rcases snoc_cases (D10 z.natAbs) with e | ⟨m, x, e⟩
  · exact absurd e hne
  · have hd : Dg 10 (m ++ [x]) := e ▸ D10_Dg _
    have ht : Tr (m ++ [x]) := e ▸ D10_Tr _
    have hx : x ≠ 0 := by
      rcases ht with h | ⟨m', x', h, hx⟩
      · simp at h
      · have := List.append_inj_right' h rfl
        simp at this
        rwa [this]
    have hb := byte_digit (Dg_cons.1 (Dg_append.1 hd).2).1
    have h0 := (Dg_cons.1 (Dg_append.1 hd).2).1
    rw [e]
    have et : txd (m ++ [x]) = UInt8.ofNat (48 + x.toNat) :: txd m := by simp [txd]
    rw [et]
    by_cases c : z < 0
    · refine ⟨45, UInt8.ofNat (48 + x.toNat) :: txd m, by simp [c], fun _ => rfl, fun h => by omega, by simp [c]⟩
    · refine ⟨UInt8.ofNat (48 + x.toNat), txd m, by rw [show decide (z < 0) = false by simpa using c]; rfl, fun h => absurd h c, fun _ e2 => ?_, ?_⟩
      · rw [e2] at hb; have : (45 : UInt8).toNat = 45 := rfl; omega
      · simp only [c, decide_false, Bool.false_eq_true, if_false, List.nil_append]
        intro e2
        injection e2 with e2 _
        rw [e2] at hb
        have : (48 : UInt8).toNat = 48 := rfl
        omega
theorem sign10 (z : Int) : dowelref01_Sign.f (S (itx z)) = some (cmp z 0) := by
  unfold dowelref01_Sign.f
  rw [S_toList]
  by_cases h : z = 0
  · subst h; rw [itx_zero, if_pos rfl, cmp_eq]
  · obtain ⟨b, l, e, h1, h2, h3⟩ := itx_head z h
    rw [if_neg h3, e, S_size, if_pos (by simp)]
    have hb : bt (S (b :: l)) 0 = (b.toNat : Int) := bt_S (b :: l) 0 (by simp)
    rw [hb]
    by_cases c : z < 0
    · rw [h1 c, if_pos (show ((45 : UInt8).toNat : Int) = 45 from rfl), cmp_lt c]
    · rw [if_neg, cmp_gt (by omega)]
      intro e2
      exact h2 (by omega) (by apply UInt8.toNat_inj.1; simpa using (by omega : b.toNat = 45))
end Go.Proofs.YtapckjeedekphaaGreatDoor

namespace Go.Proofs.YtapckjeedekphaaGreatDoor.PR
open Go.RowKit Go.Proofs.YtapckjeedekphaaGreatDoorW.PrintWords Go.Proofs.YtapckjeedekphaaGreatDoorW.PrintLast Go.Proofs.YtapckjeedekphaaGreatDoorW.PrintMore
set_option linter.unusedVariables false
set_option linter.unusedSimpArgs false

mutual
def dowelref01_DivMod.l0 : Nat → ByteArray → ByteArray → List Int → List Int → List Int → List Int → Int → Option (ByteArray × ByteArray)
  | 0, _, _, _, _, _, _, _ => none
  | k + 1, x0, x1, x6, x7, x8, x9, x10 => if x10 ≥ 0 then (if 0 ≤ x10 then (if x10 < (x6.length : Int) then ((some (([rd x6 x10] : List Int) : List Int)).bind fun y449 => (if y449.length + x8.length < 17592186044416 then ((dowelref01_trim.f k (y449 ++ x8)).bind fun t455 => (dowelref01_DivMod.l1 k x0 x1 x6 x7 t455 x9 x10)) else (none))) else (none)) else (none)) else ((dowelref01_Sign.f x0).bind fun t464 => ((dowelref01_Sign.f x1).bind fun t465 => ((dowelref01_text.f k (decide ((wrap64 (t464 * t465)) < 0)) x9).bind fun t466 => ((dowelref01_Sign.f x0).bind fun t467 => ((dowelref01_text.f k (decide (t467 < 0)) x8).bind fun t468 => (if t468.toList = ([48] : List UInt8) then (dowelref01_DivMod.j2 k x1 t466 t468 false) else ((dowelref01_Sign.f t468).bind fun t469 => ((dowelref01_Sign.f x1).bind fun t470 => (dowelref01_DivMod.j2 k x1 t466 t468 (t469 != t470))))))))))
def dowelref01_DivMod.l1 : Nat → ByteArray → ByteArray → List Int → List Int → List Int → List Int → Int → Option (ByteArray × ByteArray)
  | 0, _, _, _, _, _, _, _ => none
  | k + 1, x0, x1, x6, x7, x8, x9, x10 => (dowelref01_order.f k x8 x7).bind fun t458 => (if t458 ≥ 0 then ((dowelref01_minus.f k x8 x7).bind fun t459 => (if 0 ≤ x10 then (if x10 < (x9.length : Int) then (dowelref01_DivMod.l1 k x0 x1 x6 x7 t459 (x9.set (x10 : Int).toNat (wrap64 ((rd x9 x10) + 1))) x10) else (none)) else (none))) else (dowelref01_DivMod.l0 k x0 x1 x6 x7 x8 x9 (wrap64 (x10 - 1))))
def dowelref01_DivMod.j2 : Nat → ByteArray → ByteArray → ByteArray → Bool → Option (ByteArray × ByteArray)
  | 0, _, _, _, _ => none
  | k + 1, x1, x4, x5, x67 => if x67 = true then ((dowelref01_Sub.f k x4 (⟨#[49]⟩ : ByteArray)).bind fun t471 => ((dowelref01_Add.f k x5 x1).bind fun t472 => (some (t471, t472)))) else (some (x4, x5))
end
def dowelref01_DivMod.f (k : Nat) (a0 : ByteArray) (a1 : ByteArray) : Option (ByteArray × ByteArray) := (dowelref01_digits.f k a0).bind fun t439 => ((dowelref01_digits.f k a1).bind fun t442 => (if 0 ≤ (t439.length : Int) then (if ((t439.length : Int) : Int).toNat ≤ 35184372088832 then (dowelref01_DivMod.l0 k a0 a1 t439 t442 ([] : List Int) (List.replicate ((t439.length : Int) : Int).toNat 0) (wrap64 ((t439.length : Int) - 1))) else (none)) else (none)))
set_option maxHeartbeats 8000000 in
set_option maxRecDepth 100000 in
theorem dowelref01_DivMod.calls (k : Nat) (a0 : ByteArray) (a1 : ByteArray) (r1 : ByteArray) (r2 : ByteArray) (w : World) (h : dowelref01_DivMod.f k a0 a1 = some (r1, r2)) :
    Calls Tryz.prog 129 #[.string a0, .string a1] w fun e w' => e = .returned (.tuple #[.string r1, .string r2]) ∧ Below w.heap.size w w' := by
  have HB := Aside0.mk (Below.refl w.heap.size w)
  have H : ((dowelref01_digits.f k a0).bind fun t439 => ((dowelref01_digits.f k a1).bind fun t442 => (if 0 ≤ (t439.length : Int) then (if ((t439.length : Int) : Int).toNat ≤ 35184372088832 then (dowelref01_DivMod.l0 k a0 a1 t439 t442 ([] : List Int) (List.replicate ((t439.length : Int) : Int).toNat 0) (wrap64 ((t439.length : Int) - 1))) else (none)) else (none)))) = some (r1, r2) := h
  clear h
  replace H := Option.bind_eq_some_iff.mp H
  obtain ⟨t439, A30, H⟩ := H
  replace H : ((dowelref01_digits.f k a1).bind fun t442 => (if 0 ≤ (t439.length : Int) then (if ((t439.length : Int) : Int).toNat ≤ 35184372088832 then (dowelref01_DivMod.l0 k a0 a1 t439 t442 ([] : List Int) (List.replicate ((t439.length : Int) : Int).toNat 0) (wrap64 ((t439.length : Int) - 1))) else (none)) else (none))) = some (r1, r2) := H
  have A3 := Aside0.mk A30
  clear A30
  replace H := Option.bind_eq_some_iff.mp H
  obtain ⟨t442, A40, H⟩ := H
  replace H : (if 0 ≤ (t439.length : Int) then (if ((t439.length : Int) : Int).toNat ≤ 35184372088832 then (dowelref01_DivMod.l0 k a0 a1 t439 t442 ([] : List Int) (List.replicate ((t439.length : Int) : Int).toNat 0) (wrap64 ((t439.length : Int) - 1))) else (none)) else (none)) = some (r1, r2) := H
  have A4 := Aside0.mk A40
  clear A40
  by_cases c5 : 0 ≤ (t439.length : Int)
  · rw [if_pos c5] at H
    have c5b0 := eq_true c5
    have c5b1 : decide (0 ≤ (t439.length : Int)) = true := decide_eq_true c5
    clear c5
    by_cases c6 : ((t439.length : Int) : Int).toNat ≤ 35184372088832
    · rw [if_pos c6] at H
      have c6b0 := eq_true c6
      have c6b1 : decide (((t439.length : Int) : Int).toNat ≤ 35184372088832) = true := decide_eq_true c6
      clear c6
      obtain ⟨y445, hy445⟩ : ∃ y_ : List Int, y_ = (List.replicate ((t439.length : Int) : Int).toNat 0) := ⟨_, rfl⟩
      replace H : (dowelref01_DivMod.l0 k a0 a1 t439 t442 ([] : List Int) y445 (wrap64 ((t439.length : Int) - 1))) = some (r1, r2) := by first | (rw [hy445]; with_reducible exact H) | (have H2_ := (Option.bind_some _ _).symm.trans H; rw [hy445]; with_reducible exact H2_) | (have H2_ := (Option.bind_some _ _).symm.trans H; with_reducible exact H2_) | with_reducible exact H | (rw [hy445]; exact H) | exact H
      have Ny445 := Aside0.mk hy445
      clear hy445
      have H' := Aside0.mk H
      clear H
      go_enter Tryz.func129, Tryz.ntmps129
      go_wp2_with (first | ((with_reducible refine gate_callee (f := 154) rfl ?_); refine goesL_ (some 12) rfl rfl Tryz.func154 (by kernel_rfl) rfl #[.string a0] rfl (by (try simp only [List.map_toArray, List.map_cons, List.map_nil]); first | done | rfl | (simp only [List.length_drop, List.length_take]; rfl)) ?_; (with_reducible refine (dowelref01_digits.calls k a0 t439 _ A3.out).mono ?_); rintro e w7 ⟨v440, rfl, ho0, hb⟩; refine ⟨_, rfl, ?_⟩; have n0_ := Aside0.mk (Kd.R_lower ho0 (below_size (by repeat (first | (with_reducible first | exact HB.out | apply below_alloc | apply pw_below_drewN | apply below_drew1) | exact HB.out)))); have n1_ := Aside0.mk (below_step (by repeat (first | (with_reducible first | exact HB.out | apply below_alloc | apply pw_below_drewN | apply below_drew1) | exact HB.out)) hb); clear HB; have HO441 := n0_; have HB := n1_; clear n0_ n1_; (try clear hb); (try clear hb2); (try clear hk); (try clear hi); (try clear ho0)) | ((with_reducible refine gate_callee (f := 154) rfl ?_); refine goesL_ (some 14) rfl rfl Tryz.func154 (by kernel_rfl) rfl #[.string a1] rfl (by (try simp only [List.map_toArray, List.map_cons, List.map_nil]); first | done | rfl | (simp only [List.length_drop, List.length_take]; rfl)) ?_; (with_reducible refine (dowelref01_digits.calls k a1 t442 _ A4.out).mono ?_); rintro e w8 ⟨v443, rfl, ho0, hb⟩; refine ⟨_, rfl, ?_⟩; have n0_ := Aside0.mk (Kd.R_elder' (by (with_reducible repeat (first | apply Kd.R_alloc | apply Kd.R_drewN | apply Kd.R_drew)); exact HO441.out) (Kd.R_base ho0) hb); have n1_ := Aside0.mk (Kd.R_lower (Kd.R_new' ho0 (Kd.R_lt (by (with_reducible repeat (first | apply Kd.R_alloc | apply Kd.R_drewN | apply Kd.R_drew)); exact HO441.out))) (below_size (by repeat (first | (with_reducible first | exact HB.out | apply below_alloc | apply pw_below_drewN | apply below_drew1) | exact HB.out)))); have n2_ := Aside0.mk (below_step (by repeat (first | (with_reducible first | exact HB.out | apply below_alloc | apply pw_below_drewN | apply below_drew1) | exact HB.out)) hb); clear HO441; clear HB; have HO441 := n0_; have HO444 := n1_; have HB := n2_; clear n0_ n1_ n2_; (try clear hb); (try clear hb2); (try clear hk); (try clear hi); (try clear ho0); obtain ⟨Ao9, co9, eo9⟩ := Kd.R_slice HO441.out; subst eo9) | ((with_reducible refine gate_dst (N := 17) rfl ?_); refine Kd.R_make (Kd.int .i64) _ 3 rfl (N := 17) rfl 165 _ _ rfl (t439.length : Int) rfl rfl Tryz.underlying165 (.int .i64 0) 8 info3 rfl (by decide) (by omega) 0 (ok := fun _ => True) (okp := fun _ => True) rfl (fun _ hk => hk) trivial (of_decide_eq_true (by first | (with_reducible assumption) | assumption)) (Nat.le_trans (Nat.mul_le_mul_right _ (of_decide_eq_true (by first | (with_reducible assumption) | assumption) : (t439.length : Int).toNat ≤ 35184372088832)) (by omega)) (Below.refl _ _) (Nat.le_refl _) ?_; intro v446 w10 ho11 hb hg_ hnew_; clear hg_ hnew_; (first | rw [← Ny445.out] at ho11 | (simp only [Int.reduceToNat] at ho11; rw [← Ny445.out] at ho11)); have n0_ := Aside0.mk (Kd.R_elder' (by (with_reducible repeat (first | apply Kd.R_alloc | apply Kd.R_drewN | apply Kd.R_drew)); exact HO441.out) (Kd.R_base ho11) hb); have n1_ := Aside0.mk (Kd.R_elder' (by (with_reducible repeat (first | apply Kd.R_alloc | apply Kd.R_drewN | apply Kd.R_drew)); exact HO444.out) (Kd.R_base ho11) hb); have n2_ := Aside0.mk (Kd.R_lower (Kd.R_new' (Kd.R_new' ho11 (Kd.R_lt (by (with_reducible repeat (first | apply Kd.R_alloc | apply Kd.R_drewN | apply Kd.R_drew)); exact HO441.out))) (Kd.R_lt (by (with_reducible repeat (first | apply Kd.R_alloc | apply Kd.R_drewN | apply Kd.R_drew)); exact HO444.out))) (below_size (by repeat (first | (with_reducible first | exact HB.out | apply below_alloc | apply pw_below_drewN | apply below_drew1) | exact HB.out)))); have n3_ := Aside0.mk (below_step (by repeat (first | (with_reducible first | exact HB.out | apply below_alloc | apply pw_below_drewN | apply below_drew1) | exact HB.out)) hb); clear HO441; clear HO444; clear HB; have HO441 := n0_; have HO444 := n1_; have HO447 := n2_; have HB := n3_; clear n0_ n1_ n2_ n3_; clear hb ho11))
      go_loopg [8, 10] k (fun kq v8 v10 w' => ∃ (x8_1 : List Int) (x9_1 : List Int) (x10_1 : Int), v10 = .int .i64 x10_1 ∧ Aside0 (dowelref01_DivMod.l0 kq a0 a1 t439 t442 x8_1 x9_1 x10_1 = some (r1, r2)) ∧ Aside0 (kq ≤ k) ∧ Aside0 (Kd.R (Kd.int .i64) 3 w' w.heap.size (fun k_ => some k_ ≠ (v443 : Value).ownBlock ∧ some k_ ≠ (v8 : Value).ownBlock ∧ some k_ ≠ (v446 : Value).ownBlock) (.slice Ao9 t439.length co9) t439) ∧ Aside0 (Kd.R (Kd.int .i64) 3 w' w.heap.size (fun k_ => some k_ ≠ ((.slice Ao9 t439.length co9) : Value).ownBlock ∧ some k_ ≠ (v8 : Value).ownBlock ∧ some k_ ≠ (v446 : Value).ownBlock) v443 t442) ∧ Aside0 (Kd.R (Kd.int .i64) 3 w' w.heap.size (fun k_ => some k_ ≠ ((.slice Ao9 t439.length co9) : Value).ownBlock ∧ some k_ ≠ (v443 : Value).ownBlock ∧ some k_ ≠ (v446 : Value).ownBlock) v8 x8_1) ∧ Aside0 (Kd.R (Kd.int .i64) 3 w' w.heap.size (fun k_ => some k_ ≠ ((.slice Ao9 t439.length co9) : Value).ownBlock ∧ some k_ ≠ (v443 : Value).ownBlock ∧ some k_ ≠ (v8 : Value).ownBlock) v446 x9_1) ∧ Aside0 (Below w.heap.size w w'))
      case atStart => exact ⟨(([] : List Int)), (y445), (wrap64 ((t439.length : Int) - 1)), (by first | rfl | (simp; done) | (simp [*]; done)), H', ⟨Nat.le_refl _⟩, ⟨by (with_reducible repeat (first | apply Kd.R_alloc | apply Kd.R_drewN | apply Kd.R_drew)); exact Kd.R_mono HO441.out (fun _ hk => ⟨hk.1.2, ⟨(by simp [Value.ownBlock]), hk.2⟩⟩)⟩, ⟨by (with_reducible repeat (first | apply Kd.R_alloc | apply Kd.R_drewN | apply Kd.R_drew)); exact Kd.R_mono HO444.out (fun _ hk => ⟨hk.1.2, ⟨(by simp [Value.ownBlock]), hk.2⟩⟩)⟩, ⟨by first | exact Kd.R_nil _ _ _ _ _ | exact Kd.N_nil _ _ _ _ _ | exact Kd.V_nil _ _ _ _ _ | exact Kd.Q_nil _ _ _ _ _ | exact Kd.S_nil _ _ _ _ _⟩, ⟨by (with_reducible repeat (first | apply Kd.R_alloc | apply Kd.R_drewN | apply Kd.R_drew)); exact Kd.R_mono HO447.out (fun _ hk => ⟨hk.1.2, ⟨hk.2, (by simp [Value.ownBlock])⟩⟩)⟩, ⟨by repeat (first | (with_reducible first | exact HB.out | apply below_alloc | apply pw_below_drewN | apply below_drew1) | exact HB.out)⟩⟩
      case round =>
        clear H'
        try clear c1
        try clear p2
        try clear c5
        try clear c5b0
        try clear c5b1
        try clear c6
        try clear c6b0
        try clear c6b1
        try clear p6
        obtain ⟨x8_1, x9_1, x10_1, rfl, HA, HK1, HO_6, HO_7, HO_8, HO_9, HB⟩ := hrel
        cases gk with
        | zero => exact absurd HA.out (by simp [dowelref01_DivMod.l0])
        | succ k1 =>
          have H := HA.out
          clear HA
          simp only [dowelref01_DivMod.l0] at H
          by_cases c12 : x10_1 ≥ 0
          · rw [if_pos c12] at H
            have c12b0 : decide (0 ≤ x10_1) = true := decide_eq_true c12
            clear c12
            by_cases c13 : 0 ≤ x10_1
            · rw [if_pos c13] at H
              have c13b0 : decide (0 ≤ x10_1) = true := decide_eq_true c13
              clear c13
              by_cases c14 : x10_1 < (t439.length : Int)
              · rw [if_pos c14] at H
                have c14b0 : decide (x10_1 < (t439.length : Int)) = true := decide_eq_true c14
                clear c14
                obtain ⟨y449, hy449⟩ : ∃ y_ : List Int, y_ = (([rd t439 x10_1] : List Int)) := ⟨_, rfl⟩
                replace H : (if y449.length + x8_1.length < 17592186044416 then ((dowelref01_trim.f k1 (y449 ++ x8_1)).bind fun t455 => (dowelref01_DivMod.l1 k1 a0 a1 t439 t442 t455 x9_1 x10_1)) else (none)) = some (r1, r2) := by first | (rw [hy449]; with_reducible exact H) | (have H2_ := (Option.bind_some _ _).symm.trans H; rw [hy449]; with_reducible exact H2_) | (have H2_ := (Option.bind_some _ _).symm.trans H; with_reducible exact H2_) | with_reducible exact H | (rw [hy449]; exact H) | exact H
                have Ny449 := Aside0.mk hy449
                clear hy449
                by_cases c15 : y449.length + x8_1.length < 17592186044416
                · rw [if_pos c15] at H
                  have LMc15 := Aside0.mk c15
                  clear c15
                  obtain ⟨y452, hy452⟩ : ∃ y_ : List Int, y_ = (y449 ++ x8_1) := ⟨_, rfl⟩
                  replace H : ((dowelref01_trim.f k1 y452).bind fun t455 => (dowelref01_DivMod.l1 k1 a0 a1 t439 t442 t455 x9_1 x10_1)) = some (r1, r2) := by first | (rw [hy452]; with_reducible exact H) | (have H2_ := (Option.bind_some _ _).symm.trans H; rw [hy452]; with_reducible exact H2_) | (have H2_ := (Option.bind_some _ _).symm.trans H; with_reducible exact H2_) | with_reducible exact H | (rw [hy452]; exact H) | exact H
                  have Ny452 := Aside0.mk hy452
                  clear hy452
                  replace H := Option.bind_eq_some_iff.mp H
                  obtain ⟨t455, A160, H⟩ := H
                  replace H : (dowelref01_DivMod.l1 k1 a0 a1 t439 t442 t455 x9_1 x10_1) = some (r1, r2) := H
                  have A16 := Aside0.mk A160
                  clear A160
                  have H' := Aside0.mk H
                  clear H
                  have p448 : 0 ≤ (x10_1 : Int) := of_decide_eq_true (by first | (with_reducible assumption) | assumption)
                  have q448 : x10_1 < (t439.length : Int) := of_decide_eq_true (by first | (with_reducible assumption) | assumption)
                  obtain ⟨ad448, e448, hx448_0⟩ := Kd.at_int (Kd.R_reads' HO_6.out).2.2 x10_1 p448 q448
                  cases e448
                  replace p448 := eq_true p448
                  replace q448 := eq_true q448
                  go_wp2_with (first | ((with_reducible refine gate_dst (N := 29) rfl ?_); refine Kd.R_lit (Kd.int .i64) _ 3 ?hg (N := 29) ?hd (xs := ([rd t439 x10_1] : List Int)) (inner := [.int .i64 (rd t439 x10_1)]) (ok := fun _ => True) (okp := fun _ => True) ?hr ?hp (fun _ hk => hk) trivial (Below.refl _ _) (Nat.le_refl _) (by simp) ?_; (case hd => rfl); (case hg => rfl); (case hr => first | (go_simp; done) | (go_simp; rfl)); (case hp => exact (Reps.one (show Kd.M (Kd.int .i64) _ _ _ (rd t439 x10_1) [.int .i64 (rd t439 x10_1)] from rfl) (Reps.none _ _))); intro v450 w17 ho18 hb hg_ hnew_; clear hg_ hnew_; (first | rw [← Ny449.out] at ho18 | (simp only [Int.reduceToNat] at ho18; rw [← Ny449.out] at ho18)); have n0_ := Aside0.mk (Kd.R_elder' (by (with_reducible repeat (first | apply Kd.R_alloc | apply Kd.R_drewN | apply Kd.R_drew)); exact HO_6.out) (Kd.R_base ho18) hb); have n1_ := Aside0.mk (Kd.R_elder' (by (with_reducible repeat (first | apply Kd.R_alloc | apply Kd.R_drewN | apply Kd.R_drew)); exact HO_7.out) (Kd.R_base ho18) hb); have n2_ := Aside0.mk (Kd.R_elder' (by (with_reducible repeat (first | apply Kd.R_alloc | apply Kd.R_drewN | apply Kd.R_drew)); exact HO_8.out) (Kd.R_base ho18) hb); have n3_ := Aside0.mk (Kd.R_elder' (by (with_reducible repeat (first | apply Kd.R_alloc | apply Kd.R_drewN | apply Kd.R_drew)); exact HO_9.out) (Kd.R_base ho18) hb); have n4_ := Aside0.mk (Kd.R_lower (Kd.R_new' (Kd.R_new' (Kd.R_new' (Kd.R_new' ho18 (Kd.R_lt (by (with_reducible repeat (first | apply Kd.R_alloc | apply Kd.R_drewN | apply Kd.R_drew)); exact HO_6.out))) (Kd.R_lt (by (with_reducible repeat (first | apply Kd.R_alloc | apply Kd.R_drewN | apply Kd.R_drew)); exact HO_7.out))) (Kd.R_lt (by (with_reducible repeat (first | apply Kd.R_alloc | apply Kd.R_drewN | apply Kd.R_drew)); exact HO_8.out))) (Kd.R_lt (by (with_reducible repeat (first | apply Kd.R_alloc | apply Kd.R_drewN | apply Kd.R_drew)); exact HO_9.out))) (below_size (by repeat (first | (with_reducible first | exact HB.out | apply below_alloc | apply pw_below_drewN | apply below_drew1) | exact HB.out)))); have n5_ := Aside0.mk (below_step (by repeat (first | (with_reducible first | exact HB.out | apply below_alloc | apply pw_below_drewN | apply below_drew1) | exact HB.out)) hb); clear HO_6; clear HO_7; clear HO_8; clear HO_9; clear HB; have HO_6 := n0_; have HO_7 := n1_; have HO_8 := n2_; have HO_9 := n3_; have HO451 := n4_; have HB := n5_; clear n0_ n1_ n2_ n3_ n4_ n5_; clear hb ho18; obtain ⟨Ao20, co20, eo20⟩ := Kd.R_slice HO_8.out; subst eo20) | ((with_reducible refine gate_builtin (b := .append) (xs := #[.tmp 29, .tmp 30]) rfl ?_); at_builtin; refine Kd.R_append_rows (Kd.int .i64) (w0 := w) w.heap.size rfl (.tmp 29) (.tmp 30) 165 3 (.int .i64 0) 8 rfl Tryz.underlying165 info3 rfl (by decide) (by omega) v450 y449 x8_1 _ _ _ (fun k_ => some k_ ≠ (.slice (some ad448) t439.length co9 : Value).ownBlock ∧ some k_ ≠ (v443 : Value).ownBlock ∧ some k_ ≠ (.slice Ao20 x8_1.length co20 : Value).ownBlock ∧ some k_ ≠ (v446 : Value).ownBlock) (fun _ => False) rfl rfl ?aO ?aR (fun _ _ h => h) (fun _ h => h.elim) ?aF ?aB ?aS ?aL ?_; (case aR => repeat (first | exact (Kd.R_reads' HO_8.out).2.2 | (with_reducible refine Kd.C_alloc ?_ _) | (with_reducible refine Kd.C_drewN ?_ _) | (with_reducible refine Kd.C_drew ?_))); (case aB => exact (by repeat (first | (with_reducible first | exact HB.out | apply below_alloc | apply pw_below_drewN | apply below_drew1) | exact HB.out))); (case aF => exact (fun k_ hk => ⟨Kd.fresh' (Kd.R_lt (by (with_reducible repeat (first | apply Kd.R_alloc | apply Kd.R_drewN | apply Kd.R_drew)); exact HO_6.out)) k_ hk, Kd.fresh' (Kd.R_lt (by (with_reducible repeat (first | apply Kd.R_alloc | apply Kd.R_drewN | apply Kd.R_drew)); exact HO_7.out)) k_ hk, Kd.fresh' (Kd.R_lt (by (with_reducible repeat (first | apply Kd.R_alloc | apply Kd.R_drewN | apply Kd.R_drew)); exact HO_8.out)) k_ hk, Kd.fresh' (Kd.R_lt (by (with_reducible repeat (first | apply Kd.R_alloc | apply Kd.R_drewN | apply Kd.R_drew)); exact HO_9.out)) k_ hk⟩)); (case aO => exact (by (with_reducible repeat (first | apply Kd.R_alloc | apply Kd.R_drewN | apply Kd.R_drew)); exact Kd.R_mono HO451.out (fun _ hk => ⟨hk.1.1.1.2, ⟨hk.1.1.2, ⟨hk.1.2, hk.2⟩⟩⟩))); (case aS => exact (below_size (by repeat (first | (with_reducible first | exact HB.out | apply below_alloc | apply pw_below_drewN | apply below_drew1) | exact HB.out)))); (case aL => have := LMc15.out; omega); intro v453 w19 ho hb hg hat; rw [← Ny452.out] at ho; have n0_ := Aside0.mk (Kd.R_after (ok := (fun k_ => some k_ ≠ (v443 : Value).ownBlock ∧ some k_ ≠ (.slice Ao20 x8_1.length co20 : Value).ownBlock ∧ some k_ ≠ (v446 : Value).ownBlock)) (by (with_reducible repeat (first | apply Kd.R_alloc | apply Kd.R_drewN | apply Kd.R_drew)); exact HO_6.out) hg hat); have n1_ := Aside0.mk (Kd.R_after (ok := (fun k_ => some k_ ≠ (.slice (some ad448) t439.length co9 : Value).ownBlock ∧ some k_ ≠ (.slice Ao20 x8_1.length co20 : Value).ownBlock ∧ some k_ ≠ (v446 : Value).ownBlock)) (by (with_reducible repeat (first | apply Kd.R_alloc | apply Kd.R_drewN | apply Kd.R_drew)); exact HO_7.out) hg hat); have n2_ := Aside0.mk (Kd.R_after (ok := (fun k_ => some k_ ≠ (.slice (some ad448) t439.length co9 : Value).ownBlock ∧ some k_ ≠ (v443 : Value).ownBlock ∧ some k_ ≠ (v446 : Value).ownBlock)) (by (with_reducible repeat (first | apply Kd.R_alloc | apply Kd.R_drewN | apply Kd.R_drew)); exact HO_8.out) hg hat); have n3_ := Aside0.mk (Kd.R_after (ok := (fun k_ => some k_ ≠ (.slice (some ad448) t439.length co9 : Value).ownBlock ∧ some k_ ≠ (v443 : Value).ownBlock ∧ some k_ ≠ (.slice Ao20 x8_1.length co20 : Value).ownBlock)) (by (with_reducible repeat (first | apply Kd.R_alloc | apply Kd.R_drewN | apply Kd.R_drew)); exact HO_9.out) hg hat); have n4_ := Aside0.mk (hb); have n5_ := Aside0.mk (ho); clear HO_6; clear HO_7; clear HO_8; clear HO_9; clear HB; clear HO451; have HO_6 := n0_; have HO_7 := n1_; have HO_8 := n2_; have HO_9 := n3_; have HB := n4_; have HO454 := n5_; clear n0_ n1_ n2_ n3_ n4_ n5_; clear ho hb hg hat; obtain ⟨Ao21, co21, eo21⟩ := Kd.R_slice HO454.out; subst eo21) | ((with_reducible refine gate_callee (f := 166) rfl ?_); refine goesL_ (some 32) rfl rfl Tryz.func166 (by kernel_rfl) rfl #[.slice Ao21 y452.length co21] rfl (by (try simp only [List.map_toArray, List.map_cons, List.map_nil]); first | done | rfl | (simp only [List.length_drop, List.length_take]; rfl)) ?_; (with_reducible refine (dowelref01_trim.calls k1 (fun k_ => some k_ = (.slice Ao21 y452.length co21 : Value).ownBlock) (.slice Ao21 y452.length co21) y452 t455 w _ ?side1 ?side2 A16.out).mono ?_); (case side1 => repeat (first | (with_reducible first | exact HB.out | apply below_alloc | apply pw_below_drewN | apply below_drew1) | exact HB.out)); (case side2 => exact Kd.R_tight rfl HO454.out); rintro e w22 ⟨v456, rfl, ho0, hb, hkp⟩; refine ⟨_, rfl, ?_⟩; have n0_ := Aside0.mk (Kd.R_mono (ok' := fun k_ => some k_ ≠ (v443 : Value).ownBlock ∧ some k_ ≠ (.slice Ao20 x8_1.length co20 : Value).ownBlock ∧ some k_ ≠ (v446 : Value).ownBlock ∧ some k_ ≠ (v456 : Value).ownBlock) (Kd.R_keptB (HO_6.out) hkp (fun k_ hk_ hs_ => (hk_.2) hs_)) (fun k_ hk_ => ⟨hk_.1.1.1, hk_.1.1.2.1, hk_.1.1.2.2, fun e_ => Or.elim (ho0.1 k_ e_.symm) (fun hs_ => hk_.2.1 hs_) (fun hn_ => Nat.not_le.2 hk_.2.2 hn_)⟩)); have n1_ := Aside0.mk (Kd.R_mono (ok' := fun k_ => some k_ ≠ (.slice (some ad448) t439.length co9 : Value).ownBlock ∧ some k_ ≠ (.slice Ao20 x8_1.length co20 : Value).ownBlock ∧ some k_ ≠ (v446 : Value).ownBlock ∧ some k_ ≠ (v456 : Value).ownBlock) (Kd.R_keptB (HO_7.out) hkp (fun k_ hk_ hs_ => (hk_.2) hs_)) (fun k_ hk_ => ⟨hk_.1.1.1, hk_.1.1.2.1, hk_.1.1.2.2, fun e_ => Or.elim (ho0.1 k_ e_.symm) (fun hs_ => hk_.2.1 hs_) (fun hn_ => Nat.not_le.2 hk_.2.2 hn_)⟩)); have n2_ := Aside0.mk (Kd.R_mono (ok' := fun k_ => some k_ ≠ (.slice (some ad448) t439.length co9 : Value).ownBlock ∧ some k_ ≠ (v443 : Value).ownBlock ∧ some k_ ≠ (v446 : Value).ownBlock ∧ some k_ ≠ (v456 : Value).ownBlock) (Kd.R_keptB (HO_8.out) hkp (fun k_ hk_ hs_ => (hk_.2) hs_)) (fun k_ hk_ => ⟨hk_.1.1.1, hk_.1.1.2.1, hk_.1.1.2.2, fun e_ => Or.elim (ho0.1 k_ e_.symm) (fun hs_ => hk_.2.1 hs_) (fun hn_ => Nat.not_le.2 hk_.2.2 hn_)⟩)); have n3_ := Aside0.mk (Kd.R_mono (ok' := fun k_ => some k_ ≠ (.slice (some ad448) t439.length co9 : Value).ownBlock ∧ some k_ ≠ (v443 : Value).ownBlock ∧ some k_ ≠ (.slice Ao20 x8_1.length co20 : Value).ownBlock ∧ some k_ ≠ (v456 : Value).ownBlock) (Kd.R_keptB (HO_9.out) hkp (fun k_ hk_ hs_ => (hk_.2) hs_)) (fun k_ hk_ => ⟨hk_.1.1.1, hk_.1.1.2.1, hk_.1.1.2.2, fun e_ => Or.elim (ho0.1 k_ e_.symm) (fun hs_ => hk_.2.1 hs_) (fun hn_ => Nat.not_le.2 hk_.2.2 hn_)⟩)); have n4_ := Aside0.mk (Kd.R_mono (ok' := fun k_ => some k_ ≠ (.slice (some ad448) t439.length co9 : Value).ownBlock ∧ some k_ ≠ (v443 : Value).ownBlock ∧ some k_ ≠ (.slice Ao20 x8_1.length co20 : Value).ownBlock ∧ some k_ ≠ (v446 : Value).ownBlock) ho0 (fun k_ hk_ => ⟨Or.elim hk_ (fun hs_ => fun e_ => (((HO_6.out).1 k_ e_.symm).2) hs_) (fun hn_ => (Kd.fresh' (Kd.R_lt (by (with_reducible repeat (first | apply Kd.R_alloc | apply Kd.R_drewN | apply Kd.R_drew)); exact HO_6.out)) k_ hn_)), Or.elim hk_ (fun hs_ => fun e_ => (((HO_7.out).1 k_ e_.symm).2) hs_) (fun hn_ => (Kd.fresh' (Kd.R_lt (by (with_reducible repeat (first | apply Kd.R_alloc | apply Kd.R_drewN | apply Kd.R_drew)); exact HO_7.out)) k_ hn_)), Or.elim hk_ (fun hs_ => fun e_ => (((HO_8.out).1 k_ e_.symm).2) hs_) (fun hn_ => (Kd.fresh' (Kd.R_lt (by (with_reducible repeat (first | apply Kd.R_alloc | apply Kd.R_drewN | apply Kd.R_drew)); exact HO_8.out)) k_ hn_)), Or.elim hk_ (fun hs_ => fun e_ => (((HO_9.out).1 k_ e_.symm).2) hs_) (fun hn_ => (Kd.fresh' (Kd.R_lt (by (with_reducible repeat (first | apply Kd.R_alloc | apply Kd.R_drewN | apply Kd.R_drew)); exact HO_9.out)) k_ hn_))⟩)); have n5_ := Aside0.mk (hb); clear HO_6; clear HO_7; clear HO_8; clear HO_9; clear HB; clear HO454; have HO_6 := n0_; have HO_7 := n1_; have HO_8 := n2_; have HO_9 := n3_; have HO457 := n4_; have HB := n5_; clear n0_ n1_ n2_ n3_ n4_ n5_; (try clear hb); (try clear hkp); (try clear ho0)))
                  go_loopg [8] k1 (fun kq v8 w' => ∃ (x8_2 : List Int) (x9_2 : List Int), Aside0 (dowelref01_DivMod.l1 kq a0 a1 t439 t442 x8_2 x9_2 x10_1 = some (r1, r2)) ∧ Aside0 (kq ≤ k1) ∧ Aside0 (Kd.R (Kd.int .i64) 3 w' w.heap.size (fun k_ => some k_ ≠ (v443 : Value).ownBlock ∧ some k_ ≠ (v8 : Value).ownBlock ∧ some k_ ≠ (v446 : Value).ownBlock) (.slice (some ad448) t439.length co9) t439) ∧ Aside0 (Kd.R (Kd.int .i64) 3 w' w.heap.size (fun k_ => some k_ ≠ ((.slice (some ad448) t439.length co9) : Value).ownBlock ∧ some k_ ≠ (v8 : Value).ownBlock ∧ some k_ ≠ (v446 : Value).ownBlock) v443 t442) ∧ Aside0 (Kd.R (Kd.int .i64) 3 w' w.heap.size (fun k_ => some k_ ≠ ((.slice (some ad448) t439.length co9) : Value).ownBlock ∧ some k_ ≠ (v443 : Value).ownBlock ∧ some k_ ≠ (v446 : Value).ownBlock) v8 x8_2) ∧ Aside0 (Kd.R (Kd.int .i64) 3 w' w.heap.size (fun k_ => some k_ ≠ ((.slice (some ad448) t439.length co9) : Value).ownBlock ∧ some k_ ≠ (v443 : Value).ownBlock ∧ some k_ ≠ (v8 : Value).ownBlock) v446 x9_2) ∧ Aside0 (Below w.heap.size w w'))
                  case atStart => exact ⟨(t455), (x9_1), H', ⟨Nat.le_refl _⟩, ⟨by (with_reducible repeat (first | apply Kd.R_alloc | apply Kd.R_drewN | apply Kd.R_drew)); exact Kd.R_mono HO_6.out (fun _ hk => ⟨hk.1, ⟨hk.2.2.2, hk.2.2.1⟩⟩)⟩, ⟨by (with_reducible repeat (first | apply Kd.R_alloc | apply Kd.R_drewN | apply Kd.R_drew)); exact Kd.R_mono HO_7.out (fun _ hk => ⟨hk.1, ⟨hk.2.2.2, hk.2.2.1⟩⟩)⟩, ⟨by (with_reducible repeat (first | apply Kd.R_alloc | apply Kd.R_drewN | apply Kd.R_drew)); exact Kd.R_mono HO457.out (fun _ hk => ⟨hk.1, ⟨hk.2.1, hk.2.2.2⟩⟩)⟩, ⟨by (with_reducible repeat (first | apply Kd.R_alloc | apply Kd.R_drewN | apply Kd.R_drew)); exact Kd.R_mono HO_9.out (fun _ hk => ⟨hk.1, ⟨hk.2.1, hk.2.2.2⟩⟩)⟩, ⟨by repeat (first | (with_reducible first | exact HB.out | apply below_alloc | apply pw_below_drewN | apply below_drew1) | exact HB.out)⟩⟩
                  case round =>
                    clear H'
                    try clear c1
                    try clear p2
                    try clear p4
                    try clear q4
                    try clear hx4
                    try clear c5
                    try clear c5b0
                    try clear c5b1
                    try clear c6
                    try clear c6b0
                    try clear c6b1
                    try clear p6
                    try clear c12
                    try clear c12b0
                    try clear c13
                    try clear c13b0
                    try clear c14
                    try clear c14b0
                    try clear c15
                    try clear c16
                    try clear hx448_0
                    try clear p2
                    try clear p448
                    try clear p6
                    try clear q448
                    obtain ⟨x8_2, x9_2, HA, HK2, HO_6, HO_7, HO_8, HO_9, HB⟩ := hrel
                    cases gk with
                    | zero => exact absurd HA.out (by simp [dowelref01_DivMod.l1])
                    | succ k2 =>
                      have H := HA.out
                      clear HA
                      simp only [dowelref01_DivMod.l1] at H
                      replace H := Option.bind_eq_some_iff.mp H
                      obtain ⟨t458, A230, H⟩ := H
                      replace H : (if t458 ≥ 0 then ((dowelref01_minus.f k2 x8_2 t442).bind fun t459 => (if 0 ≤ x10_1 then (if x10_1 < (x9_2.length : Int) then (dowelref01_DivMod.l1 k2 a0 a1 t439 t442 t459 (x9_2.set (x10_1 : Int).toNat (wrap64 ((rd x9_2 x10_1) + 1))) x10_1) else (none)) else (none))) else (dowelref01_DivMod.l0 k2 a0 a1 t439 t442 x8_2 x9_2 (wrap64 (x10_1 - 1)))) = some (r1, r2) := H
                      have A23 := Aside0.mk A230
                      clear A230
                      by_cases c24 : t458 ≥ 0
                      · rw [if_pos c24] at H
                        have c24b0 : decide (0 ≤ t458) = true := decide_eq_true c24
                        clear c24
                        replace H := Option.bind_eq_some_iff.mp H
                        obtain ⟨t459, A250, H⟩ := H
                        replace H : (if 0 ≤ x10_1 then (if x10_1 < (x9_2.length : Int) then (dowelref01_DivMod.l1 k2 a0 a1 t439 t442 t459 (x9_2.set (x10_1 : Int).toNat (wrap64 ((rd x9_2 x10_1) + 1))) x10_1) else (none)) else (none)) = some (r1, r2) := H
                        have A25 := Aside0.mk A250
                        clear A250
                        by_cases c26 : 0 ≤ x10_1
                        · rw [if_pos c26] at H
                          have c26b0 : decide (0 ≤ x10_1) = true := decide_eq_true c26
                          clear c26
                          by_cases c27 : x10_1 < (x9_2.length : Int)
                          · rw [if_pos c27] at H
                            have c27b0 : decide (x10_1 < (x9_2.length : Int)) = true := decide_eq_true c27
                            clear c27
                            obtain ⟨y463, hy463⟩ : ∃ y_ : List Int, y_ = (x9_2.set (x10_1 : Int).toNat (wrap64 ((rd x9_2 x10_1) + 1))) := ⟨_, rfl⟩
                            replace H : (dowelref01_DivMod.l1 k2 a0 a1 t439 t442 t459 y463 x10_1) = some (r1, r2) := by first | (rw [hy463]; with_reducible exact H) | (have H2_ := (Option.bind_some _ _).symm.trans H; rw [hy463]; with_reducible exact H2_) | (have H2_ := (Option.bind_some _ _).symm.trans H; with_reducible exact H2_) | with_reducible exact H | (rw [hy463]; exact H) | exact H
                            have Ny463 := Aside0.mk hy463
                            clear hy463
                            have H' := Aside0.mk H
                            clear H
                            obtain ⟨Ao29, co29, eo29⟩ := Kd.R_slice HO_8.out
                            subst eo29
                            obtain ⟨Ao30, co30, eo30⟩ := Kd.R_slice HO_7.out
                            subst eo30
                            go_wp2_with (first | ((with_reducible refine gate_callee (f := 153) rfl ?_); refine goesL_ (some 35) rfl rfl Tryz.func153 (by kernel_rfl) rfl #[.slice Ao29 x8_2.length co29, .slice Ao30 t442.length co30] rfl (by (try simp only [List.map_toArray, List.map_cons, List.map_nil]); first | done | rfl | (simp only [List.length_drop, List.length_take]; rfl)) ?_; (with_reducible refine (dowelref01_order.calls k2 _ _ x8_2 _ _ t442 t458 _ ?side1 ?side2 ?side3 ?side4 A23.out).mono ?_); (case side1 => repeat (first | exact (Kd.R_reads' HO_8.out).2.2 | (with_reducible refine Kd.C_alloc ?_ _) | (with_reducible refine Kd.C_drewN ?_ _) | (with_reducible refine Kd.C_drew ?_))); (case side2 => exact (Kd.R_reads' HO_8.out).2.1); (case side3 => repeat (first | exact (Kd.R_reads' HO_7.out).2.2 | (with_reducible refine Kd.C_alloc ?_ _) | (with_reducible refine Kd.C_drewN ?_ _) | (with_reducible refine Kd.C_drew ?_))); (case side4 => exact (Kd.R_reads' HO_7.out).2.1); rintro e w' ⟨rfl, ⟨nd, rfl⟩⟩; refine ⟨_, rfl, ?_⟩; (try (rw [drewN_self wr]; generalize hq_ : World.drewN wr _ = wr; have n0_ : Aside0 (Kd.R (Kd.int .i64) 3 wr w.heap.size (fun k_ => some k_ ≠ (.slice Ao30 t442.length co30 : Value).ownBlock ∧ some k_ ≠ (.slice Ao29 x8_2.length co29 : Value).ownBlock ∧ some k_ ≠ (v446 : Value).ownBlock) (.slice (some ad448) t439.length co9) t439) := ⟨by rw [← hq_]; exact (by (with_reducible repeat (first | apply Kd.R_alloc | apply Kd.R_drewN | apply Kd.R_drew)); exact HO_6.out)⟩; have n1_ : Aside0 (Kd.R (Kd.int .i64) 3 wr w.heap.size (fun k_ => some k_ ≠ (.slice (some ad448) t439.length co9 : Value).ownBlock ∧ some k_ ≠ (.slice Ao29 x8_2.length co29 : Value).ownBlock ∧ some k_ ≠ (v446 : Value).ownBlock) (.slice Ao30 t442.length co30) t442) := ⟨by rw [← hq_]; exact (by (with_reducible repeat (first | apply Kd.R_alloc | apply Kd.R_drewN | apply Kd.R_drew)); exact HO_7.out)⟩; have n2_ : Aside0 (Kd.R (Kd.int .i64) 3 wr w.heap.size (fun k_ => some k_ ≠ (.slice (some ad448) t439.length co9 : Value).ownBlock ∧ some k_ ≠ (.slice Ao30 t442.length co30 : Value).ownBlock ∧ some k_ ≠ (v446 : Value).ownBlock) (.slice Ao29 x8_2.length co29) x8_2) := ⟨by rw [← hq_]; exact (by (with_reducible repeat (first | apply Kd.R_alloc | apply Kd.R_drewN | apply Kd.R_drew)); exact HO_8.out)⟩; have n3_ : Aside0 (Kd.R (Kd.int .i64) 3 wr w.heap.size (fun k_ => some k_ ≠ (.slice (some ad448) t439.length co9 : Value).ownBlock ∧ some k_ ≠ (.slice Ao30 t442.length co30 : Value).ownBlock ∧ some k_ ≠ (.slice Ao29 x8_2.length co29 : Value).ownBlock) v446 x9_2) := ⟨by rw [← hq_]; exact (by (with_reducible repeat (first | apply Kd.R_alloc | apply Kd.R_drewN | apply Kd.R_drew)); exact HO_9.out)⟩; have n4_ : Aside0 (Below w.heap.size w wr) := ⟨by rw [← hq_]; exact (by repeat (first | (with_reducible first | exact HB.out | apply below_alloc | apply pw_below_drewN | apply below_drew1) | exact HB.out))⟩; clear HO_6 HO_7 HO_8 HO_9 HB hq_; have HO_6 := n0_; have HO_7 := n1_; have HO_8 := n2_; have HO_9 := n3_; have HB := n4_; clear n0_ n1_ n2_ n3_ n4_))) | ((with_reducible refine gate_callee (f := 167) rfl ?_); refine goesL_ (some 39) rfl rfl Tryz.func167 (by kernel_rfl) rfl #[.slice Ao29 x8_2.length co29, .slice Ao30 t442.length co30] rfl (by (try simp only [List.map_toArray, List.map_cons, List.map_nil]); first | done | rfl | (simp only [List.length_drop, List.length_take]; rfl)) ?_; (with_reducible refine (dowelref01_minus.calls k2 _ _ x8_2 _ _ t442 t459 _ ?side1 ?side2 ?side3 ?side4 A25.out).mono ?_); (case side1 => repeat (first | exact (Kd.R_reads' HO_8.out).2.2 | (with_reducible refine Kd.C_alloc ?_ _) | (with_reducible refine Kd.C_drewN ?_ _) | (with_reducible refine Kd.C_drew ?_))); (case side2 => exact (Kd.R_reads' HO_8.out).2.1); (case side3 => repeat (first | exact (Kd.R_reads' HO_7.out).2.2 | (with_reducible refine Kd.C_alloc ?_ _) | (with_reducible refine Kd.C_drewN ?_ _) | (with_reducible refine Kd.C_drew ?_))); (case side4 => exact (Kd.R_reads' HO_7.out).2.1); rintro e w31 ⟨v460, rfl, ho0, hb⟩; refine ⟨_, rfl, ?_⟩; have n0_ := Aside0.mk (Kd.R_elder' (by (with_reducible repeat (first | apply Kd.R_alloc | apply Kd.R_drewN | apply Kd.R_drew)); exact HO_6.out) (Kd.R_base ho0) hb); have n1_ := Aside0.mk (Kd.R_elder' (by (with_reducible repeat (first | apply Kd.R_alloc | apply Kd.R_drewN | apply Kd.R_drew)); exact HO_7.out) (Kd.R_base ho0) hb); have n2_ := Aside0.mk (Kd.R_elder' (by (with_reducible repeat (first | apply Kd.R_alloc | apply Kd.R_drewN | apply Kd.R_drew)); exact HO_8.out) (Kd.R_base ho0) hb); have n3_ := Aside0.mk (Kd.R_elder' (by (with_reducible repeat (first | apply Kd.R_alloc | apply Kd.R_drewN | apply Kd.R_drew)); exact HO_9.out) (Kd.R_base ho0) hb); have n4_ := Aside0.mk (Kd.R_lower (Kd.R_new' (Kd.R_new' (Kd.R_new' (Kd.R_new' ho0 (Kd.R_lt (by (with_reducible repeat (first | apply Kd.R_alloc | apply Kd.R_drewN | apply Kd.R_drew)); exact HO_6.out))) (Kd.R_lt (by (with_reducible repeat (first | apply Kd.R_alloc | apply Kd.R_drewN | apply Kd.R_drew)); exact HO_7.out))) (Kd.R_lt (by (with_reducible repeat (first | apply Kd.R_alloc | apply Kd.R_drewN | apply Kd.R_drew)); exact HO_8.out))) (Kd.R_lt (by (with_reducible repeat (first | apply Kd.R_alloc | apply Kd.R_drewN | apply Kd.R_drew)); exact HO_9.out))) (below_size (by repeat (first | (with_reducible first | exact HB.out | apply below_alloc | apply pw_below_drewN | apply below_drew1) | exact HB.out)))); have n5_ := Aside0.mk (below_step (by repeat (first | (with_reducible first | exact HB.out | apply below_alloc | apply pw_below_drewN | apply below_drew1) | exact HB.out)) hb); clear HO_6; clear HO_7; clear HO_8; clear HO_9; clear HB; have HO_6 := n0_; have HO_7 := n1_; have HO_8 := n2_; have HO_9 := n3_; have HO461 := n4_; have HB := n5_; clear n0_ n1_ n2_ n3_ n4_ n5_; (try clear hb); (try clear hb2); (try clear hk); (try clear hi); (try clear ho0); obtain ⟨Ao32, co32, eo32⟩ := Kd.R_slice HO_9.out; subst eo32; have p462 : 0 ≤ (x10_1 : Int) := of_decide_eq_true (by first | (with_reducible assumption) | assumption); have q462 : x10_1 < (x9_2.length : Int) := of_decide_eq_true (by first | (with_reducible assumption) | assumption); obtain ⟨ad462, e462, hx462_0⟩ := Kd.at_int (Kd.R_reads' HO_9.out).2.2 x10_1 p462 q462; cases e462; replace p462 := eq_true p462; replace q462 := eq_true q462; have p28 : 0 ≤ (x10_1 : Int) := of_decide_eq_true (by first | (with_reducible assumption) | assumption); have q28 : (x10_1 : Int) < ((x9_2.length : Int) : Int) := of_decide_eq_true (by first | (with_reducible assumption) | assumption); obtain ⟨go28, co28, eo28, gb28, gl28, cl28, HG28⟩ := Kd.R_form HO_9.out (by omega); (first | cases eo28 | (injection eo28 with ea_ en_ ec_; (first | subst ea_ | (injection ea_ with ea_; subst ea_)); subst ec_; clear en_)); have GB28 := Aside0.mk gb28; have GG28 := Aside0.mk HG28; clear gb28 gl28 HG28; (first | simp only [add_plain] at hx462_0 | skip); obtain ⟨hx28_0, hf28_0⟩ := Kd.R_celln 0 HO_9.out (x10_1 : Int) p28 q28; replace p28 := eq_true p28; replace q28 := eq_true q28; have n_ := Aside0.mk (Kd.R_mono (ok' := (fun k_ => some k_ ≠ (.slice (some ad448) t439.length co9 : Value).ownBlock ∧ some k_ ≠ (.slice Ao30 t442.length co30 : Value).ownBlock ∧ some k_ ≠ (.slice Ao29 x8_2.length co29 : Value).ownBlock ∧ some k_ ≠ (v460 : Value).ownBlock)) HO_9.out (fun k_ hk => ⟨hk.1.1, ⟨hk.1.2.1, ⟨hk.1.2.2, hk.2⟩⟩⟩)); clear HO_9; have HO_9 := n_; clear n_; obtain ⟨hy33_, hz33_⟩ := Kd.R_celln 0 HO_9.out (x10_1 : Int) (of_decide_eq_true (by first | (with_reducible assumption) | assumption)) (of_decide_eq_true (by first | (with_reducible assumption) | assumption)); have HP33 := Kd.R_putg HO_9.out (x10_1 : Int) (wrap64 ((rd x9_2 x10_1) + 1))) | ((with_reducible refine gate_store (t := 3) (p := 45) rfl ?_); refine store_event (t := 3) (p := 45) (v := ?vo_w34) (w1 := (w31.setCell ⟨go28, (x10_1 : Int).toNat, none⟩ (.int .i64 (wrap64 ((rd x9_2 x10_1) + 1))))) ?hg ?ho ?hn ?hr ?_; (case ho => rfl); (case hg => rfl); (case hn => rfl); (case hr => first | (go_simp; done) | (go_simp; rfl)); intro w34 hw; have hg : w31.grownBy w34 (some go28) := (by rw [hw]; exact HP33.2); have hp_ : Kd.R (Kd.int .i64) 3 w34 w.heap.size (fun k_ => some k_ ≠ (.slice (some ad448) t439.length co9 : Value).ownBlock ∧ some k_ ≠ (.slice Ao30 t442.length co30 : Value).ownBlock ∧ some k_ ≠ (.slice Ao29 x8_2.length co29 : Value).ownBlock ∧ some k_ ≠ (v460 : Value).ownBlock) (.slice (some ⟨go28, 0, none⟩) x9_2.length co32) y463 := (by rw [hw, Ny463.out]; exact HP33.1); clear HP33; have n0_ := Aside0.mk (Kd.R_after (v := (.slice (some ⟨go28, 0, none⟩) x9_2.length co32)) (v1 := (.slice (some ⟨go28, 0, none⟩) x9_2.length co32)) (ok := (fun k_ => some k_ ≠ (.slice Ao30 t442.length co30 : Value).ownBlock ∧ some k_ ≠ (.slice Ao29 x8_2.length co29 : Value).ownBlock ∧ some k_ ≠ (v460 : Value).ownBlock)) (by (with_reducible repeat (first | apply Kd.R_alloc | apply Kd.R_drewN | apply Kd.R_drew)); exact Kd.R_mono HO_6.out (fun _ hk => ⟨⟨hk.1.1, ⟨hk.1.2.1, hk.2⟩⟩, hk.1.2.2⟩)) hg (.inl rfl)); have n1_ := Aside0.mk (Kd.R_after (v := (.slice (some ⟨go28, 0, none⟩) x9_2.length co32)) (v1 := (.slice (some ⟨go28, 0, none⟩) x9_2.length co32)) (ok := (fun k_ => some k_ ≠ (.slice (some ad448) t439.length co9 : Value).ownBlock ∧ some k_ ≠ (.slice Ao29 x8_2.length co29 : Value).ownBlock ∧ some k_ ≠ (v460 : Value).ownBlock)) (by (with_reducible repeat (first | apply Kd.R_alloc | apply Kd.R_drewN | apply Kd.R_drew)); exact Kd.R_mono HO_7.out (fun _ hk => ⟨⟨hk.1.1, ⟨hk.1.2.1, hk.2⟩⟩, hk.1.2.2⟩)) hg (.inl rfl)); have n2_ := Aside0.mk (Kd.R_after (v := (.slice (some ⟨go28, 0, none⟩) x9_2.length co32)) (v1 := (.slice (some ⟨go28, 0, none⟩) x9_2.length co32)) (ok := (fun k_ => some k_ ≠ (.slice (some ad448) t439.length co9 : Value).ownBlock ∧ some k_ ≠ (.slice Ao30 t442.length co30 : Value).ownBlock ∧ some k_ ≠ (v460 : Value).ownBlock)) (by (with_reducible repeat (first | apply Kd.R_alloc | apply Kd.R_drewN | apply Kd.R_drew)); exact Kd.R_mono HO_8.out (fun _ hk => ⟨⟨hk.1.1, ⟨hk.1.2.1, hk.2⟩⟩, hk.1.2.2⟩)) hg (.inl rfl)); have n3_ := Aside0.mk (hp_); have n4_ := Aside0.mk (Kd.R_after (v := (.slice (some ⟨go28, 0, none⟩) x9_2.length co32)) (v1 := (.slice (some ⟨go28, 0, none⟩) x9_2.length co32)) (ok := (fun k_ => some k_ ≠ (.slice (some ad448) t439.length co9 : Value).ownBlock ∧ some k_ ≠ (.slice Ao30 t442.length co30 : Value).ownBlock ∧ some k_ ≠ (.slice Ao29 x8_2.length co29 : Value).ownBlock)) (by (with_reducible repeat (first | apply Kd.R_alloc | apply Kd.R_drewN | apply Kd.R_drew)); exact Kd.R_mono HO461.out (fun _ hk => ⟨⟨hk.1.1.1.2, ⟨hk.1.1.2, hk.1.2⟩⟩, hk.2⟩)) hg (.inl rfl)); have n5_ := Aside0.mk ((by rw [hw]; exact below_set (HB.out) GB28.out : Below w.heap.size w w34)); clear HO_6; clear HO_7; clear HO_8; clear HO_9; clear HO461; clear HB; have HO_6 := n0_; have HO_7 := n1_; have HO_8 := n2_; have HO_9 := n3_; have HO461 := n4_; have HB := n5_; clear n0_ n1_ n2_ n3_ n4_ n5_; clear hg hw hp_))
                            go_roundg k2
                            case measure => have := HK1.out; have := HK2.out; omega
                            case rel => exact ⟨(t459), (y463), H', ⟨by have := HK1.out; have := HK2.out; omega⟩, ⟨by (with_reducible repeat (first | apply Kd.R_alloc | apply Kd.R_drewN | apply Kd.R_drew)); exact Kd.R_mono HO_6.out (fun _ hk => ⟨hk.1.1, ⟨hk.1.2.2, hk.2⟩⟩)⟩, ⟨by (with_reducible repeat (first | apply Kd.R_alloc | apply Kd.R_drewN | apply Kd.R_drew)); exact Kd.R_mono HO_7.out (fun _ hk => ⟨hk.1.1, ⟨hk.1.2.2, hk.2⟩⟩)⟩, ⟨by (with_reducible repeat (first | apply Kd.R_alloc | apply Kd.R_drewN | apply Kd.R_drew)); exact Kd.R_mono HO461.out (fun _ hk => ⟨hk.1.1, ⟨hk.1.2.1, hk.2⟩⟩)⟩, ⟨by (with_reducible repeat (first | apply Kd.R_alloc | apply Kd.R_drewN | apply Kd.R_drew)); exact Kd.R_mono HO_9.out (fun _ hk => ⟨hk.1, ⟨hk.2.1, hk.2.2.2⟩⟩)⟩, ⟨by repeat (first | (with_reducible first | exact HB.out | apply below_alloc | apply pw_below_drewN | apply below_drew1) | exact HB.out)⟩⟩
                          · rw [if_neg c27] at H
                            exact absurd H (by simp)
                        · rw [if_neg c26] at H
                          exact absurd H (by simp)
                      · rw [if_neg c24] at H
                        have c24b0 : decide (0 ≤ t458) = false := decide_eq_false c24
                        clear c24
                        have H' := Aside0.mk H
                        clear H
                        obtain ⟨Ao35, co35, eo35⟩ := Kd.R_slice HO_8.out
                        subst eo35
                        obtain ⟨Ao36, co36, eo36⟩ := Kd.R_slice HO_7.out
                        subst eo36
                        go_wp2_with (first | ((with_reducible refine gate_callee (f := 153) rfl ?_); refine goesL_ (some 35) rfl rfl Tryz.func153 (by kernel_rfl) rfl #[.slice Ao35 x8_2.length co35, .slice Ao36 t442.length co36] rfl (by (try simp only [List.map_toArray, List.map_cons, List.map_nil]); first | done | rfl | (simp only [List.length_drop, List.length_take]; rfl)) ?_; (with_reducible refine (dowelref01_order.calls k2 _ _ x8_2 _ _ t442 t458 _ ?side1 ?side2 ?side3 ?side4 A23.out).mono ?_); (case side1 => repeat (first | exact (Kd.R_reads' HO_8.out).2.2 | (with_reducible refine Kd.C_alloc ?_ _) | (with_reducible refine Kd.C_drewN ?_ _) | (with_reducible refine Kd.C_drew ?_))); (case side2 => exact (Kd.R_reads' HO_8.out).2.1); (case side3 => repeat (first | exact (Kd.R_reads' HO_7.out).2.2 | (with_reducible refine Kd.C_alloc ?_ _) | (with_reducible refine Kd.C_drewN ?_ _) | (with_reducible refine Kd.C_drew ?_))); (case side4 => exact (Kd.R_reads' HO_7.out).2.1); rintro e w' ⟨rfl, ⟨nd, rfl⟩⟩; refine ⟨_, rfl, ?_⟩))
                        go_roundg k2
                        case measure => have := HK1.out; have := HK2.out; omega
                        case rel => exact ⟨(x8_2), (x9_2), (wrap64 (x10_1 - 1)), (by first | rfl | (simp; done) | (simp [*]; done)), H', ⟨by have := HK1.out; have := HK2.out; omega⟩, ⟨by (with_reducible repeat (first | apply Kd.R_alloc | apply Kd.R_drewN | apply Kd.R_drew)); exact HO_6.out⟩, ⟨by (with_reducible repeat (first | apply Kd.R_alloc | apply Kd.R_drewN | apply Kd.R_drew)); exact HO_7.out⟩, ⟨by (with_reducible repeat (first | apply Kd.R_alloc | apply Kd.R_drewN | apply Kd.R_drew)); exact HO_8.out⟩, ⟨by (with_reducible repeat (first | apply Kd.R_alloc | apply Kd.R_drewN | apply Kd.R_drew)); exact HO_9.out⟩, ⟨by repeat (first | (with_reducible first | exact HB.out | apply below_alloc | apply pw_below_drewN | apply below_drew1) | exact HB.out)⟩⟩
                · rw [if_neg c15] at H
                  exact absurd H (by simp)
              · rw [if_neg c14] at H
                exact absurd H (by simp)
            · rw [if_neg c13] at H
              exact absurd H (by simp)
          · rw [if_neg c12] at H
            have c12b0 : decide (0 ≤ x10_1) = false := decide_eq_false c12
            clear c12
            replace H := Option.bind_eq_some_iff.mp H
            obtain ⟨t464, A370, H⟩ := H
            replace H : ((dowelref01_Sign.f a1).bind fun t465 => ((dowelref01_text.f k1 (decide ((wrap64 (t464 * t465)) < 0)) x9_1).bind fun t466 => ((dowelref01_Sign.f a0).bind fun t467 => ((dowelref01_text.f k1 (decide (t467 < 0)) x8_1).bind fun t468 => (if t468.toList = ([48] : List UInt8) then (dowelref01_DivMod.j2 k1 a1 t466 t468 false) else ((dowelref01_Sign.f t468).bind fun t469 => ((dowelref01_Sign.f a1).bind fun t470 => (dowelref01_DivMod.j2 k1 a1 t466 t468 (t469 != t470))))))))) = some (r1, r2) := H
            have A37 := Aside0.mk A370
            clear A370
            replace H := Option.bind_eq_some_iff.mp H
            obtain ⟨t465, A380, H⟩ := H
            replace H : ((dowelref01_text.f k1 (decide ((wrap64 (t464 * t465)) < 0)) x9_1).bind fun t466 => ((dowelref01_Sign.f a0).bind fun t467 => ((dowelref01_text.f k1 (decide (t467 < 0)) x8_1).bind fun t468 => (if t468.toList = ([48] : List UInt8) then (dowelref01_DivMod.j2 k1 a1 t466 t468 false) else ((dowelref01_Sign.f t468).bind fun t469 => ((dowelref01_Sign.f a1).bind fun t470 => (dowelref01_DivMod.j2 k1 a1 t466 t468 (t469 != t470)))))))) = some (r1, r2) := H
            have A38 := Aside0.mk A380
            clear A380
            replace H := Option.bind_eq_some_iff.mp H
            obtain ⟨t466, A390, H⟩ := H
            replace H : ((dowelref01_Sign.f a0).bind fun t467 => ((dowelref01_text.f k1 (decide (t467 < 0)) x8_1).bind fun t468 => (if t468.toList = ([48] : List UInt8) then (dowelref01_DivMod.j2 k1 a1 t466 t468 false) else ((dowelref01_Sign.f t468).bind fun t469 => ((dowelref01_Sign.f a1).bind fun t470 => (dowelref01_DivMod.j2 k1 a1 t466 t468 (t469 != t470))))))) = some (r1, r2) := H
            have A39 := Aside0.mk A390
            clear A390
            replace H := Option.bind_eq_some_iff.mp H
            obtain ⟨t467, A400, H⟩ := H
            replace H : ((dowelref01_text.f k1 (decide (t467 < 0)) x8_1).bind fun t468 => (if t468.toList = ([48] : List UInt8) then (dowelref01_DivMod.j2 k1 a1 t466 t468 false) else ((dowelref01_Sign.f t468).bind fun t469 => ((dowelref01_Sign.f a1).bind fun t470 => (dowelref01_DivMod.j2 k1 a1 t466 t468 (t469 != t470)))))) = some (r1, r2) := H
            have A40 := Aside0.mk A400
            clear A400
            replace H := Option.bind_eq_some_iff.mp H
            obtain ⟨t468, A410, H⟩ := H
            replace H : (if t468.toList = ([48] : List UInt8) then (dowelref01_DivMod.j2 k1 a1 t466 t468 false) else ((dowelref01_Sign.f t468).bind fun t469 => ((dowelref01_Sign.f a1).bind fun t470 => (dowelref01_DivMod.j2 k1 a1 t466 t468 (t469 != t470))))) = some (r1, r2) := H
            have A41 := Aside0.mk A410
            clear A410
            have HC42 := Aside0.mk H
            clear H
            go_upto_region 12 with (first | ((with_reducible refine gate_callee (f := 126) rfl ?_); refine goesL_ (some 47) rfl rfl Tryz.func126 (by kernel_rfl) rfl #[.string a0] rfl (by (try simp only [List.map_toArray, List.map_cons, List.map_nil]); first | done | rfl | (simp only [List.length_drop, List.length_take]; rfl)) ?_; (with_reducible refine (dowelref01_Sign.calls a0 t464 _ A37.out).mono ?_); rintro e w' ⟨rfl, ⟨nd, rfl⟩⟩; refine ⟨_, rfl, ?_⟩) | ((with_reducible refine gate_callee (f := 126) rfl ?_); refine goesL_ (some 49) rfl rfl Tryz.func126 (by kernel_rfl) rfl #[.string a1] rfl (by (try simp only [List.map_toArray, List.map_cons, List.map_nil]); first | done | rfl | (simp only [List.length_drop, List.length_take]; rfl)) ?_; (with_reducible refine (dowelref01_Sign.calls a1 t465 _ A38.out).mono ?_); rintro e w' ⟨rfl, ⟨nd, rfl⟩⟩; refine ⟨_, rfl, ?_⟩; obtain ⟨Ao43, co43, eo43⟩ := Kd.R_slice HO_9.out; subst eo43) | ((with_reducible refine gate_callee (f := 155) rfl ?_); refine goesL_ (some 53) rfl rfl Tryz.func155 (by kernel_rfl) rfl #[.bool (decide ((wrap64 (t464 * t465)) < 0)), .slice Ao43 x9_1.length co43] rfl (by (try simp only [List.map_toArray, List.map_cons, List.map_nil]); first | done | rfl | (simp only [List.length_drop, List.length_take]; rfl)) ?_; (with_reducible refine (dowelref01_text.calls k1 (decide ((wrap64 (t464 * t465)) < 0)) (fun k_ => some k_ = (.slice Ao43 x9_1.length co43 : Value).ownBlock) (.slice Ao43 x9_1.length co43) x9_1 t466 w _ ?side1 ?side2 A39.out).mono ?_); (case side1 => repeat (first | (with_reducible first | exact HB.out | apply below_alloc | apply pw_below_drewN | apply below_drew1) | exact HB.out)); (case side2 => exact Kd.R_tight rfl HO_9.out); rintro e w44 ⟨rfl, hb, hkp⟩; refine ⟨_, rfl, ?_⟩; have n0_ := Aside0.mk (Kd.R_mono (ok' := fun k_ => some k_ ≠ (v443 : Value).ownBlock ∧ some k_ ≠ (u8 : Value).ownBlock) (Kd.R_keptB (HO_6.out) hkp (fun k_ hk_ hs_ => (hk_.2.2) hs_)) (fun k_ hk_ => ⟨hk_.1.1, hk_.1.2.1⟩)); have n1_ := Aside0.mk (Kd.R_mono (ok' := fun k_ => some k_ ≠ (.slice Ao9 t439.length co9 : Value).ownBlock ∧ some k_ ≠ (u8 : Value).ownBlock) (Kd.R_keptB (HO_7.out) hkp (fun k_ hk_ hs_ => (hk_.2.2) hs_)) (fun k_ hk_ => ⟨hk_.1.1, hk_.1.2.1⟩)); have n2_ := Aside0.mk (Kd.R_mono (ok' := fun k_ => some k_ ≠ (.slice Ao9 t439.length co9 : Value).ownBlock ∧ some k_ ≠ (v443 : Value).ownBlock) (Kd.R_keptB (HO_8.out) hkp (fun k_ hk_ hs_ => (hk_.2.2) hs_)) (fun k_ hk_ => ⟨hk_.1.1, hk_.1.2.1⟩)); have n3_ := Aside0.mk (hb); clear HO_6; clear HO_7; clear HO_8; clear HB; clear HO_9; have HO_6 := n0_; have HO_7 := n1_; have HO_8 := n2_; have HB := n3_; clear n0_ n1_ n2_ n3_; (try clear hb); (try clear hkp)) | ((with_reducible refine gate_callee (f := 126) rfl ?_); refine goesL_ (some 55) rfl rfl Tryz.func126 (by kernel_rfl) rfl #[.string a0] rfl (by (try simp only [List.map_toArray, List.map_cons, List.map_nil]); first | done | rfl | (simp only [List.length_drop, List.length_take]; rfl)) ?_; (with_reducible refine (dowelref01_Sign.calls a0 t467 _ A40.out).mono ?_); rintro e w' ⟨rfl, ⟨nd, rfl⟩⟩; refine ⟨_, rfl, ?_⟩; obtain ⟨Ao45, co45, eo45⟩ := Kd.R_slice HO_8.out; subst eo45) | ((with_reducible refine gate_callee (f := 155) rfl ?_); refine goesL_ (some 58) rfl rfl Tryz.func155 (by kernel_rfl) rfl #[.bool (decide (t467 < 0)), .slice Ao45 x8_1.length co45] rfl (by (try simp only [List.map_toArray, List.map_cons, List.map_nil]); first | done | rfl | (simp only [List.length_drop, List.length_take]; rfl)) ?_; (with_reducible refine (dowelref01_text.calls k1 (decide (t467 < 0)) (fun k_ => some k_ = (.slice Ao45 x8_1.length co45 : Value).ownBlock) (.slice Ao45 x8_1.length co45) x8_1 t468 w _ ?side1 ?side2 A41.out).mono ?_); (case side1 => repeat (first | (with_reducible first | exact HB.out | apply below_alloc | apply pw_below_drewN | apply below_drew1) | exact HB.out)); (case side2 => exact Kd.R_tight rfl HO_8.out); rintro e w46 ⟨rfl, hb, hkp⟩; refine ⟨_, rfl, ?_⟩; have n0_ := Aside0.mk (Kd.R_mono (ok' := fun k_ => some k_ ≠ (v443 : Value).ownBlock) (Kd.R_keptB (HO_6.out) hkp (fun k_ hk_ hs_ => (hk_.2) hs_)) (fun k_ hk_ => hk_.1.1)); have n1_ := Aside0.mk (Kd.R_mono (ok' := fun k_ => some k_ ≠ (.slice Ao9 t439.length co9 : Value).ownBlock) (Kd.R_keptB (HO_7.out) hkp (fun k_ hk_ hs_ => (hk_.2) hs_)) (fun k_ hk_ => hk_.1.1)); have n2_ := Aside0.mk (hb); clear HO_6; clear HO_7; clear HB; clear HO_8; have HO_6 := n0_; have HO_7 := n1_; have HB := n2_; clear n0_ n1_ n2_; (try clear hb); (try clear hkp)))
            (try simp only [Act.put, List.setIfInBounds_toArray, List.set_cons_zero, List.set_cons_succ])
            go_cut [67] (fun v67 wc => ∃ (kq : Nat) (x67_41 : Bool), v67 = .bool x67_41 ∧ Aside0 (dowelref01_DivMod.j2 kq a1 t466 t468 x67_41 = some (r1, r2)) ∧ Aside0 (kq ≤ k1) ∧ Aside0 (Below w.heap.size w wc))
            case first =>
              have H := HC42.out
              clear HC42
              by_cases c47 : t468.toList = ([48] : List UInt8)
              · rw [if_pos c47] at H
                have c47b0 : (t468.toList == ([48] : List UInt8)) = true := beq_iff_eq.mpr c47
                have c47b1 : (t468.toList != ([48] : List UInt8)) = false := bne_eq_false_iff_eq.mpr c47
                clear c47
                (first | rw [c47b0] | (simp only [i64_w, i32_w]; rw [c47b0]) | skip)
                have H' := Aside0.mk H
                clear H
                go_wp2
                go_meet
                case rel => exact ⟨_, (false), (by first | rfl | (simp; done) | (simp [*]; done)), H', ⟨by have := HK1.out; first | omega | exact Nat.le_refl _⟩, ⟨by repeat (first | (with_reducible first | exact HB.out | apply below_alloc | apply pw_below_drewN | apply below_drew1) | exact HB.out)⟩⟩
              · rw [if_neg c47] at H
                have c47b0 : (t468.toList == ([48] : List UInt8)) = false := beq_eq_false_iff_ne.mpr c47
                have c47b1 : (t468.toList != ([48] : List UInt8)) = true := bne_iff_ne.mpr c47
                (first | rw [c47b0] | (simp only [i64_w, i32_w]; rw [c47b0]) | skip)
                replace H := Option.bind_eq_some_iff.mp H
                obtain ⟨t469, A480, H⟩ := H
                replace H : ((dowelref01_Sign.f a1).bind fun t470 => (dowelref01_DivMod.j2 k1 a1 t466 t468 (t469 != t470))) = some (r1, r2) := H
                have A48 := Aside0.mk A480
                clear A480
                replace H := Option.bind_eq_some_iff.mp H
                obtain ⟨t470, A490, H⟩ := H
                replace H : (dowelref01_DivMod.j2 k1 a1 t466 t468 (t469 != t470)) = some (r1, r2) := H
                have A49 := Aside0.mk A490
                clear A490
                have H' := Aside0.mk H
                clear H
                go_wp2_with (first | (go_at_call 126; (with_reducible refine (dowelref01_Sign.calls t468 t469 _ A48.out).mono ?_); rintro e w' ⟨rfl, ⟨nd, rfl⟩⟩) | (go_at_call 126; (with_reducible refine (dowelref01_Sign.calls a1 t470 _ A49.out).mono ?_); rintro e w' ⟨rfl, ⟨nd, rfl⟩⟩))
                go_meet
                case rel => exact ⟨_, ((t469 != t470)), (by first | rfl | (simp; done) | (simp [*]; done)), H', ⟨by have := HK1.out; first | omega | exact Nat.le_refl _⟩, ⟨by repeat (first | (with_reducible first | exact HB.out | apply below_alloc | apply pw_below_drewN | apply below_drew1) | exact HB.out)⟩⟩
            case rest =>
              clear HC42
              try clear c1
              try clear c2
              try clear p2
              try clear q2
              try clear hx2
              try clear hf2
              try clear c4
              try clear p4
              try clear q4
              try clear hx4
              try clear c5
              try clear c5b0
              try clear c5b1
              try clear c6
              try clear c6b0
              try clear c6b1
              try clear p6
              try clear c12
              try clear c12b0
              try clear c13
              try clear c13b0
              try clear c14
              try clear c14b0
              try clear c15
              try clear c16
              try clear c24
              try clear c24b0
              try clear c26
              try clear c26b0
              try clear c27
              try clear c27b0
              try clear p28
              try clear q28
              try clear hx28
              try clear hf28
              try clear p44
              try clear q44
              try clear hx44
              try clear p46
              try clear q46
              try clear hx46
              try clear c47
              try clear c47b0
              try clear c47b1
              try clear hx28_0
              try clear hx448_0
              try clear hx462_0
              try clear p2
              try clear p28
              try clear p4
              try clear p448
              try clear p462
              try clear p6
              try clear q28
              try clear q4
              try clear q448
              try clear q462
              obtain ⟨kq, x67_41, rfl, HA, HJ41, HB⟩ := hcut
              cases kq with
              | zero => exact absurd HA.out (by simp [dowelref01_DivMod.j2])
              | succ kj41 =>
                have H := HA.out
                clear HA
                simp only [dowelref01_DivMod.j2] at H
                by_cases c50 : x67_41 = true
                · subst c50
                  have H1 : ((dowelref01_Sub.f kj41 t466 (⟨#[49]⟩ : ByteArray)).bind fun t471 => ((dowelref01_Add.f kj41 t468 a1).bind fun t472 => (some (t471, t472)))) = some (r1, r2) := by rw [if_pos rfl] at H; exact H
                  clear H
                  have H := H1
                  clear H1
                  replace H := Option.bind_eq_some_iff.mp H
                  obtain ⟨t471, A510, H⟩ := H
                  replace H : ((dowelref01_Add.f kj41 t468 a1).bind fun t472 => (some (t471, t472))) = some (r1, r2) := H
                  have A51 := Aside0.mk A510
                  clear A510
                  replace H := Option.bind_eq_some_iff.mp H
                  obtain ⟨t472, A520, H⟩ := H
                  replace H : (some (t471, t472)) = some (r1, r2) := H
                  have A52 := Aside0.mk A520
                  clear A520
                  simp only [Option.some.injEq, Prod.mk.injEq] at H
                  obtain ⟨rfl, rfl⟩ := H
                  go_wp2_with (first | ((with_reducible refine gate_callee (f := 168) rfl ?_); refine goesL_ (some 69) rfl rfl Tryz.func168 (by kernel_rfl) rfl #[.string t466, .string (⟨#[49]⟩ : ByteArray)] rfl (by (try simp only [List.map_toArray, List.map_cons, List.map_nil]); first | done | rfl | (simp only [List.length_drop, List.length_take]; rfl)) ?_; (with_reducible refine (dowelref01_Sub.calls kj41 t466 (⟨#[49]⟩ : ByteArray) t471 _ A51.out).mono ?_); rintro e w53 ⟨rfl, hb⟩; refine ⟨_, rfl, ?_⟩; have n0_ := Aside0.mk (below_step (by repeat (first | (with_reducible first | exact HB.out | apply below_alloc | apply pw_below_drewN | apply below_drew1) | exact HB.out)) hb); clear HB; have HB := n0_; clear n0_; (try clear hb); (try clear hb2); (try clear hk); (try clear hi)) | ((with_reducible refine gate_callee (f := 143) rfl ?_); refine goesL_ (some 72) rfl rfl Tryz.func143 (by kernel_rfl) rfl #[.string t468, .string a1] rfl (by (try simp only [List.map_toArray, List.map_cons, List.map_nil]); first | done | rfl | (simp only [List.length_drop, List.length_take]; rfl)) ?_; (with_reducible refine (dowelref01_Add.calls kj41 t468 a1 t472 _ A52.out).mono ?_); rintro e w54 ⟨rfl, hb⟩; refine ⟨_, rfl, ?_⟩; have n0_ := Aside0.mk (below_step (by repeat (first | (with_reducible first | exact HB.out | apply below_alloc | apply pw_below_drewN | apply below_drew1) | exact HB.out)) hb); clear HB; have HB := n0_; clear n0_; (try clear hb); (try clear hb2); (try clear hk); (try clear hi)))
                  go_ret2
                  exact ⟨by first | rfl | (simp [errW_none, errW_some] <;> rfl) | (simp [*, errW_none, errW_some] <;> rfl), by repeat (first | (with_reducible first | exact HB.out | apply below_alloc | apply pw_below_drewN | apply below_drew1) | exact HB.out)⟩
                · replace c50 := Bool.eq_false_iff.mpr c50
                  subst c50
                  have H1 : (some (t466, t468)) = some (r1, r2) := by rw [if_neg (show ¬ (false = true) by decide)] at H; exact H
                  clear H
                  have H := H1
                  clear H1
                  simp only [Option.some.injEq, Prod.mk.injEq] at H
                  obtain ⟨rfl, rfl⟩ := H
                  go_wp2
                  go_ret2
                  exact ⟨by first | rfl | (simp [errW_none, errW_some] <;> rfl) | (simp [*, errW_none, errW_some] <;> rfl), by repeat (first | (with_reducible first | exact HB.out | apply below_alloc | apply pw_below_drewN | apply below_drew1) | exact HB.out)⟩
    · rw [if_neg c6] at H
      exact absurd H (by simp)
  · rw [if_neg c5] at H
    exact absurd H (by simp)

end Go.Proofs.YtapckjeedekphaaGreatDoor.PR

namespace Go.Proofs.YtapckjeedekphaaGreatDoor
open Go.RowKit Go.Proofs.YtapckjeedekphaaGreatDoorW.PrintWords PR
theorem V_take_succ (B : Int) (l : List Int) (n : Nat) (h : n < l.length) : V B (l.take (n + 1)) = V B (l.take n) + B ^ n * rd l n := by
  rw [take_rd l n h, V_snoc, List.length_take, Nat.min_eq_left (by omega)]
theorem V_take_over (B : Int) (l : List Int) (n : Nat) (h : l.length ≤ n) : V B (l.take n) = V B l := by rw [List.take_of_length_le h]
theorem Dg_snoc {B : Int} {l : List Int} {x : Int} (h : Dg B l) (hx : 0 ≤ x ∧ x < B) : Dg B (l ++ [x]) := Dg_append.2 ⟨h, Dg_cons.2 ⟨hx, Dg_nil _⟩⟩
/-- The digit that a sum's next digit is made of, 0 past the end. -/
def at0 (l : List Int) (n : Nat) : Int := if n < l.length then rd l n else 0
theorem at0_range {B : Int} (hB : 0 < B) {l : List Int} (h : Dg B l) (n : Nat) : 0 ≤ at0 l n ∧ at0 l n < B := by
  unfold at0; split
  · rename_i hl; exact Dg_rd h n hl
  · omega
theorem V_take_at0 (B : Int) (l : List Int) (n : Nat) : V B (l.take (n + 1)) = V B (l.take n) + B ^ n * at0 l n := by
  unfold at0
  by_cases h : n < l.length
  · rw [if_pos h, V_take_succ B l n h]
  · rw [if_neg h, V_take_over B l _ (by omega), V_take_over B l _ (by omega)]; simp
theorem sum_step (P a b c q r s A C T : Int) (h : q * 10 + r = s) (hs : s = c + a + b) (hV : T + P * c = A + C) : T + P * r + P * 10 * q = (A + P * a) + (C + P * b) := by
  subst hs
  have e : P * (q * 10 + r) = P * (c + a + b) := by rw [h]
  simp only [Int.mul_add] at e
  have e2 : P * (q * 10) = P * 10 * q := by grind
  omega
theorem tdm (n : Int) (h : 0 ≤ n) : Int.tmod n 10 = n % 10 ∧ Int.tdiv n 10 = n / 10 := ⟨Int.tmod_eq_emod_of_nonneg h, Int.tdiv_eq_ediv_of_nonneg h⟩
theorem w64s (n : Nat) (h : n ≤ 1000000000) : wrap64 ((n : Int) + 1) = ((n + 1 : Nat) : Int) := by rw [w64 (by omega) (by omega)]; omega
theorem w64p (n : Nat) (h : n ≤ 1000000000) : wrap64 ((n : Int) - 1) = (n : Int) - 1 := w64 (by omega) (by omega)
theorem carry_eq (x : Int) (h : 0 ≤ x) (h2 : x ≤ 1000) : Int.tmod x 10 = x % 10 ∧ wrap64 (Int.tdiv x 10) = x / 10 := by
  rw [(tdm x h).1, (tdm x h).2]
  exact ⟨rfl, w64 (by omega) (by omega)⟩
theorem plus10_step (a b acc : List Int) (n k : Nat) (c : Int) (hla : a.length ≤ 500000) (hlb : b.length ≤ 500000) (hacc : acc.length ≤ 600000) (hln : n < a.length ∨ n < b.length)
    (ra : 0 ≤ at0 a n ∧ at0 a n < 10) (rb : 0 ≤ at0 b n ∧ at0 b n < 10) (hc0 : 0 ≤ c) (hc1 : c ≤ 1) :
    dowelref01_plus.l0 (k + 1 + 1) a b acc c (n : Int) = dowelref01_plus.l0 k a b (acc ++ [(c + at0 a n + at0 b n) % 10]) ((c + at0 a n + at0 b n) / 10) ((n + 1 : Nat) : Int) := by
  by_cases c1 : n < a.length
  · have f1 : at0 a n = rd a n := by unfold at0; rw [if_pos c1]
    rw [f1] at ra ⊢
    by_cases c2 : n < b.length
    · have f2 : at0 b n = rd b n := by unfold at0; rw [if_pos c2]
      rw [f2] at rb ⊢
      simp only [dowelref01_plus.l0]
      rw [if_pos (by omega)]
      simp only [dowelref01_plus.j1]
      rw [if_pos trivial, if_pos (by omega), if_pos (by omega), if_pos (by omega), if_pos (by omega), w64 (x := c + rd a n) (by omega) (by omega), w64 (x := c + rd a n + rd b n) (by omega) (by omega), (carry_eq _ (by omega) (by omega)).1, (carry_eq _ (by omega) (by omega)).2, w64s n (by omega)]
    · have f2 : at0 b n = 0 := by unfold at0; rw [if_neg c2]
      rw [f2, Int.add_zero]
      simp only [dowelref01_plus.l0]
      rw [if_pos (by omega)]
      simp only [dowelref01_plus.j1]
      rw [if_pos trivial, if_pos (by omega), if_pos (by omega), if_neg (by omega), if_pos (by omega), w64 (x := c + rd a n) (by omega) (by omega), (carry_eq _ (by omega) (by omega)).1, (carry_eq _ (by omega) (by omega)).2, w64s n (by omega)]
  · have f1 : at0 a n = 0 := by unfold at0; rw [if_neg c1]
    have c2 : n < b.length := by omega
    have f2 : at0 b n = rd b n := by unfold at0; rw [if_pos c2]
    rw [f2] at rb ⊢
    rw [f1, Int.add_zero]
    simp only [dowelref01_plus.l0]
    rw [if_neg (by omega), if_pos (by omega)]
    simp only [dowelref01_plus.j1]
    rw [if_pos trivial, if_neg (by omega), if_pos (by omega), if_pos (by omega), if_pos (by omega), w64 (x := c + rd b n) (by omega) (by omega), (carry_eq _ (by omega) (by omega)).1, (carry_eq _ (by omega) (by omega)).2, w64s n (by omega)]
theorem plus10_end (a b acc : List Int) (n k : Nat) (na : a.length ≤ n) (nb : b.length ≤ n) (c : Int) (hc : c = 0) : dowelref01_plus.l0 (k + 1 + 1) a b acc c (n : Int) = some acc := by
  subst hc
  simp only [dowelref01_plus.l0]
  rw [if_neg (by omega), if_neg (by omega)]
  simp only [dowelref01_plus.j1]
  rw [if_neg (by decide)]
theorem plus10_carry (a b acc : List Int) (n k : Nat) (na : a.length ≤ n) (nb : b.length ≤ n) (hn : n ≤ 600000) (hacc : acc.length ≤ 600000) : dowelref01_plus.l0 (k + 1 + 1) a b acc 1 (n : Int) = dowelref01_plus.l0 k a b (acc ++ [1]) 0 ((n + 1 : Nat) : Int) := by
  simp only [dowelref01_plus.l0]
  rw [if_neg (by omega), if_neg (by omega)]
  simp only [dowelref01_plus.j1]
  rw [if_pos (by decide), if_neg (by omega), if_neg (by omega), if_pos (by omega), (carry_eq 1 (by omega) (by omega)).1, (carry_eq 1 (by omega) (by omega)).2, w64s n (by omega)]
  rfl
theorem plus10_loop (a b : List Int) (ha : Dg 10 a) (hb : Dg 10 b) (hla : a.length ≤ 500000) (hlb : b.length ≤ 500000) (m : Nat) :
    ∀ k n c acc, 2 * m + 4 < k → n + m = max a.length b.length → acc.length = n → 0 ≤ c → c ≤ 1 → Dg 10 acc → V 10 acc + 10 ^ n * c = V 10 (a.take n) + V 10 (b.take n) →
    ∃ r, dowelref01_plus.l0 k a b acc c (n : Int) = some r ∧ Dg 10 r ∧ V 10 r = V 10 a + V 10 b ∧ r.length ≤ max a.length b.length + 1 := by
  induction m with
  | zero =>
    intro k n c acc hk hn hl hc0 hc1 hd hV
    obtain ⟨k, rfl⟩ : ∃ m, k = m + 1 + 1 := ⟨k - 2, by omega⟩
    have na : a.length ≤ n := by omega
    have nb : b.length ≤ n := by omega
    rw [V_take_over 10 a n na, V_take_over 10 b n nb] at hV
    by_cases hc : c = 0
    · rw [plus10_end a b acc n k na nb c hc]
      subst hc
      exact ⟨acc, rfl, hd, by simpa using hV, by omega⟩
    · have hc : c = 1 := by clear hV; omega
      subst hc
      obtain ⟨k, rfl⟩ : ∃ m, k = m + 1 + 1 := ⟨k - 2, by clear hV; omega⟩
      rw [plus10_carry a b acc n _ na nb (by clear hV; omega) (by clear hV; omega), plus10_end a b _ (n + 1) k (by clear hV; omega) (by clear hV; omega) 0 rfl]
      refine ⟨_, rfl, Dg_snoc hd (by decide), ?_, by simp; clear hV; omega⟩
      rw [V_snoc, hl]
      exact hV
  | succ m ih =>
    intro k n c acc hk hn hl hc0 hc1 hd hV
    obtain ⟨k, rfl⟩ : ∃ m, k = m + 1 + 1 := ⟨k - 2, by clear hV; omega⟩
    have ra := at0_range (B := 10) (by decide) ha n
    have rb := at0_range (B := 10) (by decide) hb n
    rw [plus10_step a b acc n k c hla hlb (by clear hV; omega) (by clear hV; omega) ra rb hc0 hc1]
    have hq : (c + at0 a n + at0 b n) / 10 * 10 + (c + at0 a n + at0 b n) % 10 = c + at0 a n + at0 b n := by omega
    refine ih k (n + 1) _ _ (by clear hV; omega) (by clear hV; omega) (by simp [hl]) (by clear hV; omega) (by clear hV; omega) (Dg_snoc hd (by clear hV; omega)) ?_
    rw [V_snoc, V_take_at0, V_take_at0, hl, Int.pow_succ]
    exact sum_step _ _ _ c _ _ _ _ _ _ hq rfl hV
theorem plus10 (a b : List Int) (ha : Dg 10 a) (hb : Dg 10 b) (n : Nat) (hn : n ≤ 400000) (hla : a.length ≤ n) (hlb : b.length ≤ n) (k : Nat) (hk : 2 * n + 4 < k) :
    ∃ r, dowelref01_plus.f k a b = some r ∧ Dg 10 r ∧ V 10 r = V 10 a + V 10 b ∧ r.length ≤ n + 1 := by
  unfold dowelref01_plus.f
  obtain ⟨r, h1, h2, h3, h4⟩ := plus10_loop a b ha hb (by omega) (by omega) (max a.length b.length) k 0 0 [] (by omega) (by omega) rfl (by omega) (by omega) (Dg_nil _) (by simp [V])
  exact ⟨r, h1, h2, h3, by omega⟩
theorem dif_step (P a b c q r A C T : Int) (h : r = a - c - b + q * 10) (hV : T - P * c = A - C) : T + P * r - P * 10 * q = (A + P * a) - (C + P * b) := by
  subst h
  grind
theorem minus10_step (a b acc : List Int) (n k : Nat) (c : Int) (hla : a.length ≤ 500000) (hacc : acc.length ≤ 600000) (hln : n < a.length)
    (ra : 0 ≤ rd a n ∧ rd a n < 10) (rb : 0 ≤ at0 b n ∧ at0 b n < 10) (hc0 : 0 ≤ c) (hc1 : c ≤ 1) :
    dowelref01_minus.l0 (k + 1) a b acc c (n : Int) = (if rd a n - c - at0 b n < 0 then dowelref01_minus.l0 k a b (acc ++ [rd a n - c - at0 b n + 10]) 1 ((n + 1 : Nat) : Int) else dowelref01_minus.l0 k a b (acc ++ [rd a n - c - at0 b n]) 0 ((n + 1 : Nat) : Int)) := by
  by_cases c2 : n < b.length
  · have f2 : at0 b n = rd b n := by unfold at0; rw [if_pos c2]
    rw [f2] at rb ⊢
    simp only [dowelref01_minus.l0]
    rw [if_pos (by omega), if_pos (by omega), w64 (x := rd a n - c) (by omega) (by omega), if_pos (by omega), w64 (x := rd a n - c - rd b n) (by omega) (by omega), w64 (x := rd a n - c - rd b n + 10) (by omega) (by omega), w64s n (by omega), if_pos (show acc.length < 17592186044416 by omega), if_pos (show acc.length < 17592186044416 by omega)]
  · have f2 : at0 b n = 0 := by unfold at0; rw [if_neg c2]
    rw [f2, Int.sub_zero]
    simp only [dowelref01_minus.l0]
    rw [if_pos (by omega), if_pos (by omega), w64 (x := rd a n - c) (by omega) (by omega), if_neg (by omega), w64 (x := rd a n - c + 10) (by omega) (by omega), w64s n (by omega), if_pos (show acc.length < 17592186044416 by omega), if_pos (show acc.length < 17592186044416 by omega)]
theorem borrow0 (X A Q c : Int) (h1 : X < Q) (h3 : 0 ≤ A) (hc : c = 0 ∨ c = 1) (h : X - Q * c = A) : c = 0 := by
  rcases hc with h | rfl
  · exact h
  · omega
theorem minus10_loop (a b : List Int) (ha : Dg 10 a) (hb : Dg 10 b) (hla : a.length ≤ 500000) (hlb : b.length ≤ a.length) (hge : V 10 b ≤ V 10 a) (m : Nat) :
    ∀ k n c acc, a.length + m + 2 < k → n + m = a.length → acc.length = n → 0 ≤ c → c ≤ 1 → Dg 10 acc → V 10 acc - 10 ^ n * c = V 10 (a.take n) - V 10 (b.take n) →
    ∃ r, dowelref01_minus.l0 k a b acc c (n : Int) = some (trD r) ∧ Dg 10 r ∧ V 10 r = V 10 a - V 10 b ∧ r.length ≤ a.length := by
  induction m with
  | zero =>
    intro k n c acc hk hn hl hc0 hc1 hd hV
    obtain ⟨k, rfl⟩ : ∃ m, k = m + 1 := ⟨k - 1, by clear hV; omega⟩
    rw [V_take_over 10 a n (by clear hV; omega), V_take_over 10 b n (by clear hV; omega)] at hV
    have h1 := V_lt (B := 10) (by decide) hd
    rw [hl] at h1
    have hc : c = 0 := borrow0 _ _ _ c h1 (by clear hV; omega) (by clear hV; omega) hV
    subst hc
    simp only [dowelref01_minus.l0]
    rw [if_neg (by clear hV; omega), trim10 acc (by clear hV; omega) k (by clear hV; omega)]
    exact ⟨acc, by simp, hd, by simpa using hV, by clear hV; omega⟩
  | succ m ih =>
    intro k n c acc hk hn hl hc0 hc1 hd hV
    obtain ⟨k, rfl⟩ : ∃ m, k = m + 1 := ⟨k - 1, by clear hV; omega⟩
    have hna : n < a.length := by clear hV; omega
    have ra := Dg_rd ha n hna
    have rb := at0_range (B := 10) (by decide) hb n
    have fa : at0 a n = rd a n := by unfold at0; rw [if_pos hna]
    rw [minus10_step a b acc n k c hla (by clear hV; omega) hna ra rb hc0 hc1]
    by_cases c1 : rd a n - c - at0 b n < 0
    · rw [if_pos c1]
      refine ih k (n + 1) 1 _ (by clear hV; omega) (by clear hV; omega) (by simp [hl]) (by decide) (by decide) (Dg_snoc hd (by clear hV; omega)) ?_
      rw [V_snoc, V_take_at0, V_take_at0, hl, Int.pow_succ, fa]
      exact dif_step _ _ _ c _ _ _ _ _ (by clear hV; omega) hV
    · rw [if_neg c1]
      refine ih k (n + 1) 0 _ (by clear hV; omega) (by clear hV; omega) (by simp [hl]) (by decide) (by decide) (Dg_snoc hd (by clear hV; omega)) ?_
      rw [V_snoc, V_take_at0, V_take_at0, hl, Int.pow_succ, fa]
      exact dif_step _ _ _ c _ _ _ _ _ (by clear hV; omega) hV
theorem minus10 (a b : List Int) (ha : Dg 10 a) (hb : Dg 10 b) (tb : Tr b) (hla : a.length ≤ 400000) (hge : V 10 b ≤ V 10 a) (k : Nat) (hk : 2 * a.length + 2 < k) :
    ∃ r, dowelref01_minus.f k a b = some (trD r) ∧ Dg 10 r ∧ V 10 r = V 10 a - V 10 b ∧ r.length ≤ a.length := by
  have hl : b.length ≤ a.length := by
    apply Classical.byContradiction
    intro hc
    have := V_len_lt (B := 10) (by omega) ha hb tb (by omega)
    omega
  unfold dowelref01_minus.f
  exact minus10_loop a b ha hb (by omega) hl hge a.length k 0 0 [] (by omega) (by omega) rfl (by omega) (by omega) (Dg_nil _) (by simp [V])
end Go.Proofs.YtapckjeedekphaaGreatDoor

namespace Go.Proofs.YtapckjeedekphaaGreatDoor
open Go.RowKit Go.Proofs.YtapckjeedekphaaGreatDoorW.PrintWords PR
theorem cmp_neg (x : Int) : decide (cmp x 0 < 0) = decide (x < 0) := by
  unfold cmp; by_cases h : x < 0
  · simp [h]
  · by_cases h2 : x = 0 <;> simp [h, h2]
theorem cmp_pos (x : Int) : decide (cmp x 0 > 0) = decide (0 < x) := by
  unfold cmp; by_cases h : x < 0
  · have : ¬ 0 < x := by omega
    simp [h, this]
  · by_cases h2 : x = 0
    · simp [h2]
    · have : 0 < x := by omega
      simp [h, h2, this]
theorem Vab (z : Int) : V 10 (D10 z.natAbs) = (z.natAbs : Int) := D10_V _
theorem neg10 (z : Int) {n : Nat} (h : Td n z) (hn : n ≤ 300000) (k : Nat) (hk : 3 * n + 4 < k) : dowelref01_Neg.f k (S (itx z)) = some (S (itx (-z))) := by
  have hl := Td_len h
  unfold dowelref01_Neg.f
  rw [sign10, Option.bind_some, digits10z z h (by omega) k hk, Option.bind_some, text10z _ _ (D10_Dg _) (by omega) k (by omega), Option.bind_some, cmp_pos, Vab]
  congr 3
  by_cases c : 0 < z
  · simp only [c, decide_true, if_true]; omega
  · simp only [c, decide_false, Bool.false_eq_true, if_false]; omega
theorem add10 (x y : Int) {n : Nat} (hx : Td n x) (hy : Td n y) (hn : n ≤ 300000) (k : Nat) (hk : 3 * n + 8 < k) : dowelref01_Add.f k (S (itx x)) (S (itx y)) = some (S (itx (x + y))) := by
  have lx := Td_len hx
  have ly := Td_len hy
  have vx := Vab x
  have vy := Vab y
  unfold dowelref01_Add.f
  simp only [digits10z x hx (by omega) k (by omega), digits10z y hy (by omega) k (by omega), sign10, Option.bind_some, cmp_neg]
  by_cases c : (decide (x < 0) == decide (y < 0)) = true
  · rw [if_pos c]
    obtain ⟨r, h1, h2, h3, h4⟩ := plus10 _ _ (D10_Dg x.natAbs) (D10_Dg y.natAbs) n (by omega) lx ly k (by omega)
    rw [h1, Option.bind_some, text10z _ r h2 (by omega) k (by omega), Option.bind_some, h3, vx, vy]
    congr 3
    by_cases cx : x < 0
    · have cy : y < 0 := by simpa [cx] using c
      simp only [cx, decide_true, if_true]; omega
    · have cy : ¬ y < 0 := by simpa [cx] using c
      simp only [cx, decide_false, Bool.false_eq_true, if_false]; omega
  · rw [if_neg c, order10 _ _ (D10_Dg _) (D10_Dg _) (D10_Tr _) (D10_Tr _) (by omega) k (by omega), Option.bind_some, vx, vy]
    have hxy : (x < 0 ∧ 0 ≤ y) ∨ (0 ≤ x ∧ y < 0) := by
      by_cases cx : x < 0
      · by_cases cy : y < 0
        · exact absurd (by simp [cx, cy]) c
        · omega
      · by_cases cy : y < 0
        · omega
        · exact absurd (by simp [cx, cy]) c
    by_cases c2 : (y.natAbs : Int) ≤ x.natAbs
    · have hc : cmp (x.natAbs : Int) y.natAbs ≥ 0 := by unfold cmp; rw [if_neg (by omega)]; split <;> omega
      obtain ⟨r, h1, h2, h3, h4⟩ := minus10 _ _ (D10_Dg x.natAbs) (D10_Dg y.natAbs) (D10_Tr _) (by omega) (by rw [vx, vy]; exact c2) k (by omega)
      have hl := trD_len r
      rw [if_pos hc, h1, Option.bind_some, text10z _ _ (trD_Dg h2) (by omega) k (by omega), Option.bind_some, trD_V, h3, vx, vy]
      congr 3
      by_cases cx : x < 0
      · simp only [cx, decide_true, if_true]; omega
      · simp only [cx, decide_false, Bool.false_eq_true, if_false]; omega
    · have hc : ¬ cmp (x.natAbs : Int) y.natAbs ≥ 0 := by rw [cmp_lt (by omega)]; decide
      obtain ⟨r, h1, h2, h3, h4⟩ := minus10 _ _ (D10_Dg y.natAbs) (D10_Dg x.natAbs) (D10_Tr _) (by omega) (by rw [vx, vy]; omega) k (by omega)
      have hl := trD_len r
      rw [if_neg hc, h1, Option.bind_some, text10z _ _ (trD_Dg h2) (by omega) k (by omega), Option.bind_some, trD_V, h3, vx, vy]
      congr 3
      by_cases cy : y < 0
      · simp only [cy, decide_true, if_true]; omega
      · simp only [cy, decide_false, Bool.false_eq_true, if_false]; omega
theorem Td_neg {n : Nat} {z : Int} (h : Td n z) : Td n (-z) := by unfold Td at *; omega
theorem sub10 (x y : Int) {n : Nat} (hx : Td n x) (hy : Td n y) (hn : n ≤ 300000) (k : Nat) (hk : 3 * n + 8 < k) : dowelref01_Sub.f k (S (itx x)) (S (itx y)) = some (S (itx (x - y))) := by
  unfold dowelref01_Sub.f
  rw [neg10 y hy hn k (by omega), Option.bind_some, add10 x (-y) hx (Td_neg hy) hn k hk, Option.bind_some, Int.sub_eq_add_neg]

theorem set_split (l : List Int) (n : Nat) (v : Int) (h : n < l.length) : l.set n v = l.take n ++ v :: l.drop (n + 1) := by
  rw [List.set_eq_take_append_cons_drop, if_pos h]
theorem rd_set_self (l : List Int) (n : Nat) (v : Int) (h : n < l.length) : rd (l.set n v) (n : Int) = v := by
  rw [rd_nat _ n (by simpa using h)]; simp
theorem cmp_ge (x y : Int) : cmp x y ≥ 0 ↔ y ≤ x := by
  unfold cmp
  by_cases h : x < y
  · rw [if_pos h]; omega
  · rw [if_neg h]; by_cases h2 : x = y
    · rw [if_pos h2]; omega
    · rw [if_neg h2]; omega
/-- One place of the quotient: the divisor is taken away as often as it goes. -/
theorem div10_inner (s t : ByteArray) (da db : List Int) (hb : Dg 10 db) (tb : Tr db) (i : Nat) (hi : i ≤ 300000) (K : Nat) (j : Nat) :
    ∀ rest q, 2 * rest.length + 4 < K → rest.length ≤ 300001 → i < q.length → Dg 10 rest → Tr rest → rd q i + j ≤ 9 → 0 ≤ rd q i → V 10 rest < (j + 1) * V 10 db →
    ∃ (m : Nat) (rest' : List Int), m ≤ j ∧ Dg 10 rest' ∧ Tr rest' ∧ rest'.length ≤ rest.length ∧ V 10 rest' < V 10 db ∧ V 10 rest = m * V 10 db + V 10 rest' ∧
      ∀ k, K ≤ k → dowelref01_DivMod.l1 (k + m + 1) s t da db rest q (i : Int) = dowelref01_DivMod.l0 k s t da db rest' (q.set i (rd q i + m)) ((i : Int) - 1) := by
  induction j with
  | zero =>
    intro rest q hK hr hq hd ht h9 h0 hV
    have hV' : V 10 rest < V 10 db := by omega
    refine ⟨0, rest, Nat.le_refl _, hd, ht, Nat.le_refl _, hV', by omega, fun k hk => ?_⟩
    simp only [dowelref01_DivMod.l1]
    rw [order10 rest db hd hb ht tb (by omega) _ (by omega), Option.bind_some, if_neg (by rw [cmp_ge]; omega), w64p i (by omega)]
    congr 1
    rw [show rd q (i : Int) + ((0 : Nat) : Int) = rd q i by omega]
    rw [rd_nat q i hq]
    exact (List.set_getElem_self hq).symm
  | succ j ih =>
    intro rest q hK hr hq hd ht h9 h0 hV
    by_cases c : V 10 rest < V 10 db
    · refine ⟨0, rest, by omega, hd, ht, Nat.le_refl _, c, by omega, fun k hk => ?_⟩
      simp only [dowelref01_DivMod.l1]
      rw [order10 rest db hd hb ht tb (by omega) _ (by omega), Option.bind_some, if_neg (by rw [cmp_ge]; omega), w64p i (by omega)]
      congr 1
      rw [show rd q (i : Int) + ((0 : Nat) : Int) = rd q i by omega]
      rw [rd_nat q i hq]
      exact (List.set_getElem_self hq).symm
    · have hK0 : 2 * rest.length + 2 < K := by omega
      obtain ⟨r, h1, h2, h3, h4⟩ := minus10 rest db hd hb tb (by omega) (by omega) K hK0
      have hl := trD_len r
      have hrs := rd_set_self q i (rd q i + 1) hq
      have hq' : i < (q.set i (rd q i + 1)).length := by simpa using hq
      obtain ⟨m, rest', m1, m2, m3, m4, m5, m6, m7⟩ := ih (trD r) (q.set i (rd q i + 1)) (by omega) (by omega) hq' (trD_Dg h2) (trD_Tr r) (by rw [hrs]; omega) (by rw [hrs]; omega)
        (by rw [trD_V, h3]; have e : ((j + 1 : Nat) : Int) = (j : Int) + 1 := by omega
            rw [e, Int.add_mul ((j : Int) + 1) 1] at hV; omega)
      refine ⟨m + 1, rest', by omega, m2, m3, by omega, m5, ?_, fun k hk => ?_⟩
      · rw [trD_V, h3] at m6
        have e : ((m + 1 : Nat) : Int) = (m : Int) + 1 := by omega
        rw [e, Int.add_mul]; omega
      · have e : k + (m + 1) + 1 = (k + m + 1) + 1 := by omega
        have m7k := m7 k hk
        rw [e]
        generalize hK1 : k + m + 1 = K1 at *
        simp only [dowelref01_DivMod.l1]
        obtain ⟨r', h1', h2', h3', h4'⟩ := minus10 rest db hd hb tb (by omega) (by omega) K1 (by omega)
        have er : trD r' = trD r := V_inj (B := 10) (by omega) (trD_Dg h2') (trD_Dg h2) (trD_Tr _) (trD_Tr _) (by rw [trD_V, trD_V, h3, h3'])
        rw [order10 rest db hd hb ht tb (by omega) _ (by omega), Option.bind_some, if_pos (by rw [cmp_ge]; omega), h1', Option.bind_some, if_pos (by omega), if_pos (by omega), er, w64 (by omega) (by omega)]
        rw [show ((i : Int)).toNat = i from rfl, m7k, hrs, List.set_set]
        congr 2
        omega
theorem fdivmod_eq {x y q r : Int} (h : x = q * y + r) (hr : (0 ≤ r ∧ r < y) ∨ (y < r ∧ r ≤ 0)) : x.fdiv y = q ∧ x.fmod y = r := by
  have hy : y ≠ 0 := by omega
  have e1 : x.fmod y = r := by
    rw [h, Int.add_comm, Int.mul_comm, Int.add_mul_fmod_self_left]
    rcases hr with ⟨h0, h1⟩ | ⟨h0, h1⟩
    · rw [Int.fmod_eq_emod_of_nonneg _ (by omega), Int.emod_eq_of_lt h0 h1]
    · have := Int.neg_fmod_neg (-r) (-y)
      rw [Int.neg_neg, Int.neg_neg] at this
      rw [this, Int.fmod_eq_emod_of_nonneg _ (by omega), Int.emod_eq_of_lt (by omega) (by omega), Int.neg_neg]
  refine ⟨?_, e1⟩
  have h3 := Int.mul_fdiv_add_fmod x y
  rw [e1] at h3
  exact Int.eq_of_mul_eq_mul_right hy (by rw [Int.mul_comm]; omega)
end Go.Proofs.YtapckjeedekphaaGreatDoor

