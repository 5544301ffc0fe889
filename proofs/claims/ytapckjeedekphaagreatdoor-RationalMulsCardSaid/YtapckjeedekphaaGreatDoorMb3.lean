/- Part 3 of the walk: our own texts for this claim, in order. -/
import Derived.Test.YtapckjeedekphaaGreatDoorMb2
import Derived.Lib.Hide
import Derived.Outline
import Derived.Deep.LoopGhost
import Derived.Deep.QuietTactic
import Derived.BigQuiet
import Derived.WalkLawsBesides
import Derived.Deep.RegionHeld3
import Derived.Lib.IndexBytes
import Derived.WideShapes
namespace Go.Proofs.YtapckjeedekphaaGreatDoor
open Go.RowKit Go.Proofs.YtapckjeedekphaaGreatDoorW.PrintWords PR
theorem V_cons (B d : Int) (l : List Int) : V B (d :: l) = d + B * V B l := rfl
theorem V_drop_succ (B : Int) (l : List Int) (n : Nat) (h : n < l.length) : V B (l.drop n) = rd l n + B * V B (l.drop (n + 1)) := by
  rw [drop_rd l n h, V_cons]
theorem Td_mono {m n : Nat} {z : Int} (h : Td m z) (hmn : m ≤ n) : Td n z := by
  have h1 := pow_le' (B := 10) (by omega) hmn
  unfold Td at *
  omega
theorem div10_outer (s t : ByteArray) (da db : List Int) (ha : Dg 10 da) (hb : Dg 10 db) (tb : Tr db) (N : Nat) (hda : da.length ≤ N) (hdb : db.length ≤ N) (hN : N ≤ 100000) (n : Nat) :
    ∀ k rest qs, 3 * N + 20 + 12 * n < k → n + qs.length = da.length → Dg 10 qs → Dg 10 rest → Tr rest → rest.length ≤ db.length → V 10 rest < V 10 db → V 10 (da.drop n) = V 10 qs * V 10 db + V 10 rest →
    ∃ k' q' rest', 3 * N + 20 < k' ∧ q'.length = da.length ∧ Dg 10 q' ∧ Dg 10 rest' ∧ Tr rest' ∧ rest'.length ≤ db.length ∧ V 10 rest' < V 10 db ∧ V 10 da = V 10 q' * V 10 db + V 10 rest' ∧
      dowelref01_DivMod.l0 k s t da db rest (List.replicate n 0 ++ qs) ((n : Int) - 1) = dowelref01_DivMod.l0 k' s t da db rest' q' (-1) := by
  induction n with
  | zero =>
    intro k rest qs hk hl hq hd ht hr hV hE
    refine ⟨k, qs, rest, by omega, by omega, hq, hd, ht, hr, hV, by simpa using hE, ?_⟩
    congr 1
  | succ n ih =>
    intro k rest qs hk hl hq hd ht hr hV hE
    obtain ⟨k, rfl⟩ : ∃ m, k = m + 1 := ⟨k - 1, by omega⟩
    have hn : n < da.length := by omega
    have hx := Dg_rd ha n hn
    have hd1 : Dg 10 (rd da n :: rest) := Dg_cons.2 ⟨hx, hd⟩
    have hlen : (rd da n :: rest).length ≤ N + 1 := by simp; omega
    have htl := trD_len (rd da n :: rest)
    have hqi : rd (List.replicate (n + 1) 0 ++ qs) (n : Int) = 0 := by
      rw [rd_nat _ n (by simp; omega), List.getElem_append_left (by simp)]
      simp
    have hVr := V_nonneg (B := 10) (by omega) hd
    obtain ⟨m, rest', m1, m2, m3, m4, m5, m6, m7⟩ := div10_inner s t da db hb tb n (by omega) (2 * N + 12) 9 (trD (rd da n :: rest)) (List.replicate (n + 1) 0 ++ qs)
      (by omega) (by omega) (by simp; omega) (trD_Dg hd1) (trD_Tr _) (by rw [hqi]; omega) (by rw [hqi]; omega) (by rw [trD_V, V_cons]; omega)
    have hr' : rest'.length ≤ db.length := by
      apply Classical.byContradiction
      intro hc
      have := V_len_lt (B := 10) (by omega) hb m2 m3 (by omega)
      omega
    rw [trD_V, V_cons] at m6
    have hset : (List.replicate (n + 1) 0 ++ qs).set n (0 + (m : Int)) = List.replicate n 0 ++ ((m : Int) :: qs) := by
      rw [set_split _ n _ (by simp; omega)]
      congr 1
      · rw [List.take_append_of_le_length (by simp), List.take_replicate]
        congr 1
        omega
      · rw [Int.zero_add]
        congr 1
        rw [List.drop_append_of_le_length (by simp), List.drop_replicate]
        simp
    have hstep : dowelref01_DivMod.l0 (k + 1) s t da db rest (List.replicate (n + 1) 0 ++ qs) (((n + 1 : Nat) : Int) - 1) = dowelref01_DivMod.l0 (k - m - 1) s t da db rest' (List.replicate n 0 ++ ((m : Int) :: qs)) ((n : Int) - 1) := by
      have m7k := m7 (k - m - 1) (by omega)
      rw [show k - m - 1 + m + 1 = k by omega, hqi, hset] at m7k
      rw [← m7k, show ((n + 1 : Nat) : Int) - 1 = n by omega]
      simp only [dowelref01_DivMod.l0]
      rw [if_pos (by omega), if_pos (by omega), if_pos (by omega), Option.bind_some, if_pos (by simp; omega), List.singleton_append, trim10 _ (by omega) k (by omega), Option.bind_some]
    rw [hstep]
    refine ih (k - m - 1) rest' ((m : Int) :: qs) (by omega) (by simp; omega) (Dg_cons.2 ⟨by omega, hq⟩) m2 m3 hr' m5 ?_
    rw [V_drop_succ 10 da n hn, hE, V_cons]
    have e : (10 : Int) * (V 10 qs * V 10 db + V 10 rest) = 10 * V 10 qs * V 10 db + 10 * V 10 rest := by grind
    have e2 : ((m : Int) + 10 * V 10 qs) * V 10 db = m * V 10 db + 10 * V 10 qs * V 10 db := by grind
    omega
theorem itx_one : itx 1 = [49] := by
  unfold itx
  rw [show (1 : Int).natAbs = 1 from rfl, D10_eq (l := [1]) (by intro x hx; simp at hx; omega) (.inr ⟨[], 1, rfl, by decide⟩) (by rfl)]
  rfl
theorem D10_inj_itx {x y : Int} (h : itx x = itx y) : x = y := by
  have h1 := dl_itx x
  have h2 := dl_itx y
  rw [h] at h1
  have h3 : x.natAbs = y.natAbs := by
    have := D10_V x.natAbs
    rw [← h1, h2, D10_V] at this
    omega
  have h4 := sign10 x
  have h5 := sign10 y
  rw [h] at h4
  rw [h4] at h5
  have h6 : cmp x 0 = cmp y 0 := by simpa using h5
  have a1 := cmp_neg x
  have a2 := cmp_neg y
  rw [h6, a2] at a1
  simp at a1
  omega
theorem sgn_mul (x y : Int) : decide (wrap64 (cmp x 0 * cmp y 0) < 0) = decide ((x < 0 ∧ 0 < y) ∨ (0 < x ∧ y < 0)) := by
  have h : wrap64 (cmp x 0 * cmp y 0) = cmp x 0 * cmp y 0 := by
    unfold cmp; split <;> split <;> (try split) <;> (try split) <;> (refine w64 ?_ ?_ <;> decide)
  rw [h]
  unfold cmp
  by_cases h1 : x < 0
  · by_cases h2 : y < 0
    · simp [h1, h2]; omega
    · by_cases h3 : y = 0
      · simp [h1, h3]
      · have : 0 < y := by omega
        simp [h1, h2, h3, this]
  · by_cases h3 : x = 0
    · simp [h3]
    · have : 0 < x := by omega
      by_cases h2 : y < 0
      · simp [h1, h3, h2, this]
      · by_cases h4 : y = 0 <;> simp [h1, h3, h2, h4]
theorem divmod10 (x y : Int) (hy : y ≠ 0) {n : Nat} (hx : Td n x) (hyd : Td n y) (hn : n ≤ 100000) (k : Nat) (hk : 16 * n + 40 < k) :
    dowelref01_DivMod.f k (S (itx x)) (S (itx y)) = some (S (itx (x.fdiv y)), S (itx (x.fmod y))) := by
  have lx := Td_len hx
  have ly := Td_len hyd
  have vx := Vab x
  have vy := Vab y
  unfold dowelref01_DivMod.f
  rw [digits10z x hx (by omega) k (by omega), digits10z y hyd (by omega) k (by omega)]
  simp only [Option.bind_some]
  rw [if_pos (by omega), if_pos (by omega), w64p _ (by omega), Int.toNat_natCast]
  obtain ⟨k', q', r', h1, h2, h3, h4, h5, h6, h7, h8, h9⟩ := div10_outer (S (itx x)) (S (itx y)) (D10 x.natAbs) (D10 y.natAbs) (D10_Dg _) (D10_Dg _) (D10_Tr _) n lx ly (by omega) (D10 x.natAbs).length k [] []
    (by omega) (by simp) (Dg_nil _) (Dg_nil _) (.inl rfl) (by simp) (by rw [vy]; simp only [V]; omega) (by simp [V])
  rw [List.append_nil] at h9
  rw [h9]
  rw [vx, vy] at h8
  rw [vy] at h7
  have n1 := V_nonneg (B := 10) (by omega) h3
  have n2 := V_nonneg (B := 10) (by omega) h4
  obtain ⟨k', rfl⟩ : ∃ m, k' = m + 1 + 1 := ⟨k' - 2, by omega⟩
  generalize hQ : V 10 q' = Q at *
  generalize hR : V 10 r' = R at *
  have hQle : Q ≤ x.natAbs := by
    have : Q * 1 ≤ Q * (y.natAbs : Int) := Int.mul_le_mul_of_nonneg_left (by omega) n1
    omega
  simp only [dowelref01_DivMod.l0]
  rw [if_neg (by omega), sign10, sign10]
  simp only [Option.bind_some]
  rw [text10z _ q' h3 (by omega) _ (by omega), text10z _ r' h4 (by omega) _ (by omega)]
  simp only [Option.bind_some]
  rw [sgn_mul, cmp_neg, hQ, hR, S_toList, sign10, Option.bind_some]
  generalize hq0 : (if decide (x < 0 ∧ 0 < y ∨ 0 < x ∧ y < 0) = true then -Q else Q) = q0
  generalize hr0 : (if decide (x < 0) = true then -R else R) = r0
  have hq0' : q0 = if (x < 0 ∧ 0 < y ∨ 0 < x ∧ y < 0) then -Q else Q := by rw [← hq0]; simp
  have hr0' : r0 = if x < 0 then -R else R := by rw [← hr0]; simp
  have hE : x = q0 * y + r0 := by
    rw [hq0', hr0']
    have e : (x.natAbs : Int) = Q * (y.natAbs : Int) + R := h8
    by_cases cx : x < 0
    · have ex : (x.natAbs : Int) = -x := by omega
      by_cases cy : y < 0
      · have ey : (y.natAbs : Int) = -y := by omega
        rw [if_neg (by omega), if_pos cx]
        rw [ex, ey, Int.mul_neg] at e
        omega
      · have ey : (y.natAbs : Int) = y := by omega
        rw [if_pos (by omega), if_pos cx, Int.neg_mul]
        rw [ex, ey] at e
        omega
    · have ex : (x.natAbs : Int) = x := by omega
      by_cases cy : y < 0
      · have ey : (y.natAbs : Int) = -y := by omega
        rw [ex, ey, Int.mul_neg] at e
        by_cases c0 : 0 < x
        · rw [if_pos (by omega), if_neg cx, Int.neg_mul]
          omega
        · have q00 : Q = 0 := by omega
          rw [if_neg (by omega), if_neg cx, q00]
          rw [q00] at e
          omega
      · have ey : (y.natAbs : Int) = y := by omega
        rw [if_neg (by omega), if_neg cx]
        rw [ex, ey] at e
        omega
  have hb0 : (if x < 0 then -R else R).natAbs < y.natAbs := by split <;> omega
  have hb : r0.natAbs < y.natAbs := by rw [hr0']; exact hb0
  have hqT : Td n q0 := by
    unfold Td at *
    rw [hq0']
    split <;> omega
  have hrT : Td n r0 := by
    unfold Td at *
    omega
  by_cases c : itx r0 = [48]
  · have hr : r0 = 0 := D10_inj_itx (by rw [c, itx_zero])
    rw [if_pos c]
    simp only [dowelref01_DivMod.j2]
    rw [if_neg (by decide)]
    have := fdivmod_eq (x := x) (y := y) (q := q0) (r := r0) hE (by omega)
    rw [this.1, this.2]
  · have hr : r0 ≠ 0 := fun e => c (by rw [e, itx_zero])
    rw [if_neg c]
    have hs : (cmp r0 0 != cmp y 0) = decide ((r0 < 0 ∧ 0 < y) ∨ (0 < r0 ∧ y < 0)) := by
      unfold cmp
      by_cases c1 : r0 < 0
      · by_cases c2 : y < 0
        · simp [c1, c2]; omega
        · have c3 : 0 < y := by omega
          simp [c1, c2, hy, c3]
      · have c1' : 0 < r0 := by omega
        by_cases c2 : y < 0
        · simp [c1, c2, hr, c1']
        · simp [c1, c2, hr, hy]
    rw [hs]
    simp only [dowelref01_DivMod.j2]
    by_cases c3 : (r0 < 0 ∧ 0 < y) ∨ (0 < r0 ∧ y < 0)
    · rw [if_pos (by simpa using c3)]
      have hone : (⟨#[49]⟩ : ByteArray) = S (itx 1) := by rw [itx_one]; rfl
      have t1 : Td (n + 1) 1 := by
        unfold Td
        rw [Int.pow_succ]
        have := pow_pos' (B := 10) (by omega) n
        omega
      rw [hone, sub10 q0 1 (Td_mono hqT (Nat.le_succ n)) t1 (by omega) _ (by omega), Option.bind_some, add10 r0 y hrT hyd (by omega) _ (by omega), Option.bind_some]
      have := fdivmod_eq (x := x) (y := y) (q := q0 - 1) (r := r0 + y) (by rw [Int.sub_mul]; omega) (by omega)
      rw [this.1, this.2]
    · rw [if_neg (by simpa using c3)]
      have := fdivmod_eq (x := x) (y := y) (q := q0) (r := r0) hE (by omega)
      rw [this.1, this.2]
end Go.Proofs.YtapckjeedekphaaGreatDoor

namespace Go.Proofs.YtapckjeedekphaaGreatDoor
open Go.RowKit Go.Proofs.YtapckjeedekphaaGreatDoorW.PrintWords PR
theorem r_sign (z : Int) (w : World) : Calls Tryz.prog 126 #[.string (S (itx z))] w fun e w' => e = .returned (.int .i64 (cmp z 0)) ∧ Below w.heap.size w w' :=
  (dowelref01_Sign.calls _ _ w (sign10 z)).mono fun _ _ ⟨h1, h2⟩ => ⟨h1, h2.below⟩
theorem r_neg (z : Int) (w : World) {n : Nat} (h : Td n z) (hn : n ≤ 100000) : Calls Tryz.prog 127 #[.string (S (itx z))] w fun e w' => e = .returned (.string (S (itx (-z)))) ∧ Below w.heap.size w w' :=
  dowelref01_Neg.calls _ _ _ w (neg10 z h (by omega) (3 * n + 5) (by omega))
theorem r_divmod (x y : Int) (w : World) (hy0 : y ≠ 0) {n : Nat} (hx : Td n x) (hy : Td n y) (hn : n ≤ 100000) : Calls Tryz.prog 129 #[.string (S (itx x)), .string (S (itx y))] w fun e w' => e = .returned (.tuple #[.string (S (itx (x.fdiv y))), .string (S (itx (x.fmod y)))]) ∧ Below w.heap.size w w' :=
  dowelref01_DivMod.calls _ _ _ _ _ w (divmod10 x y hy0 hx hy hn (16 * n + 41) (by omega))
theorem r_digits (z : Int) (w : World) {n : Nat} (h : Td n z) (hn : n ≤ 100000) : Calls Tryz.prog 154 #[.string (S (itx z))] w fun e w' => ∃ v, e = .returned v ∧ Kd.R (Kd.int .i64) 3 w' w.heap.size (fun _ => True) v (D10 z.natAbs) ∧ Below w.heap.size w w' :=
  dowelref01_digits.calls _ _ _ w (digits10z z h (by omega) (3 * n + 5) (by omega))
theorem r_text (neg : Bool) (v : Value) (d : List Int) (w0 w : World) (hB : Below w0.heap.size w0 w) (hR : Kd.R (Kd.int .i64) 3 w w0.heap.size (fun _ => True) v d) (hd : Dg 10 d) (hm : d.length ≤ 1000000) (z : Int) (hz : z = if neg then - V 10 d else V 10 d) :
    Calls Tryz.prog 155 #[.bool neg, v] w fun e w' => e = .returned (.string (S (itx z))) ∧ Below w0.heap.size w0 w' :=
  (dowelref01_text.calls _ _ _ _ _ _ w0 w hB hR (text10z neg d hd hm (d.length + 3) (by omega))).mono fun _ _ ⟨h1, h2, _⟩ => ⟨by rw [h1, hz], h2⟩
theorem itx_eq_zero (z : Int) : (itx z == [48]) = (z == 0) := by
  by_cases h : z = 0
  · subst h; rw [itx_zero]; rfl
  · have h2 : itx z ≠ [48] := fun e => h (D10_inj_itx (by rw [e, itx_zero]))
    rw [beq_eq_false_iff_ne.2 h, beq_eq_false_iff_ne.2 h2]
theorem bth {w w1 w2 : World} (h : Below w.heap.size w w1) (k : Below w1.heap.size w1 w2) : Below w.heap.size w w2 := below_then h h.size k
theorem Td_abs {n : Nat} {z : Int} (h : Td n z) : Td n (z.natAbs : Int) := by unfold Td at *; omega
theorem gcd_emod' (a b : Int) : Int.gcd b (a % b) = Int.gcd b a := by
  rw [Int.emod_def, Int.sub_eq_add_neg, ← Int.mul_neg, Int.gcd_add_mul_left_right]
/-- What the loop of Gcd holds. -/
def GcdRel (x y : Int) (n gk : Nat) (w w' : World) (v5 v6 : Value) : Prop := ∃ a b : Int, 0 ≤ a ∧ 0 ≤ b ∧ b < gk ∧ Td n a ∧ Td n b ∧ Int.gcd a b = Int.gcd x y ∧ v5 = .string (S (itx a)) ∧ v6 = .string (S (itx b)) ∧ Below w.heap.size w w'
set_option maxHeartbeats 400000 in
theorem r_gcd (x y : Int) (w : World) {n : Nat} (hx : Td n x) (hy : Td n y) (hn : n ≤ 100000) : Calls Tryz.prog 128 #[.string (S (itx x)), .string (S (itx y))] w fun e w' => e = .returned (.string (S (itx (Int.gcd x y)))) ∧ Below w.heap.size w w' := by
  have HX := Lib.hid hx
  have HY := Lib.hid hy
  have LX := Lib.hid (Td_len hx)
  have LY := Lib.hid (Td_len hy)
  clear hx hy
  go_enter Tryz.func128, Tryz.ntmps128
  go_wp2_with fail
  refine (r_digits x _ HX.out hn).mono ?_
  rintro e w1 ⟨v, rfl, hv, hb1⟩
  have HV := Lib.hid hv
  have HB1 := Lib.hid hb1
  clear hv hb1
  go_wp2_with fail
  refine (r_text false v _ w w1 HB1.out HV.out (D10_Dg _) (by have := LX.out; omega) x.natAbs (by rw [Vab]; rfl)).mono ?_
  rintro e w2 ⟨rfl, hb2⟩
  have HB2 := Lib.hid hb2
  clear hb2 HB1 HV
  go_wp2_with fail
  refine (r_digits y _ HY.out hn).mono ?_
  rintro e w3 ⟨v, rfl, hv, hb3⟩
  have HV := Lib.hid hv
  have HB3 := Lib.hid hb3
  clear hv hb3
  go_wp2_with fail
  refine (r_text false v _ w2 w3 HB3.out HV.out (D10_Dg _) (by have := LY.out; omega) y.natAbs (by rw [Vab]; rfl)).mono ?_
  rintro e w4 ⟨rfl, hb4⟩
  have HB4 := Lib.hid (bth HB2.out hb4)
  clear hb4 HB3 HV HB2
  go_wp2_with fail
  go_loopg [5, 6] (y.natAbs + 1) (fun gk v5 v6 w' => Hid (GcdRel x y n gk w w' v5 v6))
  case atStart => exact ⟨_, _, by omega, by omega, by omega, Td_abs HX.out, Td_abs HY.out, by simp [Int.gcd], rfl, rfl, HB4.out⟩
  case round =>
    clear HB4
    obtain ⟨a, b, ha, hb, hlt, ta, tb, hg, rfl, rfl, hB⟩ := hrel
    have HR := Lib.hid (And.intro ta (And.intro tb (And.intro hg hB)))
    have HL := Lib.hid hlt
    clear ta tb hg hB hlt
    by_cases c : b = 0
    · have hc : ((S (itx b)).toList == [48]) = true := by rw [S_toList, itx_eq_zero, c]; rfl
      have C := Lib.hid c
      clear c
      go_wp2_with fail
      go_ret
      obtain ⟨_, _, hg, hB⟩ := HR.out
      refine ⟨?_, hB⟩
      rw [← hg, C.out]
      simp [Int.natAbs_of_nonneg ha]
    · have hc : ((S (itx b)).toList == [48]) = false := by rw [S_toList, itx_eq_zero]; exact beq_eq_false_iff_ne.2 c
      go_wp2_with fail
      refine (r_divmod a b _ c HR.out.1 HR.out.2.1 hn).mono ?_
      rintro e w5 ⟨rfl, hb5⟩
      have HB5 := Lib.hid (bth HR.out.2.2.2 hb5)
      clear hb5
      go_wp2_with fail
      go_roundg (b.toNat)
      case measure => have := HL.out; omega
      case rel =>
        have hm := Int.fmod_lt_of_pos a (show 0 < b by omega)
        have hm0 := Int.fmod_nonneg_of_pos a (show 0 < b by omega)
        obtain ⟨ta, tb, hg, _⟩ := HR.out
        refine ⟨b, a.fmod b, hb, hm0, by omega, tb, ?_, ?_, rfl, rfl, HB5.out⟩
        · unfold Td at *; omega
        · rw [← hg, Int.fmod_eq_emod_of_nonneg _ hb, gcd_emod', Int.gcd_comm]
end Go.Proofs.YtapckjeedekphaaGreatDoor

namespace Go.Proofs.YtapckjeedekphaaGreatDoor
open Go.RowKit Go.Proofs.YtapckjeedekphaaGreatDoorW.PrintWords
theorem V_set (B : Int) (l : List Int) (j : Nat) (v : Int) (h : j < l.length) : V B (l.set j v) = V B l + B ^ j * (v - rd l j) := by
  rw [set_split l j v h, V_append, V_cons']
  have e : V B l = V B (l.take j) + B ^ j * (rd l j + B * V B (l.drop (j + 1))) := by
    rw [← V_cons', ← drop_rd l j h, ← V_take_drop B l j (by omega)]
  rw [e, List.length_take, Nat.min_eq_left (by omega)]
  grind
  where
  V_cons' {B d : Int} {l : List Int} : V B (d :: l) = d + B * V B l := rfl
theorem Dg_set {B : Int} {l : List Int} (h : Dg B l) (j : Nat) {v : Int} (hv : 0 ≤ v ∧ v < B) : Dg B (l.set j v) := by
  intro x hx
  rcases List.mem_or_eq_of_mem_set hx with h1 | h1
  · exact h x h1
  · rw [h1]; exact hv
/-- Zero from a place on. -/
def Zr (l : List Int) (n : Nat) : Prop := ∀ j, n ≤ j → j < l.length → rd l (j : Int) = 0
theorem Zr_mono {l : List Int} {m n : Nat} (h : Zr l m) (hmn : m ≤ n) : Zr l n := fun j h1 h2 => h j (by omega) h2
theorem rd_set_ne (l : List Int) (i j : Nat) (v : Int) (h : i ≠ j) : rd (l.set i v) (j : Int) = rd l (j : Int) := by
  unfold rd
  simp [List.getD_eq_getElem?_getD, h]
theorem Zr_set {l : List Int} {n j : Nat} {v : Int} (h : Zr l n) (hj : j < n) : Zr (l.set j v) n := fun i h1 h2 => by
  rw [rd_set_ne _ _ _ _ (by omega)]
  exact h i h1 (by simpa using h2)
theorem Zr_replicate (m n : Nat) : Zr (List.replicate m 0) n := fun j _ h2 => by
  rw [rd_nat _ j h2]; simp
theorem V_replicate (B : Int) (n : Nat) : V B (List.replicate n 0) = 0 := V_zeros B n
theorem Dg_replicate {B : Int} (hB : 0 < B) (n : Nat) : Dg B (List.replicate n 0) := fun x hx => by
  rw [(List.mem_replicate.1 hx).2]; omega
/-- The inner step. -/
theorem mul_inner {B : Int} {out a b : List Int} {i k : Nat} {c s X : Int} (hk : k < b.length) (hj : i + k < out.length) (hs : s = rd out ((i + k : Nat) : Int) + c + rd a i * rd b k)
    (hV : V B out + B ^ (i + k) * c = X + B ^ i * (rd a i * V B (b.take k))) : V B (out.set (i + k) (s % B)) + B ^ (i + (k + 1)) * (s / B) = X + B ^ i * (rd a i * V B (b.take (k + 1))) := by
  rw [V_set B out _ _ hj, V_take_succ' B b k hk, show i + (k + 1) = (i + k) + 1 by omega, Int.pow_succ, Int.pow_add]
  rw [Int.pow_add] at hV
  have e : s % B + B * (s / B) = s := Int.emod_add_mul_ediv s B
  have e2 : B ^ i * B ^ k * (s % B + B * (s / B)) = B ^ i * B ^ k * s := by rw [e]
  rw [hs] at e2
  grind
  where
  V_take_succ' (B : Int) (l : List Int) (n : Nat) (h : n < l.length) : V B (l.take (n + 1)) = V B (l.take n) + B ^ n * rd l n := by
    rw [take_rd l n h, V_snoc, List.length_take, Nat.min_eq_left (by omega)]
theorem mul_carry {B : Int} {out b : List Int} {i : Nat} {c X Y : Int} (hj : i + b.length < out.length) (hz : Zr out (i + b.length))
    (hV : V B out + B ^ (i + b.length) * c = X + B ^ i * (Y * V B b)) : V B (out.set (i + b.length) c) = X + B ^ i * (Y * V B b) := by
  rw [V_set B out _ _ hj, hz _ (Nat.le_refl _) hj, ← hV]
  grind
theorem mul_outer {B : Int} {a b : List Int} {i : Nat} (hi : i < a.length) : V B (a.take i) * V B b + B ^ i * (rd a i * V B b) = V B (a.take (i + 1)) * V B b := by
  rw [take_rd a i hi, V_snoc, List.length_take, Nat.min_eq_left (by omega), Int.add_mul]
  grind
end Go.Proofs.YtapckjeedekphaaGreatDoor

namespace Go.Proofs.YtapckjeedekphaaGreatDoor
open Go.RowKit Go.Proofs.YtapckjeedekphaaGreatDoorW.PrintWords PR
/-- A block of the call's own that holds these numbers and nothing else. -/
def IB (w : World) (g : Nat) (t : TypeId) (k : IntKind) (xs : List Int) : Prop := w.heap[g]? = some (.cells (xs.map (Value.int k)).toArray t (0, 0))
section
variable {w w' : World} {g : Nat} {t : TypeId} {k : IntKind} {xs : List Int}
theorem IB.cell (h : IB w g t k xs) (i : Nat) (hi : i < xs.length) : w.cell? ⟨g, i, none⟩ = some (.int k (rd xs i)) := by
  rw [cell_of_row w g i _ t (0, 0) h, rd_nat xs i hi]
  simp [hi]
theorem IB.frozen (h : IB w g t k xs) (i : Nat) : w.frozen? ⟨g, i, none⟩ = false := by
  unfold IB at h
  simp [World.frozen?, h]
theorem IB.set_ (h : IB w g t k xs) (i : Nat) (u : Int) : IB (w.setCell ⟨g, i, none⟩ (.int k u)) g t k (xs.set i u) := by
  unfold IB at h ⊢
  simp [World.setCell, Array.getElem?_modify, h, List.map_set]
theorem run_make_ib {P : Program} (tt e : TypeId) (i : TypeInfo) (k : IntKind) (bytes : Nat) (ht : P.underlying tt = some (.slice e)) (hi : P.info? e = some i) (hz : i.zero = some (.int k 0)) (hs : i.size = 1) (hby : i.bytes = bytes)
    (n : Nat) (hbytes : bytes * n ≤ 281474976710656) (h63 : n ≤ 9223372036854775807) (w : World) :
    (Instr.makeSlice tt (.int .i64 (n : Int)) (.int .i64 (n : Int))).run P w = .ok (.slice (some ⟨w.heap.size, 0, none⟩) n n) (w.alloc (.cells (madeCells #[.int k 0] n) e)) := by
  have hb : (i.bytes : Int) * (n : Int) ≤ 281474976710656 := by
    have h : ((i.bytes * n : Nat) : Int) ≤ 281474976710656 := by rw [hby]; omega
    rwa [Int.natCast_mul] at h
  have hr := run_make (P := P) w tt e i (.int k 0) ht hi hz .i64 .i64 n n (by omega) (by omega) hb (by omega)
  simp only [Int.toNat_natCast, hs, Nat.mul_one] at hr
  exact hr
theorem IB.new (w : World) (t : TypeId) (k : IntKind) (n : Nat) : IB (w.alloc (.cells (madeCells #[.int k 0] n) t)) w.heap.size t k (List.replicate n 0) := by
  unfold IB
  rw [heap_alloc_new]
  congr 2
  unfold madeCells
  apply Array.ext
  · simp
  · intro i h1 h2
    simp [Nat.mod_one]
end
end Go.Proofs.YtapckjeedekphaaGreatDoor

namespace Go.Proofs.YtapckjeedekphaaGreatDoor
open Go.RowKit Go.Proofs.YtapckjeedekphaaGreatDoorW.PrintWords PR
/-- What the loops of Mul hold in memory: the digits of the product so far. -/
structure MulMem (w2 w' : World) (g : Nat) (t : TypeId) (k : IntKind) (B : Int) (n : Nat) (out : List Int) : Prop where
  ib : IB w' g t k out
  len : out.length = n
  dg : Dg B out
  bl : Below w2.heap.size w2 w'
def MulOut (w2 w' : World) (g : Nat) (t : TypeId) (k : IntKind) (B : Int) (da db : List Int) (n i : Nat) (v8 : Value) : Prop :=
  ∃ out, v8 = .int .i64 i ∧ MulMem w2 w' g t k B n out ∧ Zr out (i + db.length) ∧ V B out = V B (da.take i) * V B db
def MulIn (w2 w' : World) (g : Nat) (t : TypeId) (k : IntKind) (B : Int) (da db : List Int) (n i j zi : Nat) (c : Int) : Prop :=
  ∃ out, MulMem w2 w' g t k B n out ∧ Zr out zi ∧ 0 ≤ c ∧ c < B ∧ V B out + B ^ (i + j) * c = V B (da.take i) * V B db + B ^ i * (rd da i * V B (db.take j))
end Go.Proofs.YtapckjeedekphaaGreatDoor

namespace Go.Proofs.YtapckjeedekphaaGreatDoor
open Go.RowKit Go.Proofs.YtapckjeedekphaaGreatDoorW.PrintWords PR
/-- The value is a slice that reads as these digits; its block is one of uint32s. -/
def Mg (w : World) (v : Value) (l : List Int) : Prop := ∃ A c, v = .slice A l.length c ∧ l.length ≤ c ∧ l.length ≤ 9223372036854775807 ∧
  (l ≠ [] → ∃ ad cells, A = some ad ∧ w.heap[ad.block]? = some (.cells cells 140 (0, 0)) ∧ ∀ j, j < l.length → w.cell? (ad.add j) = some (.int .u32 (rd l j)))
/-- The base of the program's digits. -/
abbrev B32 : Int := 4294967296
/-- The integer of a sign and digits. -/
def sgn (neg : Bool) (m : Int) : Int := if neg = true then -m else m
/-- The value is the integer z. -/
def RI (w : World) (v : Value) (z : Int) : Prop := ∃ neg m l, v = .agg #[.bool neg, m] ∧ Mg w m l ∧ Dg B32 l ∧ Tr l ∧ (neg = true → l ≠ []) ∧ z = sgn neg (V B32 l)
theorem add_block (a : Addr) (n : Nat) : (a.add n).block = a.block := by unfold Addr.add; split <;> rfl
/-- The blocks of uint32s are as they were. -/
def Kp (w w' : World) : Prop := ∀ (b : Nat) (cells : Array Value), w.heap[b]? = some (.cells cells 140 (0, 0)) → w'.heap[b]? = w.heap[b]?
theorem Kp.refl (w : World) : Kp w w := fun _ _ _ => rfl
theorem Kp.trans {w w1 w2 : World} (h : Kp w w1) (k : Kp w1 w2) : Kp w w2 := fun b cells hb => (k b cells ((h b cells hb).trans hb)).trans (h b cells hb)
theorem Kp.below {w w' : World} (hb : Below w.heap.size w w') : Kp w w' := fun b cells h => hb.block b (by
  rcases Nat.lt_or_ge b w.heap.size with hlt | hge
  · exact hlt
  · rw [Array.getElem?_eq_none hge] at h; cases h)
theorem Kp.alloc {w w' : World} (h : Kp w w') (o : Obj) : Kp w (w'.alloc o) := h.trans (.below (below_alloc (Below.refl _ _) o))
theorem Mg.kp {w w' : World} {v : Value} {l : List Int} (h : Mg w v l) (hk : Kp w w') : Mg w' v l := by
  obtain ⟨A, c, e, h1, h2, h3⟩ := h
  refine ⟨A, c, e, h1, h2, fun hl => ?_⟩
  obtain ⟨ad, cells, e2, h4, h5⟩ := h3 hl
  have h6 := hk _ _ h4
  exact ⟨ad, cells, e2, h6.trans h4, fun j hj => (World.cell?_of_block (by rw [add_block]; exact h6)).trans (h5 j hj)⟩
theorem Mg.below {w w' : World} {v : Value} {l : List Int} (h : Mg w v l) (hb : Below w.heap.size w w') : Mg w' v l := h.kp (.below hb)
theorem RI.kp {w w' : World} {v : Value} {z : Int} (h : RI w v z) (hk : Kp w w') : RI w' v z := by
  obtain ⟨neg, m, l, e, h1, h2, h3, h4, h5⟩ := h
  exact ⟨neg, m, l, e, h1.kp hk, h2, h3, h4, h5⟩
theorem RI.below {w w' : World} {v : Value} {z : Int} (h : RI w v z) (hb : Below w.heap.size w w') : RI w' v z := h.kp (.below hb)
theorem Mg.C {w : World} {A : Option Addr} {n c : Nat} {l : List Int} (h : Mg w (.slice A n c) l) : n = l.length ∧ l.length ≤ c ∧ Kd.C (Kd.int .u32) w A l.length l := by
  obtain ⟨A', c', e, h1, h2, h3⟩ := h
  injection e with e1 e2 e3
  subst e1 e2 e3
  refine ⟨rfl, h1, Kd.C_of_reads (d := 0) ⟨rfl, h2, fun hn => ?_⟩⟩
  obtain ⟨ad, cells, e2, _, h5⟩ := h3 (by intro e; rw [e] at hn; simp at hn)
  exact ⟨ad, e2, fun j hj => by rw [h5 j hj]; simp [rd]⟩
theorem Mg.nil (w : World) : Mg w (.slice none 0 0) [] := ⟨none, 0, rfl, Nat.le_refl _, by simp, fun h => absurd rfl h⟩
/-- A row of uint32s of the call's own. -/
theorem Mg.of_R {w : World} {v : Value} {l : List Int} {base : Nat} {ok : Nat → Prop} (h : Kd.R (Kd.int .u32) 140 w base ok v l) : Mg w v l := by
  obtain ⟨inner, ho⟩ := Kd.R_own h
  obtain ⟨A, c, e, h1, h2⟩ := Kd.R_reads h
  refine ⟨A, c, e, h1, Kd.C_max h2, fun hl => ?_⟩
  have hn : 0 < l.length := by cases l with
    | nil => exact absurd rfl hl
    | cons => simp
  subst e
  obtain ⟨g, cap, hv, _, _⟩ := ho.form hn
  injection hv with e1 _ _
  subst e1
  have hb : (Value.slice (some ⟨g, 0, none⟩) l.length c).ownBlock = some g := rfl
  obtain ⟨cells, hc⟩ := own_typed ho g hb
  exact ⟨⟨g, 0, none⟩, cells, rfl, hc, fun j hj => by
    obtain ⟨ad, e2, h3⟩ := Kd.at_int h2 (j : Int) (by omega) (by omega)
    injection e2 with e2
    subst e2
    exact h3⟩
theorem IB.Mg {w : World} {g : Nat} {xs : List Int} (h : IB w g 140 .u32 xs) (hl : xs.length ≤ 9223372036854775807) : Mg w (.slice (some ⟨g, 0, none⟩) xs.length xs.length) xs :=
  ⟨_, _, rfl, Nat.le_refl _, hl, fun _ => ⟨⟨g, 0, none⟩, _, rfl, h, fun j hj => by rw [add_plain]; exact h.cell j hj⟩⟩
/-- The first digits alone. -/
theorem Mg.take {w : World} {A : Option Addr} {n c : Nat} {l : List Int} (h : Mg w (.slice A n c) l) (m : Nat) (hm : m ≤ l.length) : Mg w (.slice A m c) (l.take m) := by
  obtain ⟨A', c', e, h1, h2, h3⟩ := h
  injection e with e1 e2 e3
  subst e1 e2 e3
  have el : (l.take m).length = m := by rw [List.length_take]; omega
  refine ⟨A, c, by rw [el], by omega, by omega, fun hl => ?_⟩
  obtain ⟨ad, cells, e2, h4, h5⟩ := h3 (by intro e; rw [e] at hl; simp at hl)
  refine ⟨ad, cells, e2, h4, fun j hj => ?_⟩
  rw [h5 j (by omega), rd_nat l j (by omega), rd_nat _ j hj]
  simp
theorem Mg.at_ {w : World} {A : Option Addr} {n c : Nat} {l : List Int} (h : Mg w (.slice A n c) l) (i : Nat) (hi : i < l.length) : ∃ ad, A = some ad ∧ w.cell? (ad.add i) = some (.int .u32 (rd l i)) := by
  obtain ⟨A', c', e, h1, h2, h3⟩ := h
  injection e with e1 e2 e3
  subst e1 e2 e3
  obtain ⟨ad, cells, e2, h4, h5⟩ := h3 (by intro e; rw [e] at hi; simp at hi)
  exact ⟨ad, e2, h5 i hi⟩
/-- The result is a slice that reads as l, or an integer. -/
def RetM (w : World) (l : List Int) (e : Ending) (w' : World) : Prop := ∃ v, e = .returned v ∧ Mg w' v l ∧ Below w.heap.size w w'
def RetI (w : World) (z : Int) (e : Ending) (w' : World) : Prop := ∃ v, e = .returned v ∧ RI w' v z ∧ Below w.heap.size w w'
def TrimRel (w w' : World) (l : List Int) (n : Nat) : Prop := n ≤ l.length ∧ trD l = trD (l.take n) ∧ Below w.heap.size w w'
set_option maxHeartbeats 400000 in
theorem p_trim (v : Value) (l : List Int) (w : World) (hv : Mg w v l) : Calls Tryz.prog 165 #[v] w (RetM w (trD l)) := by
  have hv0 := hv
  obtain ⟨A, c, rfl, hc, hmax, _⟩ := hv0
  have HC := Lib.hid hv
  clear hv
  go_enter Tryz.func165, Tryz.ntmps165
  go_wp2_with fail
  go_loopg [0] (l.length + 1) (fun gk v0 w' => ∃ n : Nat, n ≤ l.length ∧ n < gk ∧ v0 = .slice A n c ∧ Hid (TrimRel w w' l n))
  case atStart => exact ⟨l.length, Nat.le_refl _, by omega, rfl, Nat.le_refl _, by rw [List.take_length], Below.refl _ _⟩
  case round =>
    obtain ⟨n, hn, hgk, rfl, HR⟩ := hrel
    by_cases h0 : n = 0
    · subst h0
      go_wp2_with fail
      go_ret
      obtain ⟨_, h2, h3⟩ := HR.out
      have e : trD l = [] := by rw [h2]; rfl
      refine ⟨_, rfl, ?_, h3⟩
      rw [e]
      exact (HC.out.take 0 (Nat.zero_le _)).below h3
    · obtain ⟨j, rfl⟩ : ∃ j, n = j + 1 := ⟨n - 1, by omega⟩
      obtain ⟨ad, rfl, hcell⟩ := (HC.out.below HR.out.2.2).at_ j (by omega)
      by_cases hx : rd l j = 0
      · rw [hx] at hcell
        have HX := Lib.hid hx
        clear hx
        go_wp2_with fail
        go_roundg (gk - 1)
        case measure => omega
        case rel =>
          obtain ⟨_, h2, h3⟩ := HR.out
          refine ⟨j, by omega, by omega, by simp, by omega, ?_, h3⟩
          rw [h2, take_rd l j (by omega), HX.out, trD_snoc_zero]
      · have hx0 : (rd l j == 0) = false := beq_eq_false_iff_ne.2 hx
        have HX := Lib.hid hx
        clear hx
        generalize hxv : rd l (j : Int) = xv at *
        have HXV := Lib.hid hxv
        clear hxv
        go_wp2_with fail
        go_ret
        obtain ⟨_, h2, h3⟩ := HR.out
        have e : trD l = l.take (j + 1) := by rw [h2, take_rd l j (by omega), trD_snoc _ _ (by rw [HXV.out]; exact HX.out)]
        refine ⟨_, rfl, ?_, h3⟩
        rw [e]
        exact (HC.out.take (j + 1) (by omega)).below h3
end Go.Proofs.YtapckjeedekphaaGreatDoor

namespace Go.Proofs.YtapckjeedekphaaGreatDoor
open Go.RowKit Go.Proofs.YtapckjeedekphaaGreatDoorW.PrintWords PR
/-- A block of the call's own, known whole. -/
def Bx (w : World) (g : Nat) (t : TypeId) (cs : Array Value) : Prop := w.heap[g]? = some (.cells cs t (0, 0))
section
variable {w w' : World} {g : Nat} {t : TypeId} {cs : Array Value}
theorem Bx.lt (h : Bx w g t cs) : g < w.heap.size := by
  rcases Nat.lt_or_ge g w.heap.size with hlt | hge
  · exact hlt
  · unfold Bx at h; rw [Array.getElem?_eq_none hge] at h; cases h
theorem Bx.cell (h : Bx w g t cs) (i : Nat) : w.cell? ⟨g, i, none⟩ = cs[i]? := cell_of_row w g i cs t (0, 0) h
theorem Bx.frozen (h : Bx w g t cs) (i : Nat) : w.frozen? ⟨g, i, none⟩ = false := by unfold Bx at h; simp [World.frozen?, h]
theorem Bx.drew (h : Bx w g t cs) : Bx w.drew g t cs := h
theorem Bx.alloc (h : Bx w g t cs) (o : Obj) : Bx (w.alloc o) g t cs := (Below.heap_alloc w o g h.lt).trans h
theorem Bx.below (h : Bx w g t cs) (hb : Below w.heap.size w w') : Bx w' g t cs := (hb.block g h.lt).trans h
theorem Bx.set_ (h : Bx w g t cs) (i : Nat) (u : Value) : Bx (w.setCell ⟨g, i, none⟩ u) g t (cs.setIfInBounds i u) := by
  unfold Bx at h ⊢
  simp [World.setCell, Array.getElem?_modify, h]
theorem Bx.far (h : Bx w g t cs) {p : Addr} (hp : g ≠ p.block) (u : Value) : Bx (w.setCell p u) g t cs := (Below.heap_setCell w p u g hp).trans h
end
/-- The cells of a box, all at once. -/
theorem Bx.all2 {w : World} {g t : Nat} {a0 a1 : Value} (h : Bx w g t #[a0, a1]) : w.cell? ⟨g, 0, none⟩ = some a0 ∧ w.cell? ⟨g, 1, none⟩ = some a1 ∧ w.frozen? ⟨g, 0, none⟩ = false ∧ w.frozen? ⟨g, 1, none⟩ = false := ⟨h.cell 0, h.cell 1, h.frozen 0, h.frozen 1⟩
theorem Bx.all4 {w : World} {g t : Nat} {a0 a1 a2 a3 : Value} (h : Bx w g t #[a0, a1, a2, a3]) : w.cell? ⟨g, 0, none⟩ = some a0 ∧ w.cell? ⟨g, 1, none⟩ = some a1 ∧ w.cell? ⟨g, 2, none⟩ = some a2 ∧ w.cell? ⟨g, 3, none⟩ = some a3 ∧ w.frozen? ⟨g, 0, none⟩ = false ∧ w.frozen? ⟨g, 1, none⟩ = false ∧ w.frozen? ⟨g, 2, none⟩ = false ∧ w.frozen? ⟨g, 3, none⟩ = false := ⟨h.cell 0, h.cell 1, h.cell 2, h.cell 3, h.frozen 0, h.frozen 1, h.frozen 2, h.frozen 3⟩
theorem Kp.box {w w' : World} {g t : Nat} {cs : Array Value} (h : Kp w w') (hx : Bx w' g t cs) (ht : t ≠ 140) (i : Nat) (u : Value) : Kp w (w'.setCell ⟨g, i, none⟩ u) :=
  h.trans fun b cells hb => Below.heap_setCell w' ⟨g, i, none⟩ u b (by
    rintro rfl
    unfold Bx at hx
    rw [hx] at hb
    injection hb with hb
    injection hb with _ hb
    exact ht hb)
/-- A box has been made: its block, and the world, as letters. -/
theorem bx_event {P : Program} {ops : Array Oper} {rest : List Oper} {o : Oper} {a : Act} {Q : Exit → Act → World → Prop} {W : World} (hgd : o.guard = none) {cs : Array Value} {t : TypeId}
    (hrun : (execOp a.eval o).run P W = .ok (.value (.pointer (some ⟨W.heap.size, 0, none⟩))) (W.alloc (.cells cs t (0, 0))))
    (h : ∀ g w1, W.heap.size ≤ g → Bx w1 g t cs → Below W.heap.size W w1 → wpList P ops Q rest (a.put o.dst (.pointer (some ⟨g, 0, none⟩))) w1) : wpList P ops Q (o :: rest) a W :=
  Kd.event_run hgd hrun (h _ _ (Nat.le_refl _) (blk_new W _) (below_alloc (Below.refl _ _) _))
theorem sgn_RI {w : World} {neg : Bool} {m : Value} {l : List Int} (hm : Mg w m (trD l)) (hd : Dg B32 l) : RI w (.agg #[.bool (neg && decide ((trD l).length > 0)), m]) (sgn neg (V B32 l)) := by
  refine ⟨_, m, _, rfl, hm, trD_Dg hd, trD_Tr l, fun h => ?_, ?_⟩
  · intro e
    rw [e] at h
    simp at h
  · rw [trD_V]
    unfold sgn
    by_cases e : trD l = []
    · have h0 : V B32 l = 0 := by rw [← trD_V, e]; rfl
      rw [h0]; simp
    · have : (trD l).length > 0 := by cases h : trD l with
        | nil => exact absurd h e
        | cons => simp
      rw [decide_eq_true this, Bool.and_true]
set_option maxHeartbeats 400000 in
theorem p_signed (neg : Bool) (v : Value) (l : List Int) (w : World) (hv : Mg w v l) (hd : Dg B32 l) (z : Int) (hz : z = sgn neg (V B32 l)) : Calls Tryz.prog 123 #[.bool neg, v] w (RetI w z) := by
  have HV := Lib.hid hv
  clear hv
  have HZ := Lib.hid hz
  clear hz
  have HB := Lib.hid (Below.refl w.heap.size w)
  go_enter Tryz.func123, Tryz.ntmps123
  go_wp2_with ((with_reducible refine gate_dst (N := 4) rfl ?_); refine bx_event rfl (cs := #[.bool false, .slice none 0 0]) (t := 27) ?hr ?_; (case hr => first | (go_simp; done) | (go_simp; rfl)); intro g4 w4 hg4 bk4 hb)
  refine (p_trim v l w4 (HV.out.below hb)).mono ?_
  rintro e w5 ⟨m, rfl, hm, hb5⟩
  have HM := Lib.hid hm
  obtain ⟨A, c, rfl, hc, _, _⟩ := hm
  have BK := Lib.hid (bk4.below hb5)
  have HB5 := Lib.hid (bth hb hb5)
  have HG := Lib.hid hg4
  clear hb5 hb bk4 HV HB hg4
  have c40 := BK.out.cell 0
  have c41 := BK.out.cell 1
  have f40 := BK.out.frozen 0
  have f41 := BK.out.frozen 1
  have hlen := trD_len l
  have HS := Lib.hid (fun w (h : Mg w (.slice A (trD l).length c) (trD l)) => sgn_RI (neg := neg) h hd)
  generalize hn : (trD l).length = n at *
  clear hn hlen
  by_cases hn0 : 0 < n
  · have hd : decide (0 < n) = true := decide_eq_true hn0
    have hd2 : decide (0 < (n : Int)) = true := decide_eq_true (by omega)
    rw [show (neg && decide (n > 0)) = neg by rw [hd, Bool.and_true]] at HS
    cases neg
    all_goals
      go_wp2_with fail
      refine bodyPost_ret (results_cell_row rfl _ _ g4 27 #[.bool _, .slice A n c] (0, 0) _ rfl ((BK.out.set_ 0 _).set_ 1 _) Tryz.underlying27 rfl (by kernel_rfl)) rfl ?_
      refine ⟨_, rfl, ?_, (HB5.out.setCell HG.out _).setCell HG.out _⟩
      rw [HZ.out]
      refine HS.out _ (HM.out.kp ?_)
      exact ((Kp.refl _).box BK.out (by decide) 0 _).box (BK.out.set_ 0 _) (by decide) 1 _
  · have hd : decide (0 < n) = false := decide_eq_false hn0
    have hd2 : decide (0 < (n : Int)) = false := decide_eq_false (by omega)
    rw [show (neg && decide (n > 0)) = false by rw [hd, Bool.and_false]] at HS
    cases neg
    all_goals
      go_wp2_with fail
      refine bodyPost_ret (results_cell_row rfl _ _ g4 27 #[.bool _, .slice A n c] (0, 0) _ rfl ((BK.out.set_ 0 _).set_ 1 _) Tryz.underlying27 rfl (by kernel_rfl)) rfl ?_
      refine ⟨_, rfl, ?_, (HB5.out.setCell HG.out _).setCell HG.out _⟩
      rw [HZ.out]
      refine HS.out _ (HM.out.kp ?_)
      exact ((Kp.refl _).box BK.out (by decide) 0 _).box (BK.out.set_ 0 _) (by decide) 1 _
end Go.Proofs.YtapckjeedekphaaGreatDoor

namespace Go.Proofs.YtapckjeedekphaaGreatDoor
open Go.RowKit Go.Proofs.YtapckjeedekphaaGreatDoorW.PrintWords PR
/-- The sign of an integer, out of its parts. -/
theorem sgn_facts {neg : Bool} {l : List Int} (hd : Dg B32 l) (ht : Tr l) (hn : neg = true → l ≠ []) : (l = [] → neg = false ∧ sgn neg (V B32 l) = 0) ∧ (l ≠ [] → 0 < V B32 l) ∧ 0 ≤ V B32 l := by
  have h0 := V_nonneg (B := B32) (by decide) hd
  have h1 := Tr_ne (B := B32) (by decide) hd ht
  refine ⟨fun h => ?_, fun h => ?_, h0⟩
  · subst h
    have : neg = false := by cases neg with
      | false => rfl
      | true => exact absurd rfl (hn rfl)
    subst this
    exact ⟨rfl, rfl⟩
  · have : V B32 l ≠ 0 := fun e => h (h1.2 e)
    omega
set_option maxHeartbeats 400000 in
theorem p_sign (v : Value) (z : Int) (w : World) (hv : RI w v z) : Calls Tryz.prog 124 #[v] w fun e w' => e = .returned (.int .i64 (cmp z 0)) ∧ Below w.heap.size w w' := by
  obtain ⟨neg, m, l, rfl, hm, hd, ht, hn, hz⟩ := hv
  obtain ⟨A, c, rfl, hc, hmax, _⟩ := hm
  have HF := Lib.hid (sgn_facts hd ht hn)
  have HZ := Lib.hid hz
  clear hz hd ht hn
  by_cases h0 : l = []
  · subst h0
    have HE := Lib.hid (HF.out.1 rfl).2
    have hl : ((([] : List Int).length : Int) == 0) = true := rfl
    have HB := Lib.hid (Below.refl w.heap.size w)
    go_enter Tryz.func124, Tryz.ntmps124
    go_wp2_with (first | ((with_reducible refine gate_dst (N := 1) rfl ?_); refine bx_event rfl (cs := #[.bool neg, .slice A ([] : List Int).length c]) (t := 27) ?hr ?_; (case hr => first | (go_simp; done) | (go_simp; rfl)); intro g1 w1 hg bk hb; have HG1 := Lib.hid (Nat.le_trans HB.out.size hg); replace HB := Lib.hid (bth HB.out hb); have BK1 := Lib.hid bk; obtain ⟨c1_0, c1_1, f1_0, f1_1⟩ := BK1.out.all2; clear hb hg bk))
    go_ret
    exact ⟨by rw [HZ.out, HE.out, cmp_eq]; rfl, HB.out⟩
  · have hp := HF.out.2.1 h0
    have HP := Lib.hid hp
    clear hp
    have hl : ((l.length : Int) == 0) = false := beq_eq_false_iff_ne.2 (fun e => h0 (List.eq_nil_of_length_eq_zero (by omega)))
    have H0 := Lib.hid h0
    clear h0
    cases neg
    · have HB := Lib.hid (Below.refl w.heap.size w)
      go_enter Tryz.func124, Tryz.ntmps124
      go_wp2_with (first | ((with_reducible refine gate_dst (N := 1) rfl ?_); refine bx_event rfl (cs := #[.bool false, .slice A l.length c]) (t := 27) ?hr ?_; (case hr => first | (go_simp; done) | (go_simp; rfl)); intro g1 w1 hg bk hb; have HG1 := Lib.hid (Nat.le_trans HB.out.size hg); replace HB := Lib.hid (bth HB.out hb); have BK1 := Lib.hid bk; obtain ⟨c1_0, c1_1, f1_0, f1_1⟩ := BK1.out.all2; clear hb hg bk))
      go_ret
      exact ⟨by rw [HZ.out, cmp_gt (by unfold sgn; simp; exact HP.out)]; rfl, HB.out⟩
    · have HB := Lib.hid (Below.refl w.heap.size w)
      go_enter Tryz.func124, Tryz.ntmps124
      go_wp2_with (first | ((with_reducible refine gate_dst (N := 1) rfl ?_); refine bx_event rfl (cs := #[.bool true, .slice A l.length c]) (t := 27) ?hr ?_; (case hr => first | (go_simp; done) | (go_simp; rfl)); intro g1 w1 hg bk hb; have HG1 := Lib.hid (Nat.le_trans HB.out.size hg); replace HB := Lib.hid (bth HB.out hb); have BK1 := Lib.hid bk; obtain ⟨c1_0, c1_1, f1_0, f1_1⟩ := BK1.out.all2; clear hb hg bk))
      go_ret
      exact ⟨by rw [HZ.out, cmp_lt (by unfold sgn; simp; exact HP.out)]; rfl, HB.out⟩
theorem RI.mk {w : World} {neg : Bool} {m : Value} {l : List Int} (hm : Mg w m l) (hd : Dg B32 l) (ht : Tr l) (hn : neg = true → l ≠ []) : RI w (.agg #[.bool neg, m]) (sgn neg (V B32 l)) := ⟨neg, m, l, rfl, hm, hd, ht, hn, rfl⟩
theorem RI.cast {w : World} {v : Value} {x y : Int} (h : RI w v x) (e : x = y) : RI w v y := e ▸ h
set_option maxHeartbeats 400000 in
theorem p_neg (v : Value) (z : Int) (w : World) (hv : RI w v z) : Calls Tryz.prog 145 #[v] w (RetI w (-z)) := by
  obtain ⟨neg, m, l, rfl, hm, hd, ht, hn, hz⟩ := hv
  have HM := Lib.hid hm
  obtain ⟨A, c, rfl, hc, hmax, _⟩ := hm
  have HF := Lib.hid (And.intro hd (And.intro ht hn))
  have HZ := Lib.hid hz
  clear hz hd ht hn
  cases neg
  · have HE := Lib.hid (fun h : 0 < l.length => (RI.mk (w := w) (neg := true) HM.out HF.out.1 HF.out.2.1 (fun _ e => by rw [e] at h; simp at h)))
    by_cases hl : 0 < l.length
    · have hl2 : decide (0 < (l.length : Int)) = true := decide_eq_true (by omega)
      have HL := Lib.hid hl
      have HB := Lib.hid (Below.refl w.heap.size w)
      go_enter Tryz.func145, Tryz.ntmps145
      go_wp2_with (first | ((with_reducible refine gate_dst (N := 1) rfl ?_); refine bx_event rfl (cs := #[.bool false, .slice A l.length c]) (t := 27) ?hr ?_; (case hr => first | (go_simp; done) | (go_simp; rfl)); intro g1 w1 hg bk hb; have HG1 := Lib.hid (Nat.le_trans HB.out.size hg); replace HB := Lib.hid (bth HB.out hb); replace HM := Lib.hid (HM.out.below hb); have BK1 := Lib.hid bk; obtain ⟨c1_0, c1_1, f1_0, f1_1⟩ := BK1.out.all2; clear hb hg bk) | ((with_reducible refine gate_dst (N := 2) rfl ?_); refine bx_event rfl (cs := #[.bool false, .slice none 0 0]) (t := 27) ?hr ?_; (case hr => first | (go_simp; done) | (go_simp; rfl)); intro g2 w2 hg bk hb; have HG2 := Lib.hid (Nat.le_trans HB.out.size hg); replace HB := Lib.hid (bth HB.out hb); clear c1_0 c1_1 f1_0 f1_1; replace BK1 := Lib.hid (BK1.out.below hb); obtain ⟨c1_0, c1_1, f1_0, f1_1⟩ := BK1.out.all2; replace HM := Lib.hid (HM.out.below hb); have BK2 := Lib.hid bk; obtain ⟨c2_0, c2_1, f2_0, f2_1⟩ := BK2.out.all2; clear hb hg bk))
      refine bodyPost_ret (results_cell_row rfl _ _ g2 27 #[.bool _, .slice A l.length c] (0, 0) _ rfl ((BK2.out.set_ 0 _).set_ 1 _) Tryz.underlying27 rfl (by kernel_rfl)) rfl ?_
      refine ⟨_, rfl, ?_, (HB.out.setCell HG2.out _).setCell HG2.out _⟩
      refine ((RI.mk (neg := true) HM.out HF.out.1 HF.out.2.1 (fun _ e => by have h := HL.out; rw [e] at h; simp at h)).cast (by rw [HZ.out]; unfold sgn; simp)).kp ?_
      exact ((Kp.refl _).box BK2.out (by decide) 0 _).box (BK2.out.set_ 0 _) (by decide) 1 _
    · have hl2 : decide (0 < (l.length : Int)) = false := decide_eq_false (by omega)
      have HL := Lib.hid hl
      have HB := Lib.hid (Below.refl w.heap.size w)
      go_enter Tryz.func145, Tryz.ntmps145
      go_wp2_with (first | ((with_reducible refine gate_dst (N := 1) rfl ?_); refine bx_event rfl (cs := #[.bool false, .slice A l.length c]) (t := 27) ?hr ?_; (case hr => first | (go_simp; done) | (go_simp; rfl)); intro g1 w1 hg bk hb; have HG1 := Lib.hid (Nat.le_trans HB.out.size hg); replace HB := Lib.hid (bth HB.out hb); replace HM := Lib.hid (HM.out.below hb); have BK1 := Lib.hid bk; obtain ⟨c1_0, c1_1, f1_0, f1_1⟩ := BK1.out.all2; clear hb hg bk) | ((with_reducible refine gate_dst (N := 2) rfl ?_); refine bx_event rfl (cs := #[.bool false, .slice none 0 0]) (t := 27) ?hr ?_; (case hr => first | (go_simp; done) | (go_simp; rfl)); intro g2 w2 hg bk hb; have HG2 := Lib.hid (Nat.le_trans HB.out.size hg); replace HB := Lib.hid (bth HB.out hb); clear c1_0 c1_1 f1_0 f1_1; replace BK1 := Lib.hid (BK1.out.below hb); obtain ⟨c1_0, c1_1, f1_0, f1_1⟩ := BK1.out.all2; replace HM := Lib.hid (HM.out.below hb); have BK2 := Lib.hid bk; obtain ⟨c2_0, c2_1, f2_0, f2_1⟩ := BK2.out.all2; clear hb hg bk))
      refine bodyPost_ret (results_cell_row rfl _ _ g2 27 #[.bool _, .slice A l.length c] (0, 0) _ rfl ((BK2.out.set_ 0 _).set_ 1 _) Tryz.underlying27 rfl (by kernel_rfl)) rfl ?_
      refine ⟨_, rfl, ?_, (HB.out.setCell HG2.out _).setCell HG2.out _⟩
      refine ((RI.mk (neg := false) HM.out HF.out.1 HF.out.2.1 (fun h => by cases h)).cast (by rw [HZ.out, List.eq_nil_of_length_eq_zero (show l.length = 0 by have := HL.out; omega)]; rfl)).kp ?_
      exact ((Kp.refl _).box BK2.out (by decide) 0 _).box (BK2.out.set_ 0 _) (by decide) 1 _
  · have HB := Lib.hid (Below.refl w.heap.size w)
    go_enter Tryz.func145, Tryz.ntmps145
    go_wp2_with (first | ((with_reducible refine gate_dst (N := 1) rfl ?_); refine bx_event rfl (cs := #[.bool true, .slice A l.length c]) (t := 27) ?hr ?_; (case hr => first | (go_simp; done) | (go_simp; rfl)); intro g1 w1 hg bk hb; have HG1 := Lib.hid (Nat.le_trans HB.out.size hg); replace HB := Lib.hid (bth HB.out hb); replace HM := Lib.hid (HM.out.below hb); have BK1 := Lib.hid bk; obtain ⟨c1_0, c1_1, f1_0, f1_1⟩ := BK1.out.all2; clear hb hg bk) | ((with_reducible refine gate_dst (N := 2) rfl ?_); refine bx_event rfl (cs := #[.bool false, .slice none 0 0]) (t := 27) ?hr ?_; (case hr => first | (go_simp; done) | (go_simp; rfl)); intro g2 w2 hg bk hb; have HG2 := Lib.hid (Nat.le_trans HB.out.size hg); replace HB := Lib.hid (bth HB.out hb); clear c1_0 c1_1 f1_0 f1_1; replace BK1 := Lib.hid (BK1.out.below hb); obtain ⟨c1_0, c1_1, f1_0, f1_1⟩ := BK1.out.all2; replace HM := Lib.hid (HM.out.below hb); have BK2 := Lib.hid bk; obtain ⟨c2_0, c2_1, f2_0, f2_1⟩ := BK2.out.all2; clear hb hg bk))
    refine bodyPost_ret (results_cell_row rfl _ _ g2 27 #[.bool _, .slice A l.length c] (0, 0) _ rfl ((BK2.out.set_ 0 _).set_ 1 _) Tryz.underlying27 rfl (by kernel_rfl)) rfl ?_
    refine ⟨_, rfl, ?_, (HB.out.setCell HG2.out _).setCell HG2.out _⟩
    refine ((RI.mk (neg := false) HM.out HF.out.1 HF.out.2.1 (fun h => by cases h)).cast (by rw [HZ.out]; unfold sgn; simp)).kp ?_
    exact ((Kp.refl _).box BK2.out (by decide) 0 _).box (BK2.out.set_ 0 _) (by decide) 1 _
end Go.Proofs.YtapckjeedekphaaGreatDoor

namespace Go.Proofs.YtapckjeedekphaaGreatDoor.PR
open Go.RowKit Go.Proofs.YtapckjeedekphaaGreatDoorW.PrintWords Go.Proofs.YtapckjeedekphaaGreatDoorW.PrintLast Go.Proofs.YtapckjeedekphaaGreatDoorW.PrintMore
set_option linter.unusedVariables false
set_option linter.unusedSimpArgs false

def integer_raised.l0 : Nat → Int → List Int → List Int → Int → Int → Option (List Int)
  | 0, _, _, _, _, _ => none
  | k + 1, x1, x5, x12, x13, x14 => if x14 < x13 then (if 0 ≤ x14 then (if x14 < (x12.length : Int) then (if x14 < (x5.length : Int) then (if 0 ≤ x1 then (if 0 ≤ (wrap64 (x14 + 1)) then (if (wrap64 (x14 + 1)) < (x5.length : Int) then (integer_raised.l0 k x1 ((x5.set (x14 : Int).toNat (Go.bits .or .u32 (rd x5 x14) (shl .u32 (rd x12 x14) x1))).set ((wrap64 (x14 + 1)) : Int).toNat (((shl .u64 (IntKind.u64.wrap (rd x12 x14)) x1) / 4294967296) % 4294967296)) x12 x13 (wrap64 (x14 + 1))) else (none)) else (none)) else (none)) else (none)) else (none)) else (none)) else (some x5)
def integer_raised.f (k : Nat) (l0 : List Int) (a1 : Int) : Option (List Int) := if 0 ≤ (wrap64 ((l0.length : Int) + 1)) then (if (wrap64 ((l0.length : Int) + 1) : Int).toNat ≤ 70368744177664 then (integer_raised.l0 k a1 (List.replicate (wrap64 ((l0.length : Int) + 1) : Int).toNat 0) l0 (l0.length : Int) 0) else (none)) else (none)
def integer_raised.T5 : Bool × List (List Nat × List Nat) := (true, [([], []), ([], []), ([0, 1], [0, 1]), ([2], [2]), ([], []), ([], []), ([4, 5], [4, 5]), ([3, 6], [3, 6]), ([0, 1, 0, 1, 2, 3, 4, 5, 6, 7], [0, 1]), ([8, 7, 0, 1, 2, 3, 4, 5, 6, 7], [7, 8])])
def integer_raised.B5 : List Nat := [0, 0, 3, 7, 0, 0, 48, 127, 255, 511]
theorem integer_raised.tab5 : rtab .any (opsOf Tryz.f209 5) = integer_raised.T5 := by kernel_rfl
theorem integer_raised.bits5 : waitsOk integer_raised.T5.2 integer_raised.B5 = true := by kernel_rfl
set_option maxHeartbeats 8000000 in
set_option maxRecDepth 100000 in
theorem integer_raised.calls (k : Nat) (A0 : Option Addr) (c0 : Nat) (l0 : List Int) (a1 : Int) (r : List Int) (w : World) (hr0 : Kd.C (Kd.int .u32) w A0 l0.length l0) (hc0 : l0.length ≤ c0) (h : integer_raised.f k l0 a1 = some r) :
    Calls Tryz.prog 209 #[.slice A0 l0.length c0, .int .i64 a1] w fun e w' => ∃ v0_ : Value, e = .returned (v0_) ∧ Kd.R (Kd.int .u32) 140 w' w.heap.size (fun _ => True) v0_ r ∧ Below w.heap.size w w' := by
  have HR0 := Aside0.mk hr0
  have HC0 := Aside0.mk hc0
  clear hr0 hc0
  have HB := Aside0.mk (Below.refl w.heap.size w)
  have H : (if 0 ≤ (wrap64 ((l0.length : Int) + 1)) then (if (wrap64 ((l0.length : Int) + 1) : Int).toNat ≤ 70368744177664 then (integer_raised.l0 k a1 (List.replicate (wrap64 ((l0.length : Int) + 1) : Int).toNat 0) l0 (l0.length : Int) 0) else (none)) else (none)) = some r := h
  clear h
  obtain ⟨ji3, hji3⟩ : ∃ j_ : Int, (wrap64 ((l0.length : Int) + 1)) = j_ := ⟨_, rfl⟩
  replace H : (if 0 ≤ (ji3) then (if (ji3 : Int).toNat ≤ 70368744177664 then (integer_raised.l0 k a1 (List.replicate (ji3 : Int).toNat 0) l0 (l0.length : Int) 0) else (none)) else (none)) = some r := by first | (rw [hji3] at H; exact H) | (simp only [hji3] at H ⊢; exact H)
  have hji3w : (IntKind.i64.wrap ((l0.length : Int) + 1)) = ji3 := (i64_w _).trans hji3
  by_cases c4 : 0 ≤ (ji3)
  · rw [if_pos c4] at H
    have c4b0 := eq_true c4
    have c4b1 : decide (0 ≤ (ji3)) = true := decide_eq_true c4
    clear c4
    by_cases c5 : (ji3 : Int).toNat ≤ 70368744177664
    · rw [if_pos c5] at H
      have c5b0 := eq_true c5
      have c5b1 : decide ((ji3 : Int).toNat ≤ 70368744177664) = true := decide_eq_true c5
      clear c5
      obtain ⟨y163, hy163⟩ : ∃ y_ : List Int, y_ = (List.replicate (ji3 : Int).toNat 0) := ⟨_, rfl⟩
      replace H : (integer_raised.l0 k a1 y163 l0 (l0.length : Int) 0) = some r := by first | (rw [hy163]; with_reducible exact H) | (have H2_ := (Option.bind_some _ _).symm.trans H; rw [hy163]; with_reducible exact H2_) | (have H2_ := (Option.bind_some _ _).symm.trans H; with_reducible exact H2_) | with_reducible exact H | (rw [hy163]; exact H) | exact H
      have Ny163 := Aside0.mk hy163
      clear hy163
      have H' := Aside0.mk H
      clear H
      go_enter Tryz.func209, Tryz.ntmps209
      go_wp2_with (first | ((with_reducible refine gate_dst (N := 11) rfl ?_); refine Kd.R_make (Kd.int .u32) _ 140 rfl (N := 11) rfl 25 _ _ rfl ji3 rfl rfl Tryz.underlying25 (.int .u32 0) 4 info140 rfl (by decide) (by omega) 0 (ok := fun _ => True) (okp := fun _ => True) rfl (fun _ hk => hk) trivial (of_decide_eq_true (by first | (with_reducible assumption) | assumption)) (Nat.le_trans (Nat.mul_le_mul_right _ (of_decide_eq_true (by first | (with_reducible assumption) | assumption) : ji3.toNat ≤ 70368744177664)) (by omega)) (Below.refl _ _) (Nat.le_refl _) ?_; intro v164 w6 ho7 hb hg_ hnew_; clear hg_ hnew_; (first | rw [← Ny163.out] at ho7 | (simp only [Int.reduceToNat] at ho7; rw [← Ny163.out] at ho7)); have n0_ := Aside0.mk (Kd.R_lower ho7 (below_size (by repeat (first | (with_reducible first | exact HB.out | apply below_alloc | apply pw_below_drewN | apply below_drew1) | exact HB.out)))); have n1_ := Aside0.mk (below_step (by repeat (first | (with_reducible first | exact HB.out | apply below_alloc | apply pw_below_drewN | apply below_drew1) | exact HB.out)) hb); clear HB; have HO165 := n0_; have HB := n1_; clear n0_ n1_; clear hb ho7))
      go_loopg [14] k (fun kq v14 w' => ∃ (x5_1 : List Int) (x14_1 : Int), v14 = .int .i64 x14_1 ∧ Aside0 (integer_raised.l0 kq a1 x5_1 l0 (l0.length : Int) x14_1 = some r) ∧ Aside0 (kq ≤ k) ∧ Aside0 (Kd.R (Kd.int .u32) 140 w' w.heap.size (fun _ => True) v164 x5_1) ∧ Aside0 (Below w.heap.size w w'))
      case atStart => exact ⟨(y163), (0), (by first | rfl | (simp; done) | (simp [*]; done)), H', ⟨Nat.le_refl _⟩, ⟨by (with_reducible repeat (first | apply Kd.R_alloc | apply Kd.R_drewN | apply Kd.R_drew)); exact HO165.out⟩, ⟨by repeat (first | (with_reducible first | exact HB.out | apply below_alloc | apply pw_below_drewN | apply below_drew1) | exact HB.out)⟩⟩
      case round =>
        clear H'
        try clear c2
        try clear p2
        try clear c4
        try clear c4b0
        try clear c4b1
        try clear c5
        try clear c5b0
        try clear c5b1
        try clear p6
        obtain ⟨x5_1, x14_1, rfl, HA, HK1, HO_5, HB⟩ := hrel
        cases gk with
        | zero => exact absurd HA.out (by simp [integer_raised.l0])
        | succ k1 =>
          have H := HA.out
          clear HA
          simp only [integer_raised.l0] at H
          by_cases c8 : x14_1 < (l0.length : Int)
          · rw [if_pos c8] at H
            have c8b0 : decide (x14_1 < (l0.length : Int)) = true := decide_eq_true c8
            clear c8
            by_cases c9 : 0 ≤ x14_1
            · rw [if_pos c9] at H
              have c9b0 : decide (0 ≤ x14_1) = true := decide_eq_true c9
              clear c9
              by_cases c10 : x14_1 < (l0.length : Int)
              · rw [if_pos c10] at H
                have c10b0 : decide (x14_1 < (l0.length : Int)) = true := decide_eq_true c10
                clear c10
                by_cases c11 : x14_1 < (x5_1.length : Int)
                · rw [if_pos c11] at H
                  have c11b0 : decide (x14_1 < (x5_1.length : Int)) = true := decide_eq_true c11
                  clear c11
                  by_cases c12 : 0 ≤ a1
                  · rw [if_pos c12] at H
                    have c12b0 := eq_true c12
                    have c12b1 : decide (0 ≤ a1) = true := decide_eq_true c12
                    clear c12
                    obtain ⟨ji13, hji13⟩ : ∃ j_ : Int, (shl .u32 (rd l0 x14_1) a1) = j_ := ⟨_, rfl⟩
                    replace H : (if 0 ≤ (wrap64 (x14_1 + 1)) then (if (wrap64 (x14_1 + 1)) < (x5_1.length : Int) then (integer_raised.l0 k1 a1 ((x5_1.set (x14_1 : Int).toNat (Go.bits .or .u32 (rd x5_1 x14_1) (ji13))).set ((wrap64 (x14_1 + 1)) : Int).toNat (((shl .u64 (IntKind.u64.wrap (rd l0 x14_1)) a1) / 4294967296) % 4294967296)) l0 (l0.length : Int) (wrap64 (x14_1 + 1))) else (none)) else (none)) = some r := by first | (rw [hji13] at H; exact H) | (simp only [hji13] at H ⊢; exact H)
                    have hji13_ : (IntKind.u32.wrap ((rd l0 x14_1) * 2 ^ min a1.toNat 32)) = ji13 := hji13
                    have hji13z : a1 ≤ 32 → (IntKind.u32.wrap ((rd l0 x14_1) * 2 ^ a1.toNat)) = ji13 := shl_small hji13
                    obtain ⟨y168, hy168⟩ : ∃ y_ : List Int, y_ = (x5_1.set (x14_1 : Int).toNat (Go.bits .or .u32 (rd x5_1 x14_1) (ji13))) := ⟨_, rfl⟩
                    replace H : (if 0 ≤ (wrap64 (x14_1 + 1)) then (if (wrap64 (x14_1 + 1)) < (x5_1.length : Int) then (integer_raised.l0 k1 a1 (y168.set ((wrap64 (x14_1 + 1)) : Int).toNat (((shl .u64 (IntKind.u64.wrap (rd l0 x14_1)) a1) / 4294967296) % 4294967296)) l0 (l0.length : Int) (wrap64 (x14_1 + 1))) else (none)) else (none)) = some r := by first | (rw [hy168]; with_reducible exact H) | (have H2_ := (Option.bind_some _ _).symm.trans H; rw [hy168]; with_reducible exact H2_) | (have H2_ := (Option.bind_some _ _).symm.trans H; with_reducible exact H2_) | with_reducible exact H | (rw [hy168]; exact H) | exact H
                    have Ny168 := Aside0.mk hy168
                    clear hy168
                    have c15b0 := eq_true (of_decide_eq_true (by first | (with_reducible assumption) | assumption) : 0 ≤ a1)
                    obtain ⟨ji16, hji16⟩ : ∃ j_ : Int, (shl .u64 (IntKind.u64.wrap (rd l0 x14_1)) a1) = j_ := ⟨_, rfl⟩
                    replace H : (if 0 ≤ (wrap64 (x14_1 + 1)) then (if (wrap64 (x14_1 + 1)) < (x5_1.length : Int) then (integer_raised.l0 k1 a1 (y168.set ((wrap64 (x14_1 + 1)) : Int).toNat (((ji16) / 4294967296) % 4294967296)) l0 (l0.length : Int) (wrap64 (x14_1 + 1))) else (none)) else (none)) = some r := by first | (rw [hji16] at H; exact H) | (simp only [hji16] at H ⊢; exact H)
                    have hji16_ : (IntKind.u64.wrap ((IntKind.u64.wrap (rd l0 x14_1)) * 2 ^ min a1.toNat 64)) = ji16 := hji16
                    have hji16z : a1 ≤ 64 → (IntKind.u64.wrap ((IntKind.u64.wrap (rd l0 x14_1)) * 2 ^ a1.toNat)) = ji16 := shl_small hji16
                    obtain ⟨ji17, hji17⟩ : ∃ j_ : Int, (wrap64 (x14_1 + 1)) = j_ := ⟨_, rfl⟩
                    replace H : (if 0 ≤ (ji17) then (if (ji17) < (x5_1.length : Int) then (integer_raised.l0 k1 a1 (y168.set ((ji17) : Int).toNat (((ji16) / 4294967296) % 4294967296)) l0 (l0.length : Int) ji17) else (none)) else (none)) = some r := by first | (rw [hji17] at H; exact H) | (simp only [hji17] at H ⊢; exact H)
                    have hji17w : (IntKind.i64.wrap (x14_1 + 1)) = ji17 := (i64_w _).trans hji17
                    by_cases c18 : 0 ≤ (ji17)
                    · rw [if_pos c18] at H
                      have c18b0 : decide (0 ≤ (ji17)) = true := decide_eq_true c18
                      clear c18
                      by_cases c19 : (ji17) < (x5_1.length : Int)
                      · rw [if_pos c19] at H
                        have c19b0 : decide ((ji17) < (x5_1.length : Int)) = true := decide_eq_true c19
                        clear c19
                        obtain ⟨y169, hy169⟩ : ∃ y_ : List Int, y_ = (y168.set ((ji17) : Int).toNat (((ji16) / 4294967296) % 4294967296)) := ⟨_, rfl⟩
                        replace H : (integer_raised.l0 k1 a1 y169 l0 (l0.length : Int) ji17) = some r := by first | (rw [hy169]; with_reducible exact H) | (have H2_ := (Option.bind_some _ _).symm.trans H; rw [hy169]; with_reducible exact H2_) | (have H2_ := (Option.bind_some _ _).symm.trans H; with_reducible exact H2_) | with_reducible exact H | (rw [hy169]; exact H) | exact H
                        have Ny169 := Aside0.mk hy169
                        clear hy169
                        have H' := Aside0.mk H
                        clear H
                        have p166 : 0 ≤ (x14_1 : Int) := of_decide_eq_true (by first | (with_reducible assumption) | assumption)
                        have q166 : x14_1 < (l0.length : Int) := of_decide_eq_true (by first | (with_reducible assumption) | assumption)
                        obtain ⟨ad166, e166, hx166_0⟩ := Kd.at_int HR0.out x14_1 p166 q166
                        cases e166
                        replace hx166_0 := (HB.out.cell (World.block_lt_of_cell? w _ hx166_0)).trans hx166_0
                        replace p166 := eq_true p166
                        replace q166 := eq_true q166
                        try go_wp2
                        have n0_ := Aside0.mk (Kd.R_drew HO_5.out)
                        have n1_ := Aside0.mk (below_drew1 HB.out)
                        clear HO_5
                        clear HB
                        have HO_5 := n0_
                        have HB := n1_
                        clear n0_ n1_
                        obtain ⟨Ao22, co22, eo22⟩ := Kd.R_slice HO_5.out
                        (first | subst eo22 | (injection eo22 with f1_ f2_ f3_; have f4_ := f1_.symm; have f5_ := f3_.symm; clear f1_ f2_ f3_; subst f4_; subst f5_))
                        have p167 : 0 ≤ (x14_1 : Int) := of_decide_eq_true (by first | (with_reducible assumption) | assumption)
                        have q167 : x14_1 < (x5_1.length : Int) := of_decide_eq_true (by first | (with_reducible assumption) | assumption)
                        obtain ⟨ad167, e167, hx167_0⟩ := Kd.at_int (Kd.R_reads' HO_5.out).2.2 x14_1 p167 q167
                        cases e167
                        replace p167 := eq_true p167
                        replace q167 := eq_true q167
                        have p14 : 0 ≤ (x14_1 : Int) := of_decide_eq_true (by first | (with_reducible assumption) | assumption)
                        have q14 : (x14_1 : Int) < ((x5_1.length : Int) : Int) := of_decide_eq_true (by first | (with_reducible assumption) | assumption)
                        obtain ⟨go14, co14, eo14, gb14, gl14, cl14, HG14⟩ := Kd.R_form HO_5.out (by omega)
                        (first | cases eo14 | (injection eo14 with ea_ en_ ec_; (first | subst ea_ | (injection ea_ with ea_; subst ea_)); subst ec_; clear en_))
                        have GB14 := Aside0.mk gb14
                        have GG14 := Aside0.mk HG14
                        clear gb14 gl14 HG14
                        (first | simp only [add_plain] at hx167_0 | skip)
                        obtain ⟨hx14_0, hf14_0⟩ := Kd.R_celln 0 HO_5.out (x14_1 : Int) p14 q14
                        replace p14 := eq_true p14
                        replace q14 := eq_true q14
                        have HP23 := Kd.R_putn HO_5.out (x14_1 : Int) (Go.bits .or .u32 (rd x5_1 x14_1) (ji13))
                        rw [← Ny168.out] at HP23
                        have HQ23 := Aside0.mk HP23
                        clear HP23
                        refine start_ (n := 10) (S := fun w' => w'.cell? ⟨go14, (x14_1).toNat, none⟩ = some (.int .u32 (rd x5_1 x14_1))) (ds := [9]) #[false, false, false, false, false, false, false, false, false, false] (by kernel_rfl) rfl rfl (hx167_0) (fun hHeld => ?_); refine with_tabW integer_raised.tab5 integer_raised.bits5 (fun HT_ HW_ => ?_)
                        generalize wr.drew = w21 at HO_5 HB GG14 HQ23 hf14_0 hx14_0 hx167_0 hHeld ⊢
                        refine pure_ (i := 0) (N := some 19) (v := ?_) (a' := ?_) #[true, false, false, false, false, false, false, false, false, false] rfl rfl (any_of HT_.out (by kernel_rfl)) (fun _ _ _ h => h) (Or.inl ⟨by rfl, ?_⟩) ?_ ?_
                        rotate_left
                        · intro w'
                          go_simp
                          with_reducible rfl
                        rotate_left
                        · simp only [Act.put, List.setIfInBounds_toArray, List.set_cons_zero, List.set_cons_succ, i64_w, i32_w]
                          rfl
                        refine pure_ (i := 1) (N := some 20) (v := ?_) (a' := ?_) #[true, true, false, false, false, false, false, false, false, false] rfl rfl (any_of HT_.out (by kernel_rfl)) (fun _ _ _ h => h) (Or.inl ⟨by rfl, ?_⟩) ?_ ?_
                        rotate_left
                        · intro w'
                          go_simp
                          with_reducible rfl
                        rotate_left
                        · simp only [Act.put, List.setIfInBounds_toArray, List.set_cons_zero, List.set_cons_succ, i64_w, i32_w]
                          rfl
                        refine pure_ (i := 2) (N := some 21) (v := ?_) (a' := ?_) #[true, true, true, false, false, false, false, false, false, false] rfl rfl (any_of HT_.out (by kernel_rfl)) (fun _ _ _ h => h) (Or.inl ⟨by rfl, ?_⟩) ?_ ?_
                        rotate_left
                        · intro w'
                          go_simp
                          with_reducible rfl
                        rotate_left
                        · simp only [Act.put, List.setIfInBounds_toArray, List.set_cons_zero, List.set_cons_succ, i64_w, i32_w]
                          rfl
                        refine pure_ (i := 4) (N := some 23) (v := ?_) (a' := ?_) #[true, true, true, false, true, false, false, false, false, false] rfl rfl (any_of HT_.out (by kernel_rfl)) (fun _ _ _ h => h) (Or.inl ⟨by rfl, ?_⟩) ?_ ?_
                        rotate_left
                        · intro w'
                          go_simp
                          with_reducible rfl
                        rotate_left
                        · simp only [Act.put, List.setIfInBounds_toArray, List.set_cons_zero, List.set_cons_succ, i64_w, i32_w]
                          rfl
                        refine pure_ (i := 5) (N := some 24) (v := ?_) (a' := ?_) #[true, true, true, false, true, true, false, false, false, false] rfl rfl (any_of HT_.out (by kernel_rfl)) (fun _ _ _ h => h) (Or.inl ⟨by rfl, ?_⟩) ?_ ?_
                        rotate_left
                        · intro w'
                          go_simp
                          with_reducible rfl
                        rotate_left
                        · simp only [Act.put, List.setIfInBounds_toArray, List.set_cons_zero, List.set_cons_succ, i64_w, i32_w]
                          rfl
                        refine pure_ (i := 6) (N := some 25) (v := ?_) (a' := ?_) #[true, true, true, false, true, true, true, false, false, false] rfl rfl (any_of HT_.out (by kernel_rfl)) (fun _ _ _ h => h) (Or.inl ⟨by rfl, ?_⟩) ?_ ?_
                        rotate_left
                        · intro w'
                          go_simp
                          with_reducible rfl
                        rotate_left
                        · simp only [Act.put, List.setIfInBounds_toArray, List.set_cons_zero, List.set_cons_succ, i64_w, i32_w]
                          rfl
                        refine take_ (i := 3) (N := some 22) (v := ?_) (a' := ?_) #[true, true, true, true, true, true, true, false, false, false] rfl rfl (take_ofW HT_.out HW_.out (by kernel_rfl)) (fun _ _ _ h => h) (Or.inl ⟨by rfl, ?_⟩) hHeld ?_ ?_
                        rotate_left
                        · intro w' s0
                          go_simp
                          with_reducible rfl
                        rotate_left
                        · simp only [Act.put, List.setIfInBounds_toArray, List.set_cons_zero, List.set_cons_succ, i64_w, i32_w]
                          rfl
                        refine pure_ (i := 7) (N := some 26) (v := ?_) (a' := ?_) #[true, true, true, true, true, true, true, true, false, false] rfl rfl (any_of HT_.out (by kernel_rfl)) (fun _ _ _ h => h) (Or.inl ⟨by rfl, ?_⟩) ?_ ?_
                        rotate_left
                        · intro w'
                          go_simp
                          with_reducible rfl
                        rotate_left
                        · simp only [Act.put, List.setIfInBounds_toArray, List.set_cons_zero, List.set_cons_succ, i64_w, i32_w]
                          rfl
                        refine pure_ (i := 8) (N := some 27) (v := ?_) (a' := ?_) #[true, true, true, true, true, true, true, true, true, false] rfl rfl (any_of HT_.out (by kernel_rfl)) (fun _ _ _ h => h) (Or.inl ⟨by rfl, ?_⟩) ?_ ?_
                        rotate_left
                        · intro w'
                          go_simp
                          with_reducible rfl
                        rotate_left
                        · simp only [Act.put, List.setIfInBounds_toArray, List.set_cons_zero, List.set_cons_succ, i64_w, i32_w]
                          rfl
                        refine last_ (i := 9) (N := none) #[true, true, true, true, true, true, true, true, true, true] rfl rfl (one_of HT_.out (by kernel_rfl)) (by decide) (fun K hK => ?_)
                        refine skip_ (w1 := ?_) (by rfl) rfl ?_ ?_
                        rotate_left
                        · go_simp
                          rfl
                        refine hK.out _ _ ?_
                        clear hK K
                        refine done_ (done_of HT_.out (by kernel_rfl)) ?_
                        have n0_ : Aside0 (Kd.R (Kd.int .u32) 140 (w21.setCell ⟨go14, (x14_1 : Int).toNat, none⟩ (.int .u32 (Go.bits .or .u32 (rd x5_1 x14_1) (ji13)))) w.heap.size (fun _ => True) (.slice (some ⟨go14, 0, none⟩) x5_1.length co22) y168) := ⟨by (with_reducible repeat (first | apply Kd.R_alloc | apply Kd.R_drewN | apply Kd.R_drew)); exact HQ23.out⟩
                        have n1_ : Aside0 (Below w.heap.size w (w21.setCell ⟨go14, (x14_1 : Int).toNat, none⟩ (.int .u32 (Go.bits .or .u32 (rd x5_1 x14_1) (ji13))))) := ⟨by repeat (first | (with_reducible first | exact HB.out | apply below_alloc | apply pw_below_drewN | apply below_drew1 | refine below_set ?_ GB14.out) | exact HB.out)⟩
                        (try clear HO_5)
                        (try clear HB)
                        generalize (w21.setCell ⟨go14, (x14_1 : Int).toNat, none⟩ (.int .u32 (Go.bits .or .u32 (rd x5_1 x14_1) (ji13)))) = w24 at n0_ n1_ ⊢
                        have HO_5 := n0_
                        have HB := n1_
                        clear n0_ n1_
                        have p20 : 0 ≤ ((ji17) : Int) := of_decide_eq_true (by first | (with_reducible assumption) | assumption)
                        have q20 : ((ji17) : Int) < ((x5_1.length : Int) : Int) := of_decide_eq_true (by first | (with_reducible assumption) | assumption)
                        obtain ⟨hx20_0, hf20_0⟩ := Kd.R_celln 0 HO_5.out ((ji17) : Int) p20 q20
                        replace p20 := eq_true p20
                        replace q20 := eq_true q20
                        obtain ⟨hy25_, hz25_⟩ := Kd.R_celln 0 HO_5.out ((ji17) : Int) (of_decide_eq_true (by first | (with_reducible assumption) | assumption)) (of_decide_eq_true (by first | (with_reducible assumption) | assumption))
                        have HP25 := Kd.R_putg HO_5.out ((ji17) : Int) (((ji16) / 4294967296) % 4294967296)
                        try go_wp2_with (first | ((with_reducible refine gate_store (t := 140) (p := 37) rfl ?_); refine store_event (t := 140) (p := 37) (v := ?vo_w26) (w1 := (w24.setCell ⟨go14, ((ji17) : Int).toNat, none⟩ (.int .u32 (((ji16) / 4294967296) % 4294967296)))) ?hg ?ho ?hn ?hr ?_; (case ho => rfl); (case hg => rfl); (case hn => rfl); (case hr => first | (go_simp; done) | (go_simp; rfl)); intro w26 hw; have hg : w24.grownBy w26 (some go14) := (by rw [hw]; exact HP25.2); have hp_ : Kd.R (Kd.int .u32) 140 w26 w.heap.size (fun _ => True) (.slice (some ⟨go14, 0, none⟩) x5_1.length co22) y169 := (by rw [hw, Ny169.out]; exact HP25.1); clear HP25; have n0_ := Aside0.mk (hp_); have n1_ := Aside0.mk ((by rw [hw]; exact below_set (HB.out) GB14.out : Below w.heap.size w w26)); clear HO_5; clear HB; have HO_5 := n0_; have HB := n1_; clear n0_ n1_; clear hg hw hp_))
                        go_roundg k1
                        case measure => have := HK1.out; omega
                        case rel => exact ⟨(y169), (ji17), (by first | rfl | (simp; done) | (simp only [← hji17] <;> (first | rfl | simp)) | (simp [*]; done)), H', ⟨by have := HK1.out; omega⟩, ⟨by (with_reducible repeat (first | apply Kd.R_alloc | apply Kd.R_drewN | apply Kd.R_drew)); exact HO_5.out⟩, ⟨by repeat (first | (with_reducible first | exact HB.out | apply below_alloc | apply pw_below_drewN | apply below_drew1) | exact HB.out)⟩⟩
                      · rw [if_neg c19] at H
                        exact absurd H (by simp)
                    · rw [if_neg c18] at H
                      exact absurd H (by simp)
                  · rw [if_neg c12] at H
                    exact absurd H (by simp)
                · rw [if_neg c11] at H
                  exact absurd H (by simp)
              · rw [if_neg c10] at H
                exact absurd H (by simp)
            · rw [if_neg c9] at H
              exact absurd H (by simp)
          · rw [if_neg c8] at H
            have c8b0 : decide (x14_1 < (l0.length : Int)) = false := decide_eq_false c8
            clear c8
            obtain rfl := Option.some.inj H
            go_wp2
            go_ret
            exact ⟨_, by first | rfl | (simp [errW_none, errW_some] <;> rfl) | (simp only [← hji3]; first | rfl | (simp [errW_none, errW_some] <;> rfl)) | (simp [*, errW_none, errW_some] <;> rfl), by (with_reducible repeat (first | apply Kd.R_alloc | apply Kd.R_drewN | apply Kd.R_drew)); exact HO_5.out, by repeat (first | (with_reducible first | exact HB.out | apply below_alloc | apply pw_below_drewN | apply below_drew1) | exact HB.out)⟩
    · rw [if_neg c5] at H
      exact absurd H (by simp)
  · rw [if_neg c4] at H
    exact absurd H (by simp)

mutual
def dowelref01_Check.j0 : Nat → ByteArray → ByteArray → Bool → Option (Int)
  | 0, _, _, _ => none
  | k + 1, x0, x3, x16 => if x16 = true then (if 1 ≤ (x3.size : Int) then (dowelref01_Check.j1 k x0 (x3.extract 1 x3.size)) else (none)) else (dowelref01_Check.j1 k x0 x3)
def dowelref01_Check.j1 : Nat → ByteArray → ByteArray → Option (Int)
  | 0, _, _ => none
  | k + 1, x0, x3 => if (x3.size : Int) = 0 then (some 14) else (dowelref01_Check.l0 k x0 x3 0)
def dowelref01_Check.l0 : Nat → ByteArray → ByteArray → Int → Option (Int)
  | 0, _, _, _ => none
  | k + 1, x0, x3, x4 => if x4 < (x3.size : Int) then (if 0 ≤ x4 then (if (bt x3 x4) < 48 then (some 14) else (if (bt x3 x4) > 57 then (some 14) else (dowelref01_Check.l0 k x0 x3 (wrap64 (x4 + 1))))) else (none)) else (if 0 < (x3.size : Int) then (if (bt x3 0) = 48 then (if (x3.size : Int) > 1 then (some 3) else (if (x0.size : Int) > 1 then (some 3) else (some 0))) else (some 0)) else (none))
end
def dowelref01_Check.f (k : Nat) (a0 : ByteArray) : Option (Int) := if (a0.size : Int) > 65536 then (some 5) else (if (a0.size : Int) > 0 then (if 0 < (a0.size : Int) then (dowelref01_Check.j0 k a0 a0 ((bt a0 0) == 45)) else (none)) else (dowelref01_Check.j0 k a0 a0 false))
set_option maxHeartbeats 8000000 in
set_option maxRecDepth 100000 in
theorem dowelref01_Check.calls (k : Nat) (a0 : ByteArray) (r : Int) (w : World) (h : dowelref01_Check.f k a0 = some r) :
    Calls Tryz.prog 25 #[.string a0] w fun e w' => e = .returned (.int .i64 r) ∧ Drawn0 w w' := by
  have H : (if (a0.size : Int) > 65536 then (some 5) else (if (a0.size : Int) > 0 then (if 0 < (a0.size : Int) then (dowelref01_Check.j0 k a0 a0 ((bt a0 0) == 45)) else (none)) else (dowelref01_Check.j0 k a0 a0 false))) = some r := h
  clear h
  by_cases c2 : (a0.size : Int) > 65536
  · rw [if_pos c2] at H
    have c2b0 : decide (65536 < (a0.size : Int)) = true := decide_eq_true c2
    have c2b1 : decide (65536 < a0.size) = true := decide_eq_true (by omega)
    clear c2
    obtain rfl := Option.some.inj H
    go_enter Tryz.func25, Tryz.ntmps25
    go_wp2
    go_ret
    exact ⟨by first | rfl | (simp; done) | (simp [*]; done), by repeat (first | exact Drawn0.refl _ | apply Drawn0.step)⟩
  · rw [if_neg c2] at H
    have c2b0 : decide (65536 < (a0.size : Int)) = false := decide_eq_false c2
    have c2b1 : decide (65536 < a0.size) = false := decide_eq_false (by omega)
    clear c2
    have HC3 := Aside0.mk H
    clear H
    go_enter Tryz.func25, Tryz.ntmps25
    go_upto_region 4 with (fail)
    go_cut [16] (fun v16 wc => ∃ (kq : Nat) (x16_2 : Bool), v16 = .bool x16_2 ∧ Aside0 (dowelref01_Check.j0 kq a0 a0 x16_2 = some r) ∧ Aside0 (kq ≤ k) ∧ Drawn0 w wc)
    case first =>
      have H := HC3.out
      clear HC3
      by_cases c4 : (a0.size : Int) > 0
      · rw [if_pos c4] at H
        have c4b0 : decide (0 < (a0.size : Int)) = true := decide_eq_true c4
        have c4b1 : decide (0 < a0.size) = true := decide_eq_true (by omega)
        clear c4
        (first | rw [c4b0] | (simp only [i64_w, i32_w]; rw [c4b0]) | skip)
        by_cases c5 : 0 < (a0.size : Int)
        · rw [if_pos c5] at H
          have c5b0 : decide (0 < (a0.size : Int)) = true := decide_eq_true c5
          have c5b1 : decide (0 < a0.size) = true := decide_eq_true (by omega)
          clear c5
          have H' := Aside0.mk H
          clear H
          have p6 : 0 ≤ (0 : Int) := (by omega)
          have q6 : 0 < a0.size := (by have : (0 : Int) < (a0.size : Int) := of_decide_eq_true (by first | (with_reducible assumption) | assumption); omega)
          have hx6 : ∀ h : 0 < a0.size, ((a0[0]'h).toNat : Int) = bt a0 0 := bt_at a0 0
          clear p6
          have qi6 : (0 < (a0.size : Int)) = True := eq_true (of_decide_eq_true (by first | (with_reducible assumption) | assumption))
          replace q6 := eq_true q6
          go_wp2
          go_meet
          case rel => exact ⟨_, (((bt a0 0) == 45)), (by first | rfl | (simp; done) | (simp [*]; done)), H', ⟨by first | omega | exact Nat.le_refl _⟩, by repeat (first | exact Drawn0.refl _ | apply Drawn0.step)⟩
        · rw [if_neg c5] at H
          exact absurd H (by simp)
      · rw [if_neg c4] at H
        have c4b0 : decide (0 < (a0.size : Int)) = false := decide_eq_false c4
        have c4b1 : decide (0 < a0.size) = false := decide_eq_false (by omega)
        clear c4
        (first | rw [c4b0] | (simp only [i64_w, i32_w]; rw [c4b0]) | skip)
        have H' := Aside0.mk H
        clear H
        go_wp2
        go_meet
        case rel => exact ⟨_, (false), (by first | rfl | (simp; done) | (simp [*]; done)), H', ⟨by first | omega | exact Nat.le_refl _⟩, by repeat (first | exact Drawn0.refl _ | apply Drawn0.step)⟩
    case rest =>
      clear HC3
      try clear c2
      try clear c2b0
      try clear c2b1
      try clear p2
      try clear c4
      try clear c4b0
      try clear c4b1
      try clear c5
      try clear c5b0
      try clear c5b1
      try clear p6
      try clear q6
      try clear hx6
      try clear qi6
      try clear p6
      try clear q6
      obtain ⟨kq, x16_2, rfl, HA, HJ2, ⟨mc2, rfl⟩⟩ := hcut
      cases kq with
      | zero => exact absurd HA.out (by simp [dowelref01_Check.j0])
      | succ kj2 =>
        have H := HA.out
        clear HA
        simp only [dowelref01_Check.j0] at H
        have HC7 := Aside0.mk H
        clear H
        go_upto_if 16 with (fail)
        go_cut [3] (fun v3 wc => ∃ (kq : Nat) (x3_6 : ByteArray), v3 = .string x3_6 ∧ Aside0 (dowelref01_Check.j1 kq a0 x3_6 = some r) ∧ Aside0 (kq ≤ kj2) ∧ Drawn0 w wc)
        case first =>
          have H := HC7.out
          clear HC7
          by_cases c8 : x16_2 = true
          · subst c8
            have H1 : (if 1 ≤ (a0.size : Int) then (dowelref01_Check.j1 kj2 a0 (a0.extract 1 a0.size)) else (none)) = some r := by rw [if_pos rfl] at H; exact H
            clear H
            have H := H1
            clear H1
            by_cases c9 : 1 ≤ (a0.size : Int)
            · rw [if_pos c9] at H
              have c9b0 := eq_true c9
              have c9b1 : decide (1 ≤ (a0.size : Int)) = true := decide_eq_true c9
              clear c9
              have H' := Aside0.mk H
              clear H
              go_wp2
              go_meet
              case rel => exact ⟨_, (a0.extract 1 a0.size), (by first | rfl | (simp; done) | (simp [*]; done)), H', ⟨by have := HJ2.out; first | omega | exact Nat.le_refl _⟩, by repeat (first | exact Drawn0.refl _ | apply Drawn0.step)⟩
            · rw [if_neg c9] at H
              exact absurd H (by simp)
          · replace c8 := Bool.eq_false_iff.mpr c8
            subst c8
            have H1 : (dowelref01_Check.j1 kj2 a0 a0) = some r := by rw [if_neg (show ¬ (false = true) by decide)] at H; exact H
            clear H
            have H := H1
            clear H1
            have H' := Aside0.mk H
            clear H
            go_wp2
            go_meet
            case rel => exact ⟨_, (a0), (by first | rfl | (simp; done) | (simp [*]; done)), H', ⟨by have := HJ2.out; first | omega | exact Nat.le_refl _⟩, by repeat (first | exact Drawn0.refl _ | apply Drawn0.step)⟩
        case rest =>
          clear HC7
          try clear c2
          try clear c2b0
          try clear c2b1
          try clear p2
          try clear c4
          try clear c4b0
          try clear c4b1
          try clear c5
          try clear c5b0
          try clear c5b1
          try clear p6
          try clear q6
          try clear hx6
          try clear qi6
          try clear c8
          try clear c9
          try clear c9b0
          try clear c9b1
          try clear p2
          try clear p6
          try clear q6
          obtain ⟨kq, x3_6, rfl, HA, HJ6, ⟨mc6, rfl⟩⟩ := hcut
          cases kq with
          | zero => exact absurd HA.out (by simp [dowelref01_Check.j1])
          | succ kj6 =>
            have H := HA.out
            clear HA
            simp only [dowelref01_Check.j1] at H
            by_cases c10 : (x3_6.size : Int) = 0
            · rw [if_pos c10] at H
              have c10b0 : ((x3_6.size : Int) == 0) = true := beq_iff_eq.mpr c10
              have c10b1 : ((x3_6.size : Int) != 0) = false := bne_eq_false_iff_eq.mpr c10
              clear c10
              obtain rfl := Option.some.inj H
              go_wp2
              go_ret
              exact ⟨by first | rfl | (simp; done) | (simp [*]; done), by repeat (first | exact Drawn0.refl _ | apply Drawn0.step)⟩
            · rw [if_neg c10] at H
              have c10b0 : ((x3_6.size : Int) == 0) = false := beq_eq_false_iff_ne.mpr c10
              have c10b1 : ((x3_6.size : Int) != 0) = true := bne_iff_ne.mpr c10
              have H' := Aside0.mk H
              clear H
              go_wp2
              go_loopg [4] kj6 (fun kq v4 w' => ∃ (x4_3 : Int), v4 = .int .i64 x4_3 ∧ Aside0 (dowelref01_Check.l0 kq a0 x3_6 x4_3 = some r) ∧ Aside0 (kq ≤ kj6) ∧ Drawn0 w w')
              case atStart => exact ⟨(0), (by first | rfl | (simp; done) | (simp [*]; done)), H', ⟨Nat.le_refl _⟩, by repeat (first | exact Drawn0.refl _ | apply Drawn0.step)⟩
              case round =>
                clear H'
                try clear c1
                try clear c2
                try clear c2b0
                try clear c2b1
                try clear p2
                try clear c4
                try clear c4b0
                try clear c4b1
                try clear c5
                try clear c5b0
                try clear c5b1
                try clear c6
                try clear p6
                try clear q6
                try clear hx6
                try clear qi6
                try clear c8
                try clear c9
                try clear c9b0
                try clear c9b1
                try clear c10
                try clear c10b0
                try clear c10b1
                try clear p2
                try clear p6
                try clear q6
                obtain ⟨x4_3, rfl, HA, HK3, ⟨m3, rfl⟩⟩ := hrel
                cases gk with
                | zero => exact absurd HA.out (by simp [dowelref01_Check.l0])
                | succ k3 =>
                  have H := HA.out
                  clear HA
                  simp only [dowelref01_Check.l0] at H
                  by_cases c11 : x4_3 < (x3_6.size : Int)
                  · rw [if_pos c11] at H
                    have c11b0 : decide (x4_3 < (x3_6.size : Int)) = true := decide_eq_true c11
                    clear c11
                    by_cases c12 : 0 ≤ x4_3
                    · rw [if_pos c12] at H
                      have c12b0 : decide (0 ≤ x4_3) = true := decide_eq_true c12
                      clear c12
                      by_cases c14 : (bt x3_6 x4_3) < 48
                      · rw [if_pos c14] at H
                        have c14b0 : decide ((bt x3_6 x4_3) < 48) = true := decide_eq_true c14
                        clear c14
                        obtain rfl := Option.some.inj H
                        have p13 : 0 ≤ (x4_3 : Int) := of_decide_eq_true (by first | (with_reducible assumption) | assumption)
                        have q13 : x4_3 < (x3_6.size : Int) := of_decide_eq_true (by first | (with_reducible assumption) | assumption)
                        have hx13 := bt_at x3_6 x4_3
                        replace p13 := eq_true p13
                        replace q13 := eq_true q13
                        go_wp2
                        go_ret
                        exact ⟨by first | rfl | (simp; done) | (simp [*]; done), by repeat (first | exact Drawn0.refl _ | apply Drawn0.step)⟩
                      · rw [if_neg c14] at H
                        have c14b0 : decide ((bt x3_6 x4_3) < 48) = false := decide_eq_false c14
                        clear c14
                        by_cases c16 : (bt x3_6 x4_3) > 57
                        · rw [if_pos c16] at H
                          have c16b0 : decide (57 < (bt x3_6 x4_3)) = true := decide_eq_true c16
                          clear c16
                          obtain rfl := Option.some.inj H
                          have p13 : 0 ≤ (x4_3 : Int) := of_decide_eq_true (by first | (with_reducible assumption) | assumption)
                          have q13 : x4_3 < (x3_6.size : Int) := of_decide_eq_true (by first | (with_reducible assumption) | assumption)
                          have hx13 := bt_at x3_6 x4_3
                          replace p13 := eq_true p13
                          replace q13 := eq_true q13
                          have p15 : 0 ≤ (x4_3 : Int) := of_decide_eq_true (by first | (with_reducible assumption) | assumption)
                          have q15 : x4_3 < (x3_6.size : Int) := of_decide_eq_true (by first | (with_reducible assumption) | assumption)
                          have hx15 := bt_at x3_6 x4_3
                          replace p15 := eq_true p15
                          replace q15 := eq_true q15
                          go_wp2
                          go_ret
                          exact ⟨by first | rfl | (simp; done) | (simp [*]; done), by repeat (first | exact Drawn0.refl _ | apply Drawn0.step)⟩
                        · rw [if_neg c16] at H
                          have c16b0 : decide (57 < (bt x3_6 x4_3)) = false := decide_eq_false c16
                          clear c16
                          have H' := Aside0.mk H
                          clear H
                          have p13 : 0 ≤ (x4_3 : Int) := of_decide_eq_true (by first | (with_reducible assumption) | assumption)
                          have q13 : x4_3 < (x3_6.size : Int) := of_decide_eq_true (by first | (with_reducible assumption) | assumption)
                          have hx13 := bt_at x3_6 x4_3
                          replace p13 := eq_true p13
                          replace q13 := eq_true q13
                          have p15 : 0 ≤ (x4_3 : Int) := of_decide_eq_true (by first | (with_reducible assumption) | assumption)
                          have q15 : x4_3 < (x3_6.size : Int) := of_decide_eq_true (by first | (with_reducible assumption) | assumption)
                          have hx15 := bt_at x3_6 x4_3
                          replace p15 := eq_true p15
                          replace q15 := eq_true q15
                          go_wp2
                          go_roundg k3
                          case measure => have := HJ2.out; have := HJ6.out; have := HK3.out; omega
                          case rel => exact ⟨(wrap64 (x4_3 + 1)), (by first | rfl | (simp; done) | (simp [*]; done)), H', ⟨by have := HJ2.out; have := HJ6.out; have := HK3.out; omega⟩, by repeat (first | exact Drawn0.refl _ | apply Drawn0.step)⟩
                    · rw [if_neg c12] at H
                      exact absurd H (by simp)
                  · rw [if_neg c11] at H
                    have c11b0 : decide (x4_3 < (x3_6.size : Int)) = false := decide_eq_false c11
                    clear c11
                    by_cases c17 : 0 < (x3_6.size : Int)
                    · rw [if_pos c17] at H
                      have c17b0 : decide (0 < (x3_6.size : Int)) = true := decide_eq_true c17
                      have c17b1 : decide (0 < x3_6.size) = true := decide_eq_true (by omega)
                      clear c17
                      by_cases c19 : (bt x3_6 0) = 48
                      · rw [if_pos c19] at H
                        have c19b0 : ((bt x3_6 0) == 48) = true := beq_iff_eq.mpr c19
                        have c19b1 : ((bt x3_6 0) != 48) = false := bne_eq_false_iff_eq.mpr c19
                        clear c19
                        by_cases c20 : (x3_6.size : Int) > 1
                        · rw [if_pos c20] at H
                          have c20b0 : decide (1 < (x3_6.size : Int)) = true := decide_eq_true c20
                          have c20b1 : decide (1 < x3_6.size) = true := decide_eq_true (by omega)
                          clear c20
                          obtain rfl := Option.some.inj H
                          have p18 : 0 ≤ (0 : Int) := (by omega)
                          have q18 : 0 < x3_6.size := (by have : (0 : Int) < (x3_6.size : Int) := of_decide_eq_true (by first | (with_reducible assumption) | assumption); omega)
                          have hx18 : ∀ h : 0 < x3_6.size, ((x3_6[0]'h).toNat : Int) = bt x3_6 0 := bt_at x3_6 0
                          clear p18
                          have qi18 : (0 < (x3_6.size : Int)) = True := eq_true (of_decide_eq_true (by first | (with_reducible assumption) | assumption))
                          replace q18 := eq_true q18
                          go_wp2
                          go_ret
                          exact ⟨by first | rfl | (simp; done) | (simp [*]; done), by repeat (first | exact Drawn0.refl _ | apply Drawn0.step)⟩
                        · rw [if_neg c20] at H
                          have c20b0 : decide (1 < (x3_6.size : Int)) = false := decide_eq_false c20
                          have c20b1 : decide (1 < x3_6.size) = false := decide_eq_false (by omega)
                          clear c20
                          by_cases c21 : (a0.size : Int) > 1
                          · rw [if_pos c21] at H
                            have c21b0 : decide (1 < (a0.size : Int)) = true := decide_eq_true c21
                            have c21b1 : decide (1 < a0.size) = true := decide_eq_true (by omega)
                            clear c21
                            obtain rfl := Option.some.inj H
                            have p18 : 0 ≤ (0 : Int) := (by omega)
                            have q18 : 0 < x3_6.size := (by have : (0 : Int) < (x3_6.size : Int) := of_decide_eq_true (by first | (with_reducible assumption) | assumption); omega)
                            have hx18 : ∀ h : 0 < x3_6.size, ((x3_6[0]'h).toNat : Int) = bt x3_6 0 := bt_at x3_6 0
                            clear p18
                            have qi18 : (0 < (x3_6.size : Int)) = True := eq_true (of_decide_eq_true (by first | (with_reducible assumption) | assumption))
                            replace q18 := eq_true q18
                            go_wp2
                            go_ret
                            exact ⟨by first | rfl | (simp; done) | (simp [*]; done), by repeat (first | exact Drawn0.refl _ | apply Drawn0.step)⟩
                          · rw [if_neg c21] at H
                            have c21b0 : decide (1 < (a0.size : Int)) = false := decide_eq_false c21
                            have c21b1 : decide (1 < a0.size) = false := decide_eq_false (by omega)
                            clear c21
                            obtain rfl := Option.some.inj H
                            have p18 : 0 ≤ (0 : Int) := (by omega)
                            have q18 : 0 < x3_6.size := (by have : (0 : Int) < (x3_6.size : Int) := of_decide_eq_true (by first | (with_reducible assumption) | assumption); omega)
                            have hx18 : ∀ h : 0 < x3_6.size, ((x3_6[0]'h).toNat : Int) = bt x3_6 0 := bt_at x3_6 0
                            clear p18
                            have qi18 : (0 < (x3_6.size : Int)) = True := eq_true (of_decide_eq_true (by first | (with_reducible assumption) | assumption))
                            replace q18 := eq_true q18
                            go_wp2
                            go_ret
                            exact ⟨by first | rfl | (simp; done) | (simp [*]; done), by repeat (first | exact Drawn0.refl _ | apply Drawn0.step)⟩
                      · rw [if_neg c19] at H
                        have c19b0 : ((bt x3_6 0) == 48) = false := beq_eq_false_iff_ne.mpr c19
                        have c19b1 : ((bt x3_6 0) != 48) = true := bne_iff_ne.mpr c19
                        obtain rfl := Option.some.inj H
                        have p18 : 0 ≤ (0 : Int) := (by omega)
                        have q18 : 0 < x3_6.size := (by have : (0 : Int) < (x3_6.size : Int) := of_decide_eq_true (by first | (with_reducible assumption) | assumption); omega)
                        have hx18 : ∀ h : 0 < x3_6.size, ((x3_6[0]'h).toNat : Int) = bt x3_6 0 := bt_at x3_6 0
                        clear p18
                        have qi18 : (0 < (x3_6.size : Int)) = True := eq_true (of_decide_eq_true (by first | (with_reducible assumption) | assumption))
                        replace q18 := eq_true q18
                        go_wp2
                        go_ret
                        exact ⟨by first | rfl | (simp; done) | (simp [*]; done), by repeat (first | exact Drawn0.refl _ | apply Drawn0.step)⟩
                    · rw [if_neg c17] at H
                      exact absurd H (by simp)

end Go.Proofs.YtapckjeedekphaaGreatDoor.PR

namespace Go.Proofs.YtapckjeedekphaaGreatDoor
open Go.RowKit Go.Proofs.YtapckjeedekphaaGreatDoorW.PrintWords PR
theorem u64in {n : Int} (h0 : 0 ≤ n) (h1 : n ≤ 18446744073709551615) : IntKind.u64.wrap n = n := IntWalk.u64_in n ⟨h0, h1⟩
theorem minus32_step (a b out : List Int) (n k : Nat) (c : Int) (hla : a.length ≤ 1000000000) (ho : out.length = a.length) (hln : n < a.length)
    (ra : 0 ≤ rd a n ∧ rd a n < 4294967296) (rb : 0 ≤ at0 b n ∧ at0 b n < 4294967296) (hc0 : 0 ≤ c) (hc1 : c ≤ 1) :
    integer_minus.l0 (k + 1) b out c a (a.length : Int) (n : Int) = (if rd a n - c - at0 b n < 0 then integer_minus.l0 k b (out.set n ((rd a n - c - at0 b n) % 4294967296)) 1 a (a.length : Int) ((n + 1 : Nat) : Int) else integer_minus.l0 k b (out.set n ((rd a n - c - at0 b n) % 4294967296)) 0 a (a.length : Int) ((n + 1 : Nat) : Int)) := by
  by_cases c2 : n < b.length
  · have f2 : at0 b n = rd b n := by unfold at0; rw [if_pos c2]
    rw [f2] at rb ⊢
    simp only [integer_minus.l0]
    rw [if_pos (by omega), if_pos (by omega), if_pos (by omega), if_pos (by omega), w64 (x := rd a n) (by omega) (by omega), w64 (x := rd a n - c) (by omega) (by omega), w64 (x := rd b n) (by omega) (by omega), w64 (x := rd a n - c - rd b n) (by omega) (by omega), w64s n (by omega),
      if_pos (show (n : Int) < (out.length : Int) by omega), if_pos (show (n : Int) < (out.length : Int) by omega), Int.toNat_natCast]
  · have f2 : at0 b n = 0 := by unfold at0; rw [if_neg c2]
    rw [f2, Int.sub_zero]
    simp only [integer_minus.l0]
    rw [if_pos (by omega), if_pos (by omega), if_pos (by omega), if_neg (by omega), w64 (x := rd a n) (by omega) (by omega), w64 (x := rd a n - c) (by omega) (by omega), w64s n (by omega),
      if_pos (show (n : Int) < (out.length : Int) by omega), if_pos (show (n : Int) < (out.length : Int) by omega), Int.toNat_natCast]
theorem V_set_zero {B : Int} {out : List Int} {n : Nat} {v : Int} (h : n < out.length) (hz : Zr out n) : V B (out.set n v) = V B out + B ^ n * v := by
  rw [V_set B out n v h, hz n (Nat.le_refl _) h, Int.sub_zero]
theorem minus32_loop (a b : List Int) (ha : Dg 4294967296 a) (hb : Dg 4294967296 b) (hla : a.length ≤ 1000000000) (hlb : b.length ≤ a.length) (hge : V 4294967296 b ≤ V 4294967296 a) (m : Nat) :
    ∀ k n c out, m < k → n + m = a.length → out.length = a.length → Zr out n → 0 ≤ c → c ≤ 1 → Dg 4294967296 out → V 4294967296 out - 4294967296 ^ n * c = V 4294967296 (a.take n) - V 4294967296 (b.take n) →
    ∃ r, integer_minus.l0 k b out c a (a.length : Int) (n : Int) = some r ∧ Dg 4294967296 r ∧ V 4294967296 r = V 4294967296 a - V 4294967296 b ∧ r.length = a.length := by
  induction m with
  | zero =>
    intro k n c out hk hn hl hz hc0 hc1 hd hV
    obtain ⟨k, rfl⟩ : ∃ m, k = m + 1 := ⟨k - 1, by clear hV; omega⟩
    rw [V_take_over _ a n (by clear hV; omega), V_take_over _ b n (by clear hV; omega)] at hV
    have h1 := V_lt (B := 4294967296) (by decide) hd
    have e : n = out.length := by clear hV; omega
    rw [← e] at h1
    have hc : c = 0 := borrow0 _ _ _ c h1 (by clear hV; omega) (by clear hV; omega) hV
    subst hc
    simp only [integer_minus.l0]
    rw [if_neg (by clear hV; omega)]
    exact ⟨out, rfl, hd, by simpa using hV, hl⟩
  | succ m ih =>
    intro k n c out hk hn hl hz hc0 hc1 hd hV
    obtain ⟨k, rfl⟩ : ∃ m, k = m + 1 := ⟨k - 1, by clear hV; omega⟩
    have hna : n < a.length := by clear hV; omega
    have ra := Dg_rd ha n hna
    have rb := at0_range (B := 4294967296) (by decide) hb n
    have fa : at0 a n = rd a n := by unfold at0; rw [if_pos hna]
    have hz' : ∀ v, Zr (out.set n v) (n + 1) := fun v => Zr_set (Zr_mono hz (Nat.le_succ n)) (Nat.lt_succ_self n)
    rw [minus32_step a b out n k c hla hl hna ra rb hc0 hc1]
    by_cases c1 : rd a n - c - at0 b n < 0
    · rw [if_pos c1]
      have e : (rd a n - c - at0 b n) % 4294967296 = rd a n - c - at0 b n + 4294967296 := by clear hV; omega
      refine ih k (n + 1) 1 _ (by clear hV; omega) (by clear hV; omega) (by simp [hl]) (hz' _) (by decide) (by decide) (Dg_set hd _ (by clear hV; omega)) ?_
      rw [V_set_zero (by clear hV; omega) hz, V_take_at0, V_take_at0, Int.pow_succ, fa, e]
      exact dif_step32 _ _ _ c _ _ _ _ _ (by clear hV; omega) hV
    · rw [if_neg c1]
      have e : (rd a n - c - at0 b n) % 4294967296 = rd a n - c - at0 b n := by clear hV; omega
      refine ih k (n + 1) 0 _ (by clear hV; omega) (by clear hV; omega) (by simp [hl]) (hz' _) (by decide) (by decide) (Dg_set hd _ (by clear hV; omega)) ?_
      rw [V_set_zero (by clear hV; omega) hz, V_take_at0, V_take_at0, Int.pow_succ, fa, e]
      exact dif_step32 _ _ _ c _ _ _ _ _ (by clear hV; omega) hV
  where
  dif_step32 (P a b c q r A C T : Int) (h : r = a - c - b + q * 4294967296) (hV : T - P * c = A - C) : T + P * r - P * 4294967296 * q = (A + P * a) - (C + P * b) := by
    subst h
    grind
theorem minus32 (a b : List Int) (ha : Dg 4294967296 a) (hb : Dg 4294967296 b) (tb : Tr b) (hla : a.length ≤ 1000000000) (hge : V 4294967296 b ≤ V 4294967296 a) (k : Nat) (hk : a.length < k) :
    ∃ r, integer_minus.f k a b = some r ∧ Dg 4294967296 r ∧ V 4294967296 r = V 4294967296 a - V 4294967296 b ∧ r.length = a.length := by
  have hl : b.length ≤ a.length := by
    apply Classical.byContradiction
    intro hc
    have := V_len_lt (B := 4294967296) (by omega) ha hb tb (by omega)
    omega
  unfold integer_minus.f
  rw [if_pos (by omega), if_pos (by omega)]
  have h := minus32_loop a b ha hb hla hl hge a.length k 0 0 (List.replicate a.length 0) hk (by omega) (by simp) (Zr_replicate _ _) (by omega) (by omega) (Dg_replicate (by decide) _) (by rw [V_replicate]; simp [V])
  simpa using h
/-- The step of a sum. -/
theorem plus32_step {out a b : List Int} {n : Nat} {c s : Int} (h : n < out.length) (hz : Zr out n) (hs : s = c + at0 a n + at0 b n)
    (hV : V 4294967296 out + 4294967296 ^ n * c = V 4294967296 (a.take n) + V 4294967296 (b.take n)) :
    V 4294967296 (out.set n (s % 4294967296)) + 4294967296 ^ (n + 1) * (s / 4294967296) = V 4294967296 (a.take (n + 1)) + V 4294967296 (b.take (n + 1)) := by
  rw [V_set_zero h hz, V_take_at0, V_take_at0, Int.pow_succ]
  have e : s % 4294967296 + 4294967296 * (s / 4294967296) = s := Int.emod_add_mul_ediv s 4294967296
  have e2 : (4294967296 : Int) ^ n * (s % 4294967296 + 4294967296 * (s / 4294967296)) = 4294967296 ^ n * s := by rw [e]
  rw [hs] at e2
  rw [hs]
  generalize (4294967296 : Int) ^ n = P at *
  grind
end Go.Proofs.YtapckjeedekphaaGreatDoor

namespace Go.Proofs.YtapckjeedekphaaGreatDoor
open Go.RowKit Go.Proofs.YtapckjeedekphaaGreatDoorW.PrintWords PR
/-- The result is a row of digits with this value. -/
def RetD (w : World) (x : Int) (n : Nat) (e : Ending) (w' : World) : Prop := ∃ v r, e = .returned v ∧ Mg w' v r ∧ Dg B32 r ∧ V B32 r = x ∧ r.length ≤ n ∧ Below w.heap.size w w'
theorem info140' : ∃ i, Tryz.prog.info? 140 = some i ∧ i.zero = some (.int .u32 0) ∧ i.size = 1 ∧ i.bytes = 4 := by
  obtain ⟨i0, hi, hz, hs, hb⟩ := info_parts PR.info140
  exact ⟨i0, hi, hz, hs, hb⟩
theorem mk140 (m : Nat) (hm : m ≤ 2000000000) (W : World) : Sem.run Tryz.prog (Instr.makeSlice 25 (.int .i64 (m : Int)) (.int .i64 (m : Int))) W = .ok (.slice (some ⟨W.heap.size, 0, none⟩) m m) (W.alloc (.cells (madeCells #[.int .u32 0] m) 140)) := by
  obtain ⟨i0, hi, hz, hs, hby⟩ := info140'
  exact run_make_ib (P := Tryz.prog) 25 140 i0 .u32 4 Tryz.underlying25 hi hz hs hby m (by omega) (by omega) W
theorem p_order (va vb : Value) (a b : List Int) (w : World) (ha : Mg w va a) (hb : Mg w vb b) (da : Dg B32 a) (db : Dg B32 b) (ta : Tr a) (tb : Tr b) (hl : a.length ≤ 1000000000) :
    Calls Tryz.prog 148 #[va, vb] w fun e w' => e = .returned (.int .i64 (cmp (V B32 a) (V B32 b))) ∧ Below w.heap.size w w' := by
  have ha' := ha
  have hb' := hb
  obtain ⟨A, c, rfl, _⟩ := ha'
  obtain ⟨A', c', rfl, _⟩ := hb'
  have h1 := ha.C
  have h2 := hb.C
  exact (integer_order.calls _ _ _ _ _ _ _ _ w h1.2.2 h1.2.1 h2.2.2 h2.2.1 (order32 a b da db ta tb (by omega) (a.length + 1) (by omega))).mono fun _ _ ⟨h1, h2⟩ => ⟨h1, h2.below⟩
theorem p_minus (va vb : Value) (a b : List Int) (w : World) (ha : Mg w va a) (hb : Mg w vb b) (da : Dg B32 a) (db : Dg B32 b) (tb : Tr b) (hl : a.length ≤ 1000000000) (hge : V B32 b ≤ V B32 a) :
    Calls Tryz.prog 181 #[va, vb] w (RetD w (V B32 a - V B32 b) a.length) := by
  have ha' := ha
  have hb' := hb
  obtain ⟨A, c, rfl, _⟩ := ha'
  obtain ⟨A', c', rfl, _⟩ := hb'
  have h1 := ha.C
  have h2 := hb.C
  obtain ⟨r, r1, r2, r3, r4⟩ := minus32 a b da db tb hl hge (a.length + 1) (by omega)
  refine (integer_minus.calls _ _ _ _ _ _ _ _ w h1.2.2 h1.2.1 h2.2.2 h2.2.1 r1).mono ?_
  rintro e w' ⟨v, rfl, hv, hb⟩
  exact ⟨v, r, rfl, .of_R hv, r2, r3, by omega, hb⟩
theorem Dg_set32 {l : List Int} (h : Dg B32 l) (j : Nat) {v : Int} (hv : 0 ≤ v ∧ v < 4294967296) : Dg B32 (l.set j v) := Dg_set h j hv
/-- What the loop of plus holds. -/
def PlusRel (w0 w' : World) (a b : List Int) (i : Nat) (c : Int) : Prop := ∃ out, MulMem w0 w' w0.heap.size 140 .u32 B32 (a.length + 1) out ∧ Zr out i ∧ V 4294967296 out + 4294967296 ^ i * c = V 4294967296 (a.take i) + V 4294967296 (b.take i)
set_option maxHeartbeats 800000 in
theorem p_plus (va vb : Value) (a b : List Int) (w : World) (ha : Mg w va a) (hb : Mg w vb b) (da : Dg B32 a) (db : Dg B32 b) (hla : a.length ≤ 1000000000) (hlb : b.length ≤ 1000000000) :
    Calls Tryz.prog 180 #[va, vb] w (RetD w (V B32 a + V B32 b) (max a.length b.length + 1)) := by
  have HA := Lib.hid ha
  have HB := Lib.hid hb
  have DA := Lib.hid da
  have DB := Lib.hid db
  obtain ⟨A, ca, rfl, hca, _, _⟩ := ha
  obtain ⟨A', cb, rfl, hcb, _, _⟩ := hb
  clear da db
  by_cases hlt : a.length < b.length
  · have mk := mk140 (b.length + 1) (by omega)
    rw [show ((b.length + 1 : Nat) : Int) = (b.length : Int) + 1 by omega] at mk
    go_enter Tryz.func180, Tryz.ntmps180
    go_wp2_with fail
    clear mk
    go_loopg [6, 22] (b.length + 1) (fun gk v6 v22 w' => ∃ (i : Nat) (c : Int), i ≤ b.length ∧ b.length < gk + i ∧ 0 ≤ c ∧ c ≤ 1 ∧ v6 = .int .u64 c ∧ v22 = .int .i64 i ∧ Hid (PlusRel w w' b a i c))
    case atStart => exact ⟨0, 0, by omega, by omega, by omega, by omega, rfl, rfl, _, ⟨IB.new w 140 .u32 _, by simp, Dg_replicate (by decide) _, (Below.refl _ _).alloc (Nat.le_refl _) _⟩, Zr_replicate _ _, by rw [V_replicate]; simp [V]⟩
    case round =>
      obtain ⟨i, c, hi, hgk, hc0, hc1, rfl, rfl, HR⟩ := hrel
      by_cases hlt : i < b.length
      · obtain ⟨out, hm, hz, hV⟩ := HR.out
        have hlen := hm.len
        have hcell := hm.ib.cell i (by omega)
        have hfr := hm.ib.frozen i
        rw [hz i (Nat.le_refl _) (by omega)] at hcell
        obtain ⟨ad, rfl, ca1⟩ := (HB.out.below hm.bl).at_ i hlt
        have ra : 0 ≤ rd b i ∧ rd b i < 4294967296 := Dg_rd DB.out i hlt
        have fa : at0 b i = rd b i := by unfold at0; rw [if_pos hlt]
        by_cases hlb : i < a.length
        · obtain ⟨bd, rfl, cb1⟩ := (HA.out.below hm.bl).at_ i hlb
          have rb : 0 ≤ rd a i ∧ rd a i < 4294967296 := Dg_rd DA.out i hlb
          have fb : at0 a i = rd a i := by unfold at0; rw [if_pos hlb]
          rw [← fa] at ra ca1
          rw [← fb] at rb cb1
          generalize hx : at0 b i = x at *
          generalize hy : at0 a i = y at *
          have HH := Lib.hid (And.intro hx (And.intro hy (And.intro hm (And.intro hz hV))))
          have HL := Lib.hid hlen
          clear hx hy hm hz hV hlen HR fa fb
          go_wp2_with fail
          obtain ⟨hx, hy, hm, hz, hV⟩ := HH.out
          have hlen := HL.out
          go_roundg (gk - 1)
          case measure => omega
          case rel => exact ⟨i + 1, (c + x + y) / 4294967296, by omega, by omega, by omega, by omega, rfl, rfl, out.set i ((c + x + y) % 4294967296), ⟨hm.ib.set_ _ _, by simpa using hlen, Dg_set32 hm.dg _ (by omega), hm.bl.setCell (Nat.le_refl _) _⟩, Zr_set (Zr_mono hz (Nat.le_succ i)) (Nat.lt_succ_self i), plus32_step (by omega) hz (by rw [hx, hy]) hV⟩
        · have fb : at0 a i = 0 := by unfold at0; rw [if_neg hlb]
          rw [← fa] at ra ca1
          generalize hx : at0 b i = x at *
          have HH := Lib.hid (And.intro hx (And.intro fb (And.intro hm (And.intro hz hV))))
          have HL := Lib.hid hlen
          clear hx hm hz hV hlen HR fa fb
          go_wp2_with fail
          obtain ⟨hx, hy, hm, hz, hV⟩ := HH.out
          have hlen := HL.out
          go_roundg (gk - 1)
          case measure => omega
          case rel => exact ⟨i + 1, (c + x) / 4294967296, by omega, by omega, by omega, by omega, rfl, rfl, out.set i ((c + x) % 4294967296), ⟨hm.ib.set_ _ _, by simpa using hlen, Dg_set32 hm.dg _ (by omega), hm.bl.setCell (Nat.le_refl _) _⟩, Zr_set (Zr_mono hz (Nat.le_succ i)) (Nat.lt_succ_self i), plus32_step (by omega) hz (by rw [hx, hy, Int.add_zero]) hV⟩
      · obtain rfl : i = b.length := by omega
        obtain ⟨out, hm, hz, hV⟩ := HR.out
        have hlen := hm.len
        have hcell := hm.ib.cell b.length (by omega)
        have hfr := hm.ib.frozen b.length
        rw [hz b.length (Nat.le_refl _) (by omega)] at hcell
        have HH := Lib.hid (And.intro hm (And.intro hz hV))
        have HL := Lib.hid hlen
        clear hm hz hV hlen HR
        go_wp2_with fail
        go_ret
        obtain ⟨hm, hz, hV⟩ := HH.out
        have hlen := HL.out
        have hib := hm.ib.set_ b.length c
        have hsl : (out.set b.length c).length = b.length + 1 := by simpa using hlen
        refine ⟨_, out.set b.length c, ?_, hib.Mg (by omega), Dg_set32 hm.dg _ (by omega), ?_, by omega, hm.bl.setCell (Nat.le_refl _) _⟩
        · rw [hsl]; rfl
        · show V 4294967296 _ = V 4294967296 a + V 4294967296 b
          rw [V_set_zero (by omega) hz]
          rw [V_take_over _ b _ (Nat.le_refl _), V_take_over _ a _ (by omega)] at hV
          omega
  · have mk := mk140 (a.length + 1) (by omega)
    rw [show ((a.length + 1 : Nat) : Int) = (a.length : Int) + 1 by omega] at mk
    go_enter Tryz.func180, Tryz.ntmps180
    go_wp2_with fail
    clear mk
    go_loopg [6, 22] (a.length + 1) (fun gk v6 v22 w' => ∃ (i : Nat) (c : Int), i ≤ a.length ∧ a.length < gk + i ∧ 0 ≤ c ∧ c ≤ 1 ∧ v6 = .int .u64 c ∧ v22 = .int .i64 i ∧ Hid (PlusRel w w' a b i c))
    case atStart => exact ⟨0, 0, by omega, by omega, by omega, by omega, rfl, rfl, _, ⟨IB.new w 140 .u32 _, by simp, Dg_replicate (by decide) _, (Below.refl _ _).alloc (Nat.le_refl _) _⟩, Zr_replicate _ _, by rw [V_replicate]; simp [V]⟩
    case round =>
      obtain ⟨i, c, hi, hgk, hc0, hc1, rfl, rfl, HR⟩ := hrel
      by_cases hlt : i < a.length
      · obtain ⟨out, hm, hz, hV⟩ := HR.out
        have hlen := hm.len
        have hcell := hm.ib.cell i (by omega)
        have hfr := hm.ib.frozen i
        rw [hz i (Nat.le_refl _) (by omega)] at hcell
        obtain ⟨ad, rfl, ca1⟩ := (HA.out.below hm.bl).at_ i hlt
        have ra : 0 ≤ rd a i ∧ rd a i < 4294967296 := Dg_rd DA.out i hlt
        have fa : at0 a i = rd a i := by unfold at0; rw [if_pos hlt]
        by_cases hlb : i < b.length
        · obtain ⟨bd, rfl, cb1⟩ := (HB.out.below hm.bl).at_ i hlb
          have rb : 0 ≤ rd b i ∧ rd b i < 4294967296 := Dg_rd DB.out i hlb
          have fb : at0 b i = rd b i := by unfold at0; rw [if_pos hlb]
          rw [← fa] at ra ca1
          rw [← fb] at rb cb1
          generalize hx : at0 a i = x at *
          generalize hy : at0 b i = y at *
          have HH := Lib.hid (And.intro hx (And.intro hy (And.intro hm (And.intro hz hV))))
          have HL := Lib.hid hlen
          clear hx hy hm hz hV hlen HR fa fb
          go_wp2_with fail
          obtain ⟨hx, hy, hm, hz, hV⟩ := HH.out
          have hlen := HL.out
          go_roundg (gk - 1)
          case measure => omega
          case rel => exact ⟨i + 1, (c + x + y) / 4294967296, by omega, by omega, by omega, by omega, rfl, rfl, out.set i ((c + x + y) % 4294967296), ⟨hm.ib.set_ _ _, by simpa using hlen, Dg_set32 hm.dg _ (by omega), hm.bl.setCell (Nat.le_refl _) _⟩, Zr_set (Zr_mono hz (Nat.le_succ i)) (Nat.lt_succ_self i), plus32_step (by omega) hz (by rw [hx, hy]) hV⟩
        · have fb : at0 b i = 0 := by unfold at0; rw [if_neg hlb]
          rw [← fa] at ra ca1
          generalize hx : at0 a i = x at *
          have HH := Lib.hid (And.intro hx (And.intro fb (And.intro hm (And.intro hz hV))))
          have HL := Lib.hid hlen
          clear hx hm hz hV hlen HR fa fb
          go_wp2_with fail
          obtain ⟨hx, hy, hm, hz, hV⟩ := HH.out
          have hlen := HL.out
          go_roundg (gk - 1)
          case measure => omega
          case rel => exact ⟨i + 1, (c + x) / 4294967296, by omega, by omega, by omega, by omega, rfl, rfl, out.set i ((c + x) % 4294967296), ⟨hm.ib.set_ _ _, by simpa using hlen, Dg_set32 hm.dg _ (by omega), hm.bl.setCell (Nat.le_refl _) _⟩, Zr_set (Zr_mono hz (Nat.le_succ i)) (Nat.lt_succ_self i), plus32_step (by omega) hz (by rw [hx, hy, Int.add_zero]) hV⟩
      · obtain rfl : i = a.length := by omega
        obtain ⟨out, hm, hz, hV⟩ := HR.out
        have hlen := hm.len
        have hcell := hm.ib.cell a.length (by omega)
        have hfr := hm.ib.frozen a.length
        rw [hz a.length (Nat.le_refl _) (by omega)] at hcell
        have HH := Lib.hid (And.intro hm (And.intro hz hV))
        have HL := Lib.hid hlen
        clear hm hz hV hlen HR
        go_wp2_with fail
        go_ret
        obtain ⟨hm, hz, hV⟩ := HH.out
        have hlen := HL.out
        have hib := hm.ib.set_ a.length c
        have hsl : (out.set a.length c).length = a.length + 1 := by simpa using hlen
        refine ⟨_, out.set a.length c, ?_, hib.Mg (by omega), Dg_set32 hm.dg _ (by omega), ?_, by omega, hm.bl.setCell (Nat.le_refl _) _⟩
        · rw [hsl]; rfl
        · show V 4294967296 _ = V 4294967296 a + V 4294967296 b
          rw [V_set_zero (by omega) hz]
          rw [V_take_over _ a _ (Nat.le_refl _), V_take_over _ b _ (by omega)] at hV
          omega
end Go.Proofs.YtapckjeedekphaaGreatDoor

namespace Go.Proofs.YtapckjeedekphaaGreatDoor.PR
open Go.RowKit Go.Proofs.YtapckjeedekphaaGreatDoorW.PrintWords Go.Proofs.YtapckjeedekphaaGreatDoorW.PrintLast Go.Proofs.YtapckjeedekphaaGreatDoorW.PrintMore
set_option linter.unusedVariables false
set_option linter.unusedSimpArgs false

def dowelref02_slash.l0 : Nat → ByteArray → Int → Option (Int)
  | 0, _, _ => none
  | k + 1, x0, x3 => if x3 < (x0.size : Int) then (if 0 ≤ x3 then (if (bt x0 x3) = 47 then (some x3) else (dowelref02_slash.l0 k x0 (wrap64 (x3 + 1)))) else (none)) else (some (x0.size : Int))
def dowelref02_slash.f (k : Nat) (a0 : ByteArray) : Option (Int) := dowelref02_slash.l0 k a0 0
set_option maxHeartbeats 8000000 in
set_option maxRecDepth 100000 in
theorem dowelref02_slash.calls (k : Nat) (a0 : ByteArray) (r : Int) (w : World) (h : dowelref02_slash.f k a0 = some r) :
    Calls Tryz.prog 130 #[.string a0] w fun e w' => e = .returned (.int .i64 r) ∧ Drawn0 w w' := by
  have H : (dowelref02_slash.l0 k a0 0) = some r := h
  clear h
  have H' := Aside0.mk H
  clear H
  go_enter Tryz.func130, Tryz.ntmps130
  go_wp2
  go_loopg [3] k (fun kq v3 w' => ∃ (x3_1 : Int), v3 = .int .i64 x3_1 ∧ Aside0 (dowelref02_slash.l0 kq a0 x3_1 = some r) ∧ Aside0 (kq ≤ k) ∧ Drawn0 w w')
  case atStart => exact ⟨(0), (by first | rfl | (simp; done) | (simp [*]; done)), H', ⟨Nat.le_refl _⟩, by repeat (first | exact Drawn0.refl _ | apply Drawn0.step)⟩
  case round =>
    clear H'
    try clear c1
    obtain ⟨x3_1, rfl, HA, HK1, ⟨m1, rfl⟩⟩ := hrel
    cases gk with
    | zero => exact absurd HA.out (by simp [dowelref02_slash.l0])
    | succ k1 =>
      have H := HA.out
      clear HA
      simp only [dowelref02_slash.l0] at H
      by_cases c2 : x3_1 < (a0.size : Int)
      · rw [if_pos c2] at H
        have c2b0 : decide (x3_1 < (a0.size : Int)) = true := decide_eq_true c2
        clear c2
        by_cases c3 : 0 ≤ x3_1
        · rw [if_pos c3] at H
          have c3b0 : decide (0 ≤ x3_1) = true := decide_eq_true c3
          clear c3
          by_cases c5 : (bt a0 x3_1) = 47
          · rw [if_pos c5] at H
            have c5b0 : ((bt a0 x3_1) == 47) = true := beq_iff_eq.mpr c5
            have c5b1 : ((bt a0 x3_1) != 47) = false := bne_eq_false_iff_eq.mpr c5
            clear c5
            obtain rfl := Option.some.inj H
            have p4 : 0 ≤ (x3_1 : Int) := of_decide_eq_true (by first | (with_reducible assumption) | assumption)
            have q4 : x3_1 < (a0.size : Int) := of_decide_eq_true (by first | (with_reducible assumption) | assumption)
            have hx4 := bt_at a0 x3_1
            replace p4 := eq_true p4
            replace q4 := eq_true q4
            go_wp2
            go_ret
            exact ⟨by first | rfl | (simp; done) | (simp [*]; done), by repeat (first | exact Drawn0.refl _ | apply Drawn0.step)⟩
          · rw [if_neg c5] at H
            have c5b0 : ((bt a0 x3_1) == 47) = false := beq_eq_false_iff_ne.mpr c5
            have c5b1 : ((bt a0 x3_1) != 47) = true := bne_iff_ne.mpr c5
            have H' := Aside0.mk H
            clear H
            have p4 : 0 ≤ (x3_1 : Int) := of_decide_eq_true (by first | (with_reducible assumption) | assumption)
            have q4 : x3_1 < (a0.size : Int) := of_decide_eq_true (by first | (with_reducible assumption) | assumption)
            have hx4 := bt_at a0 x3_1
            replace p4 := eq_true p4
            replace q4 := eq_true q4
            go_wp2
            go_roundg k1
            case measure => have := HK1.out; omega
            case rel => exact ⟨(wrap64 (x3_1 + 1)), (by first | rfl | (simp; done) | (simp [*]; done)), H', ⟨by have := HK1.out; omega⟩, by repeat (first | exact Drawn0.refl _ | apply Drawn0.step)⟩
        · rw [if_neg c3] at H
          exact absurd H (by simp)
      · rw [if_neg c2] at H
        have c2b0 : decide (x3_1 < (a0.size : Int)) = false := decide_eq_false c2
        clear c2
        obtain rfl := Option.some.inj H
        go_wp2
        go_ret
        exact ⟨by first | rfl | (simp; done) | (simp [*]; done), by repeat (first | exact Drawn0.refl _ | apply Drawn0.step)⟩

end Go.Proofs.YtapckjeedekphaaGreatDoor.PR

namespace Go.Proofs.YtapckjeedekphaaGreatDoor
open Go.RowKit Go.Proofs.YtapckjeedekphaaGreatDoorW.PrintWords PR
/-- A byte is a decimal digit. -/
def isDig (b : UInt8) : Bool := decide (48 ≤ b.toNat) && decide (b.toNat ≤ 57)
/-- One or more digits. -/
def digs (l : List UInt8) : Bool := !l.isEmpty && l.all isDig
/-- Before the first slash, and behind it. -/
def pre (l : List UInt8) : List UInt8 := l.takeWhile (· != 47)
def post (l : List UInt8) : List UInt8 := l.drop ((pre l).length + 1)
/-- There is a slash. -/
def hasSl (l : List UInt8) : Bool := decide ((pre l).length < l.length)
theorem pre_len (l : List UInt8) : (pre l).length ≤ l.length := List.IsPrefix.length_le (List.takeWhile_prefix _)
theorem drop_get (l : List UInt8) (n : Nat) (h : n < l.length) : l.drop n = l[n] :: l.drop (n + 1) := List.drop_eq_getElem_cons h
theorem byte_eq {b c : UInt8} (h : (b.toNat : Int) = (c.toNat : Int)) : b = c := UInt8.toNat_inj.1 (by omega)
theorem slash_loop (l : List UInt8) (hm : l.length ≤ 1000000) (d : Nat) : ∀ k n, d < k → n + d = l.length → dowelref02_slash.l0 k (S l) (n : Int) = some ((n + (pre (l.drop n)).length : Nat) : Int) := by
  induction d with
  | zero =>
    intro k n hk hn
    obtain ⟨k, rfl⟩ : ∃ m, k = m + 1 := ⟨k - 1, by omega⟩
    simp only [dowelref02_slash.l0]
    rw [S_size, if_neg (by omega), List.drop_eq_nil_of_le (by omega)]
    simp [pre]
    omega
  | succ d ih =>
    intro k n hk hn
    obtain ⟨k, rfl⟩ : ∃ m, k = m + 1 := ⟨k - 1, by omega⟩
    have hlt : n < l.length := by omega
    simp only [dowelref02_slash.l0]
    rw [S_size, if_pos (by omega), if_pos (by omega), bt_S l n hlt, drop_get l n hlt]
    by_cases c : l[n] = 47
    · rw [if_pos (by rw [c]; rfl)]
      simp [pre, c]
    · rw [if_neg (fun e : (l[n].toNat : Int) = 47 => c (byte_eq e)), w64s n (by omega), ih k (n + 1) (by omega) (by omega)]
      have e : pre (l[n] :: l.drop (n + 1)) = l[n] :: pre (l.drop (n + 1)) := by unfold pre; rw [List.takeWhile_cons, if_pos (by simpa using c)]
      rw [e, List.length_cons]
      congr 2
      omega
theorem slash_eq (l : List UInt8) (hm : l.length ≤ 1000000) (k : Nat) (hk : l.length < k) : dowelref02_slash.f k (S l) = some ((pre l).length : Int) := by
  unfold dowelref02_slash.f
  have h := slash_loop l hm l.length k 0 hk (by omega)
  simpa using h
/-- A text without its sign. -/
def plain (l : List UInt8) : List UInt8 := if l.head? = some 45 then l.tail else l
/-- It begins with the digit 0. -/
def lead (l : List UInt8) : Bool := l.head? == some 48
/-- The error of a text as an integer. -/
def chkI (l : List UInt8) : Int := if l.length > 65536 then 5 else if digs (plain l) = false then 14 else if (lead (plain l) && decide (1 < l.length)) = true then 3 else 0
theorem check_loop (s l : List UInt8) (hl : l ≠ []) (hsl : l.length ≤ s.length) (hm : s.length ≤ 1000000) (d : Nat) : ∀ k n, d < k → n + d = l.length →
    dowelref01_Check.l0 k (S s) (S l) (n : Int) = some (if (l.drop n).all isDig = false then 14 else if (lead l && decide (1 < s.length)) = true then 3 else 0) := by
  induction d with
  | zero =>
    intro k n hk hn
    obtain ⟨k, rfl⟩ : ∃ m, k = m + 1 := ⟨k - 1, by omega⟩
    simp only [dowelref01_Check.l0]
    cases l with
    | nil => exact absurd rfl hl
    | cons b r =>
      have hb : bt (S (b :: r)) 0 = (b.toNat : Int) := bt_S (b :: r) 0 (by simp)
      rw [S_size, S_size, if_neg (by omega), if_pos (by simp), hb, List.drop_eq_nil_of_le (by omega), List.all_nil, if_neg (show ¬ (true = false) by decide)]
      by_cases c : b = 48
      · subst c
        have e : lead (48 :: r) = true := rfl
        rw [if_pos (show ((48 : UInt8).toNat : Int) = 48 from rfl), e, Bool.true_and]
        by_cases c2 : 1 < s.length
        · rw [decide_eq_true c2, if_pos (show true = true from rfl)]
          split
          · rfl
          · rw [if_pos (by omega)]
        · rw [decide_eq_false c2, if_neg (by omega), if_neg (by omega), if_neg (by decide)]
      · have e : lead (b :: r) = false := by unfold lead; simpa using c
        rw [if_neg (fun e : (b.toNat : Int) = 48 => c (byte_eq e)), e, Bool.false_and, if_neg (by decide)]
  | succ d ih =>
    intro k n hk hn
    obtain ⟨k, rfl⟩ : ∃ m, k = m + 1 := ⟨k - 1, by omega⟩
    have hlt : n < l.length := by omega
    simp only [dowelref01_Check.l0]
    rw [S_size l, if_pos (by omega), if_pos (by omega), bt_S l n hlt, drop_get l n hlt]
    by_cases c1 : ((l[n].toNat : Int) < 48)
    · rw [if_pos c1]
      have : isDig l[n] = false := by unfold isDig; simp; omega
      rw [List.all_cons, this]; rfl
    · rw [if_neg c1]
      by_cases c2 : (l[n].toNat : Int) > 57
      · rw [if_pos c2]
        have : isDig l[n] = false := by unfold isDig; simp; omega
        rw [List.all_cons, this]; rfl
      · rw [if_neg c2, w64s n (by omega), ih k (n + 1) (by omega) (by omega)]
        have : isDig l[n] = true := by unfold isDig; simp; omega
        rw [List.all_cons, this, Bool.true_and]
theorem check_j1 (s l : List UInt8) (hsl : l.length ≤ s.length) (hm : s.length ≤ 1000000) (k : Nat) (hk : l.length < k) :
    dowelref01_Check.j1 (k + 1) (S s) (S l) = some (if digs l = false then 14 else if (lead l && decide (1 < s.length)) = true then 3 else 0) := by
  simp only [dowelref01_Check.j1]
  rw [S_size]
  cases l with
  | nil => simp [digs]
  | cons b r =>
    have h := check_loop s (b :: r) (by simp) hsl hm (b :: r).length k 0 hk (by omega)
    have e : digs (b :: r) = (b :: r).all isDig := by unfold digs; simp
    rw [List.drop_zero] at h
    rw [if_neg (by simp; omega), e]
    exact h
theorem check_eq (l : List UInt8) (hm : l.length ≤ 65536) (k : Nat) (hk : l.length < k) : dowelref01_Check.f (k + 1 + 1) (S l) = some (chkI l) := by
  unfold dowelref01_Check.f chkI
  rw [S_size, if_neg (by omega), if_neg (show ¬ l.length > 65536 by omega)]
  cases l with
  | nil =>
    rw [if_neg (by simp)]
    simp only [dowelref01_Check.j0]
    rw [if_neg (by decide), check_j1 [] [] (by simp) (by simp) k (by omega)]
    rfl
  | cons b r =>
    have hb : bt (S (b :: r)) 0 = (b.toNat : Int) := bt_S (b :: r) 0 (by simp)
    rw [if_pos (show (((b :: r).length : Nat) : Int) > 0 by simp), if_pos (show 0 < (((b :: r).length : Nat) : Int) by simp), hb]
    by_cases c : b = 45
    · subst c
      have e1 : (((45 : UInt8).toNat : Int) == 45) = true := rfl
      have e2 : (S (45 :: r)).extract 1 (S (45 :: r)).size = S r := by
        apply Go.WideShapes.bytes_inj
        rw [Lib.extract_to_end]
        simp [S]
      have e3 : plain (45 :: r) = r := rfl
      simp only [dowelref01_Check.j0]
      rw [e1, if_pos (show true = true from rfl), if_pos (show 1 ≤ ((S (45 :: r)).size : Int) by rw [S_size]; simp; omega), e2, check_j1 (45 :: r) r (by simp) (by omega) k (by simp at hk; omega), e3]
    · have e1 : ((b.toNat : Int) == 45) = false := beq_eq_false_iff_ne.2 (fun e : (b.toNat : Int) = 45 => c (byte_eq e))
      have e3 : plain (b :: r) = b :: r := by unfold plain; rw [if_neg (by simpa using c)]
      simp only [dowelref01_Check.j0]
      rw [e1, if_neg (by decide), check_j1 (b :: r) (b :: r) (Nat.le_refl _) (by omega) k hk, e3]
theorem check_long (l : List UInt8) (hm : 65536 < l.length) (k : Nat) : dowelref01_Check.f k (S l) = some (chkI l) := by
  unfold dowelref01_Check.f chkI
  rw [S_size, if_pos (by omega), if_pos hm]
end Go.Proofs.YtapckjeedekphaaGreatDoor

namespace Go.Proofs.YtapckjeedekphaaGreatDoor
open Go.RowKit Go.Proofs.YtapckjeedekphaaGreatDoorW.PrintWords PR
/-- The value of a text of an integer. -/
def vI (l : List UInt8) : Int := if l.head? = some 45 then - V 10 (dl l) else V 10 (dl l)
theorem isDig_iff (b : UInt8) : isDig b = true ↔ 48 ≤ b.toNat ∧ b.toNat ≤ 57 := by unfold isDig; simp
theorem dl_digs {l : List UInt8} (h : l.all isDig = true) : dl l = l.reverse.map (fun b => (b.toNat : Int) - 48) ∧ Dg 10 (dl l) ∧ txd (dl l) = l := by
  have h1 : ∀ b ∈ l, 48 ≤ b.toNat ∧ b.toNat ≤ 57 := fun b hb => (isDig_iff b).1 (List.all_eq_true.1 h b hb)
  have e : dl l = l.reverse.map (fun b => (b.toNat : Int) - 48) := by
    unfold dl
    rw [List.filter_eq_self.2]
    intro b hb
    have := h1 b (List.mem_reverse.1 hb)
    have h45 : (45 : UInt8).toNat = 45 := rfl
    simp only [bne_iff_ne, ne_eq]
    rintro rfl
    omega
  refine ⟨e, ?_, ?_⟩
  · rw [e]
    intro x hx
    obtain ⟨b, hb, rfl⟩ := List.mem_map.1 hx
    have := h1 b (List.mem_reverse.1 hb)
    omega
  · rw [e]
    unfold txd
    rw [← List.map_reverse, List.reverse_reverse, List.map_map]
    conv => rhs; rw [← List.map_id l]
    apply List.map_congr_left
    intro b hb
    have := h1 b hb
    apply UInt8.toNat_inj.1
    simp only [Function.comp, id]
    rw [UInt8.toNat_ofNat']
    omega
theorem itx_digs {l : List UInt8} (h : l.all isDig = true) (hne : l ≠ []) (hl : lead l = true → l.length = 1) : itx (V 10 (dl l)) = l ∧ 0 ≤ V 10 (dl l) := by
  obtain ⟨e, hd, ht⟩ := dl_digs h
  have h0 := V_nonneg (B := 10) (by omega) hd
  refine ⟨?_, h0⟩
  cases l with
  | nil => exact absurd rfl hne
  | cons b r =>
    by_cases c : b = 48
    · subst c
      have : r = [] := by have := hl rfl; simpa using this
      subst this
      rw [show dl [48] = [0] from rfl]
      exact itx_zero
    · have hb := (isDig_iff b).1 (List.all_eq_true.1 h b (by simp))
      have hT : Tr (dl (b :: r)) := by
        rw [e]
        refine .inr ⟨r.reverse.map (fun b => (b.toNat : Int) - 48), (b.toNat : Int) - 48, by simp, fun h => c ?_⟩
        exact byte_eq (c := 48) (by have : (48 : UInt8).toNat = 48 := rfl; omega)
      have hD := D10_eq hd hT (n := (V 10 (dl (b :: r))).toNat) (by omega)
      have hne : dl (b :: r) ≠ [] := by rw [e]; simp
      unfold itx
      rw [show (V 10 (dl (b :: r))).natAbs = (V 10 (dl (b :: r))).toNat by omega, hD]
      unfold txs
      rw [if_neg hne, decide_eq_false (by omega), if_neg (by decide), ht]
      rfl
/-- A text without a fault is the text of its value. -/
theorem itx_vI {l : List UInt8} (hd : digs (plain l) = true) (hf : (lead (plain l) && decide (1 < l.length)) = false) : itx (vI l) = l := by
  have hall : (plain l).all isDig = true ∧ plain l ≠ [] := by
    unfold digs at hd
    simp only [Bool.and_eq_true, Bool.not_eq_true', List.isEmpty_eq_false_iff] at hd
    exact ⟨hd.2, hd.1⟩
  cases l with
  | nil => exact absurd rfl hall.2
  | cons b r =>
    by_cases c : b = 45
    · subst c
      have e3 : plain (45 :: r) = r := rfl
      rw [e3] at hall hf
      have hr : 0 < r.length := by cases r with
        | nil => exact absurd rfl hall.2
        | cons => simp
      have hlead : lead r = false := by
        rw [decide_eq_true (by simp; omega), Bool.and_true] at hf
        exact hf
      obtain ⟨h1, h2⟩ := itx_digs hall.1 hall.2 (fun h => by rw [hlead] at h; cases h)
      have e4 : vI (45 :: r) = - V 10 (dl r) := by
        unfold vI
        rw [if_pos (show (45 :: r : List UInt8).head? = some 45 from rfl)]
        have : dl (45 :: r) = dl r := by rw [show (45 :: r : List UInt8) = [45] ++ r from rfl, dl_append]; exact List.append_nil _
        rw [this]
      rw [e4]
      have hne : V 10 (dl r) ≠ 0 := by
        intro h0
        rw [h0, itx_zero] at h1
        rw [← h1] at hlead
        exact absurd hlead (by decide)
      obtain ⟨e, hd', ht⟩ := dl_digs hall.1
      have hA : (- V 10 (dl r)).natAbs = (V 10 (dl r)).natAbs := by omega
      unfold itx at h1 ⊢
      rw [hA]
      have hD : D10 (V 10 (dl r)).natAbs ≠ [] := fun h => hne (by have := (D10_nil _).1 h; omega)
      unfold txs at h1 ⊢
      rw [if_neg hD, decide_eq_false (by omega), if_neg (by decide)] at h1
      rw [if_neg hD, decide_eq_true (by omega), if_pos rfl]
      rw [List.nil_append] at h1
      rw [h1]
      rfl
    · have e3 : plain (b :: r) = b :: r := by unfold plain; rw [if_neg (by simpa using c)]
      rw [e3] at hall hf
      have e4 : vI (b :: r) = V 10 (dl (b :: r)) := by unfold vI; rw [if_neg (by simpa using c)]
      rw [e4]
      refine (itx_digs hall.1 hall.2 (fun h => ?_)).1
      rw [h, Bool.true_and] at hf
      have := of_decide_eq_false hf
      simp at this ⊢
      omega
theorem vI_itx (z : Int) : vI (itx z) = z := by
  by_cases h : z = 0
  · subst h; rw [itx_zero]; rfl
  · obtain ⟨b, l, e, h1, h2, h3⟩ := itx_head z h
    have hV : V 10 (dl (itx z)) = (z.natAbs : Int) := by rw [← trD_V, dl_itx, D10_V]
    unfold vI
    rw [hV, e]
    by_cases c : z < 0
    · rw [h1 c, if_pos (show (45 :: l : List UInt8).head? = some 45 from rfl)]; omega
    · rw [if_neg (by simpa using h2 (by omega))]; omega
theorem txd_all {d : List Int} (h : Dg 10 d) : (txd d).all isDig = true := by
  rw [List.all_eq_true]
  intro b hb
  unfold txd at hb
  obtain ⟨x, hx, rfl⟩ := List.mem_map.1 hb
  have h1 := h x (List.mem_reverse.1 hx)
  have h2 := byte_digit h1
  rw [isDig_iff, h2]
  omega
/-- The text of a number is right. -/
theorem itx_right (z : Int) : digs (plain (itx z)) = true ∧ (lead (plain (itx z)) && decide (1 < (itx z).length)) = false ∧ (0 ≤ z → plain (itx z) = itx z) ∧ (∀ b ∈ itx z, b ≠ 47) := by
  by_cases h : z = 0
  · subst h; rw [itx_zero]; exact ⟨by decide, by decide, fun _ => rfl, by decide⟩
  · obtain ⟨b, l, e, h1, h2, h3⟩ := itx_head z h
    have hne : D10 z.natAbs ≠ [] := fun e => h (by have := (D10_nil _).1 e; omega)
    have hall := txd_all (D10_Dg z.natAbs)
    have hn0 : txd (D10 z.natAbs) ≠ [] := by simp [txd, hne]
    have hlead : lead (txd (D10 z.natAbs)) = false := by
      rcases snoc_cases (D10 z.natAbs) with e | ⟨m, x, e⟩
      · exact absurd e hne
      · have hd : Dg 10 (m ++ [x]) := e ▸ D10_Dg _
        have ht : Tr (m ++ [x]) := e ▸ D10_Tr _
        have hx : x ≠ 0 := by
          rcases ht with h | ⟨m', x', h, hx⟩
          · simp at h
          · have := List.append_inj_right' h rfl
            simp at this
            rwa [this]
        have h0 := (Dg_cons.1 (Dg_append.1 hd).2).1
        have hb := byte_digit h0
        rw [e]
        have et : txd (m ++ [x]) = UInt8.ofNat (48 + x.toNat) :: txd m := by simp [txd]
        rw [et]
        unfold lead
        simp only [List.head?_cons, beq_eq_false_iff_ne, ne_eq, Option.some.injEq]
        intro e2
        rw [e2] at hb
        have : (48 : UInt8).toNat = 48 := rfl
        omega
    have hno : ∀ b ∈ txd (D10 z.natAbs), b ≠ 47 := by
      rintro b hb rfl
      have := (isDig_iff 47).1 (List.all_eq_true.1 hall 47 hb)
      have h47 : (47 : UInt8).toNat = 47 := rfl
      omega
    have hit : itx z = (if decide (z < 0) = true then [45] else []) ++ txd (D10 z.natAbs) := by
      unfold itx txs
      rw [if_neg hne]
    have hpl : plain (itx z) = txd (D10 z.natAbs) := by
      rw [hit]
      by_cases c : z < 0
      · rw [decide_eq_true c]; rfl
      · rw [decide_eq_false c]
        have : itx z = txd (D10 z.natAbs) := by rw [hit, decide_eq_false c]; rfl
        rw [if_neg (by decide), List.nil_append, ← this, e]
        unfold plain
        rw [if_neg (by simpa using h2 (by omega))]
    rw [hpl]
    refine ⟨?_, by rw [hlead]; rfl, fun h0 => ?_, ?_⟩
    · unfold digs; rw [hall]; simp [hn0]
    · rw [hit, decide_eq_false (by omega)]; rfl
    · rw [hit]
      intro b hb
      rcases List.mem_append.1 hb with h | h
      · by_cases c : z < 0
        · rw [decide_eq_true c, if_pos rfl] at h
          rw [List.mem_singleton.1 h]; decide
        · rw [decide_eq_false c, if_neg (by decide)] at h
          cases h
      · exact hno b h
end Go.Proofs.YtapckjeedekphaaGreatDoor

namespace Go.Proofs.YtapckjeedekphaaGreatDoor
open Go.RowKit Go.Proofs.YtapckjeedekphaaGreatDoorW.PrintWords PR
/-- The text of a rational. -/
def qtx (q : Rat) : List UInt8 := if q.den = 1 then itx q.num else itx q.num ++ 47 :: itx q.den
/-- The second part of a text. -/
def dpart (l : List UInt8) : List UInt8 := if hasSl l = true then post l else [49]
theorem pre_no {l : List UInt8} (h : ∀ b ∈ l, b ≠ 47) : pre l = l := by
  unfold pre
  induction l with
  | nil => rfl
  | cons b r ih =>
    rw [List.takeWhile_cons, if_pos (by simpa using h b (by simp)), ih (fun c hc => h c (by simp [hc]))]
theorem pre_slash {l m : List UInt8} (h : ∀ b ∈ l, b ≠ 47) : pre (l ++ 47 :: m) = l := by
  unfold pre
  induction l with
  | nil => rfl
  | cons b r ih =>
    rw [List.cons_append, List.takeWhile_cons, if_pos (by simpa using h b (by simp)), ih (fun c hc => h c (by simp [hc]))]
theorem qtx_parts (q : Rat) : pre (qtx q) = itx q.num ∧ hasSl (qtx q) = decide (q.den ≠ 1) ∧ dpart (qtx q) = itx q.den ∧ (q.den ≠ 1 → post (qtx q) = itx q.den) := by
  have hn := (itx_right q.num).2.2.2
  by_cases c : q.den = 1
  · have e : qtx q = itx q.num := by unfold qtx; rw [if_pos c]
    have h1 := pre_no hn
    have h2 : hasSl (itx q.num) = false := by unfold hasSl; rw [h1]; simp
    rw [e]
    refine ⟨h1, by rw [h2, c]; rfl, ?_, fun h => absurd c h⟩
    unfold dpart
    rw [h2, if_neg (by decide), c]
    exact itx_one.symm
  · have e : qtx q = itx q.num ++ 47 :: itx q.den := by unfold qtx; rw [if_neg c]
    have h1 := pre_slash (m := itx (q.den : Int)) hn
    have h2 : hasSl (itx q.num ++ 47 :: itx q.den) = true := by unfold hasSl; rw [h1]; simp
    have h3 : post (itx q.num ++ 47 :: itx q.den) = itx q.den := by
      unfold post
      rw [h1]
      simp [List.drop_append]
    rw [e]
    refine ⟨h1, by rw [h2]; simp [c], ?_, fun _ => h3⟩
    unfold dpart
    rw [h2, if_pos rfl, h3]
theorem pre_take (l : List UInt8) : pre l = l.take (pre l).length ∧ (∀ h : (pre l).length < l.length, l[(pre l).length] = 47) := by
  induction l with
  | nil => exact ⟨rfl, fun h => by simp [pre] at h⟩
  | cons b r ih =>
    by_cases c : b = 47
    · subst c
      have e : pre (47 :: r) = [] := by unfold pre; simp
      rw [e]
      exact ⟨rfl, fun _ => rfl⟩
    · have e : pre (b :: r) = b :: pre r := by unfold pre; rw [List.takeWhile_cons, if_pos (by simpa using c)]
      rw [e]
      refine ⟨by rw [List.length_cons, List.take_succ_cons, ← ih.1], fun h => ?_⟩
      exact ih.2 (by simpa using h)
theorem Td_itx (z : Int) : Td (itx z).length z := by
  have h1 := D10_len_itx z
  have h2 := V_lt (B := 10) (by omega) (D10_Dg z.natAbs)
  have h3 := pow_le' (B := 10) (by omega) h1
  rw [D10_V] at h2
  unfold Td
  omega
/-- The bound of a rational's parts. -/
def TQ (n : Nat) (q : Rat) : Prop := Td n q.num ∧ Td n (q.den : Int)
end Go.Proofs.YtapckjeedekphaaGreatDoor

namespace Go.Proofs.YtapckjeedekphaaGreatDoor
open Go.RowKit Go.Proofs.YtapckjeedekphaaGreatDoorW.PrintWords PR
theorem Td_mul {m n : Nat} {x y : Int} (hx : Td m x) (hy : Td n y) : Td (m + n) (x * y) := by
  have h1 : (x.natAbs : Int) ≤ 10 ^ m - 1 := by unfold Td at hx; omega
  have h2 : (y.natAbs : Int) ≤ 10 ^ n - 1 := by unfold Td at hy; omega
  have p2 := pow_pos' (B := 10) (by omega) n
  have h3 : (x.natAbs : Int) * y.natAbs ≤ (10 ^ m - 1) * (10 ^ n - 1) := Int.mul_le_mul h1 h2 (by omega) (by have := pow_pos' (B := 10) (by omega) m; omega)
  have h4 : ((x * y).natAbs : Int) = (x.natAbs : Int) * y.natAbs := by rw [Int.natAbs_mul]; simp
  have h5 : ((10 : Int) ^ m - 1) * (10 ^ n - 1) = 10 ^ (m + n) - 10 ^ m - 10 ^ n + 1 := by rw [Int.pow_add]; grind
  have p1 := pow_pos' (B := 10) (by omega) m
  unfold Td
  omega
theorem Td_add {n : Nat} {x y : Int} (hx : Td n x) (hy : Td n y) : Td (n + 1) (x + y) := by
  have p1 := pow_pos' (B := 10) (by omega) n
  unfold Td at *
  rw [Int.pow_succ]
  omega
theorem Td_of_le {n : Nat} {x y : Int} (hx : Td n x) (h : y.natAbs ≤ x.natAbs) : Td n y := by unfold Td at *; omega
end Go.Proofs.YtapckjeedekphaaGreatDoor

namespace Go.Proofs.YtapckjeedekphaaGreatDoor
open Go.RowKit Go.Proofs.YtapckjeedekphaaGreatDoorW.PrintWords PR
theorem RI.shape {w : World} {v : Value} {z : Int} (h : RI w v z) : ∃ neg A n c, v = .agg #[.bool neg, .slice A n c] := by
  obtain ⟨neg, m, l, rfl, ⟨A, c, rfl, _⟩, _⟩ := h
  exact ⟨neg, A, _, c, rfl⟩
theorem RI.parts {w : World} {v : Value} {z : Int} (h : RI w v z) : ∃ neg A c l, v = .agg #[.bool neg, .slice A l.length c] ∧ Mg w (.slice A l.length c) l ∧ Dg B32 l ∧ Tr l ∧ (neg = true → l ≠ []) ∧ z = sgn neg (V B32 l) := by
  obtain ⟨neg, m, l, rfl, hm, h2⟩ := h
  have hm' := hm
  obtain ⟨A, c, rfl, _⟩ := hm'
  exact ⟨neg, A, c, l, rfl, hm, h2⟩
theorem Td_len32 {l : List Int} {n : Nat} {neg : Bool} (hd : Dg B32 l) (ht : Tr l) (h : Td n (sgn neg (V B32 l))) : l.length ≤ n := by
  have h0 := V_nonneg (B := B32) (by decide) hd
  have hv : V B32 l < 10 ^ n := by
    obtain ⟨h1, h2⟩ := h
    cases neg
    · simpa [sgn] using h2
    · simp [sgn] at h1; omega
  rcases Nat.lt_or_ge n l.length with hlt | hge
  · exfalso
    have hne : l ≠ [] := by intro e; rw [e] at hlt; simp at hlt
    have h1 := V_ge (B := B32) (by decide) hd ht hne
    have h2 : (B32 : Int) ^ n ≤ B32 ^ (l.length - 1) := pow_le' (by decide) (by omega)
    have h3 : (10 : Int) ^ n ≤ B32 ^ n := by
      have h4 : (10 ^ n : Nat) ≤ 4294967296 ^ n := Nat.pow_le_pow_left (by decide) n
      have h5 : ((10 ^ n : Nat) : Int) ≤ ((4294967296 ^ n : Nat) : Int) := by exact_mod_cast h4
      simpa using h5
    omega
  · exact hge
theorem sgn_add_same {na nb : Bool} (h : (na == nb) = true) (x y : Int) : sgn na x + sgn nb y = sgn na (x + y) := by
  have h := eq_of_beq h
  subst h
  unfold sgn
  split <;> omega
theorem sgn_add_ge {na nb : Bool} (h : (na == nb) = false) (x y : Int) : sgn na x + sgn nb y = sgn na (x - y) := by
  cases na <;> cases nb <;> first | exact absurd h (by decide) | (unfold sgn; simp; omega)
theorem sgn_add_lt {na nb : Bool} (h : (na == nb) = false) (x y : Int) : sgn na x + sgn nb y = sgn nb (y - x) := by
  cases na <;> cases nb <;> first | exact absurd h (by decide) | (unfold sgn; simp; omega)
def AddI (w : World) (na : Bool) (nb : Bool) (Aa : Option Addr) (Ab : Option Addr) (a : List Int) (b : List Int) (ca : Nat) (cb : Nat) (g2 g3 : Nat) (w' : World) : Prop := Bx w' g2 27 #[.bool na, .slice Aa a.length ca] ∧ Bx w' g3 27 #[.bool nb, .slice Ab b.length cb] ∧ Below w.heap.size w w' ∧ Mg w' (.slice Aa a.length ca) a ∧ Mg w' (.slice Ab b.length cb) b
theorem AddI.cells {w : World} {na : Bool} {nb : Bool} {Aa : Option Addr} {Ab : Option Addr} {a : List Int} {b : List Int} {ca : Nat} {cb : Nat} {g2 g3 : Nat} {W : World} (h : AddI w na nb Aa Ab a b ca cb g2 g3 W) : W.cell? ⟨g2, 0, none⟩ = some (.bool na) ∧ W.cell? ⟨g2, 1, none⟩ = some (.slice Aa a.length ca) ∧ W.cell? ⟨g3, 0, none⟩ = some (.bool nb) ∧ W.cell? ⟨g3, 1, none⟩ = some (.slice Ab b.length cb) ∧ Hid (AddI w na nb Aa Ab a b ca cb g2 g3 W) := by
  have h' := h
  obtain ⟨h2, h3, _⟩ := h
  exact ⟨h2.cell 0, h2.cell 1, h3.cell 0, h3.cell 1, h'⟩
theorem AddI.below {w : World} {na : Bool} {nb : Bool} {Aa : Option Addr} {Ab : Option Addr} {a : List Int} {b : List Int} {ca : Nat} {cb : Nat} {g2 g3 : Nat} {W W1 : World} (h : AddI w na nb Aa Ab a b ca cb g2 g3 W) (hb : Below W.heap.size W W1) : AddI w na nb Aa Ab a b ca cb g2 g3 W1 := by
  obtain ⟨h2, h3, hB, k0, k1⟩ := h
  exact ⟨h2.below hb, h3.below hb, bth hB hb, k0.below hb, k1.below hb⟩
theorem AddI.store {w : World} {na : Bool} {nb : Bool} {Aa : Option Addr} {Ab : Option Addr} {a : List Int} {b : List Int} {ca : Nat} {cb : Nat} {g2 g3 : Nat} {W : World} {gr : Nat} {cs : Array Value} (h : AddI w na nb Aa Ab a b ca cb g2 g3 W) (hx : Bx W gr 27 cs) (hg : w.heap.size ≤ gr) (n2 : g2 ≠ gr) (n3 : g3 ≠ gr) (i : Nat) (u : Value) : AddI w na nb Aa Ab a b ca cb g2 g3 (W.setCell ⟨gr, i, none⟩ u) := by
  obtain ⟨h2, h3, hB, k0, k1⟩ := h
  exact ⟨h2.far (p := ⟨gr, i, none⟩) n2 u, h3.far (p := ⟨gr, i, none⟩) n3 u, hB.setCell hg u, k0.kp ((Kp.refl _).box hx (by decide) i u), k1.kp ((Kp.refl _).box hx (by decide) i u)⟩
set_option maxHeartbeats 800000 in
theorem p_add (va vb : Value) (x y : Int) (w : World) (ha : RI w va x) (hb : RI w vb y) {n : Nat} (hx : Td n x) (hy : Td n y) (hn : n ≤ 1000000) : Calls Tryz.prog 141 #[va, vb] w (RetI w (x + y)) := by
  obtain ⟨na, Aa, ca, a, rfl, ma, da, ta, ea, za⟩ := ha.parts
  obtain ⟨nb, Ab, cb, b, rfl, mb, db, tb, eb, zb⟩ := hb.parts
  have hla : a.length ≤ n := Td_len32 da ta (by rw [← za]; exact hx)
  have hlb : b.length ≤ n := Td_len32 db tb (by rw [← zb]; exact hy)
  have HA := Lib.hid ma
  have HC := Lib.hid mb
  have FA := Lib.hid (And.intro da (And.intro ta ea))
  have FC := Lib.hid (And.intro db (And.intro tb eb))
  have HZ := Lib.hid (And.intro za zb)
  clear ha hb hx hy da ta ea za db tb eb zb
  clear ma mb
  by_cases hT : (na == nb) = true
  · have HT := Lib.hid hT
    have HB := Lib.hid (Below.refl w.heap.size w)
    go_enter Tryz.func141, Tryz.ntmps141
    go_wp2_with (first | ((with_reducible refine gate_dst (N := 2) rfl ?_); refine bx_event rfl (cs := #[.bool na, .slice Aa a.length ca]) (t := 27) ?hr ?_; (case hr => first | (go_simp; done) | (go_simp; rfl)); intro g2 w2 hg bk hb; have HG2 := Lib.hid (Nat.le_trans HB.out.size hg); replace HB := Lib.hid (bth HB.out hb); replace HA := Lib.hid (HA.out.below hb); replace HC := Lib.hid (HC.out.below hb); have BK2 := Lib.hid bk; obtain ⟨c2_0, c2_1, f2_0, f2_1⟩ := BK2.out.all2; clear hb hg bk) | ((with_reducible refine gate_dst (N := 3) rfl ?_); refine bx_event rfl (cs := #[.bool nb, .slice Ab b.length cb]) (t := 27) ?hr ?_; (case hr => first | (go_simp; done) | (go_simp; rfl)); intro g3 w3 hg bk hb; have HG3 := Lib.hid (Nat.le_trans HB.out.size hg); replace HB := Lib.hid (bth HB.out hb); have HN2_3 := Lib.hid (Nat.ne_of_lt (Nat.lt_of_lt_of_le BK2.out.lt hg)); clear c2_0 c2_1 f2_0 f2_1; replace BK2 := Lib.hid (BK2.out.below hb); obtain ⟨c2_0, c2_1, f2_0, f2_1⟩ := BK2.out.all2; replace HA := Lib.hid (HA.out.below hb); replace HC := Lib.hid (HC.out.below hb); have BK3 := Lib.hid bk; obtain ⟨c3_0, c3_1, f3_0, f3_1⟩ := BK3.out.all2; clear hb hg bk) | ((with_reducible refine gate_dst (N := 4) rfl ?_); refine bx_event rfl (cs := #[.bool false, .slice none 0 0]) (t := 27) ?hr ?_; (case hr => first | (go_simp; done) | (go_simp; rfl)); intro g4 w4 hg bk hb; have HG4 := Lib.hid (Nat.le_trans HB.out.size hg); replace HB := Lib.hid (bth HB.out hb); have HN2_4 := Lib.hid (Nat.ne_of_lt (Nat.lt_of_lt_of_le BK2.out.lt hg)); have HN3_4 := Lib.hid (Nat.ne_of_lt (Nat.lt_of_lt_of_le BK3.out.lt hg)); clear c2_0 c2_1 f2_0 f2_1; replace BK2 := Lib.hid (BK2.out.below hb); obtain ⟨c2_0, c2_1, f2_0, f2_1⟩ := BK2.out.all2; clear c3_0 c3_1 f3_0 f3_1; replace BK3 := Lib.hid (BK3.out.below hb); obtain ⟨c3_0, c3_1, f3_0, f3_1⟩ := BK3.out.all2; replace HA := Lib.hid (HA.out.below hb); replace HC := Lib.hid (HC.out.below hb); have BK4 := Lib.hid bk; obtain ⟨c4_0, c4_1, f4_0, f4_1⟩ := BK4.out.all2; clear hb hg bk))
    have HI : Hid (AddI w na nb Aa Ab a b ca cb g2 g3 w4) := ⟨BK2.out, BK3.out, HB.out, HA.out, HC.out⟩
    clear c2_0 c2_1 f2_0 f2_1 BK2
    clear c3_0 c3_1 f3_0 f3_1 BK3
    clear c4_0 c4_1 f4_0 f4_1
    clear HB HA HC
    have BKr := BK4
    clear BK4
    go_region_held3 (fun w' => w'.cell? ⟨g2, 0, none⟩ = some (.bool na) ∧ w'.cell? ⟨g2, 1, none⟩ = some (.slice Aa a.length ca) ∧ w'.cell? ⟨g3, 0, none⟩ = some (.bool nb) ∧ w'.cell? ⟨g3, 1, none⟩ = some (.slice Ab b.length cb) ∧ Hid (AddI w na nb Aa Ab a b ca cb g2 g3 w')) (first | exact (HI.out.below (below_drew (Below.refl _ _))).cells | exact (HQ.out.below hb).cells | exact (((HQ.out.below hb).store BKr.out HG4.out HN2_4.out HN3_4.out 0 _).store (BKr.out.set_ 0 _) HG4.out HN2_4.out HN3_4.out 1 _).cells)
      (first | (go_at_call 180; have HQ0 := ‹_ ∧ _ ∧ _ ∧ _ ∧ Hid (AddI w na nb Aa Ab a b ca cb g2 g3 _)›; have HQ := HQ0.2.2.2.2; clear HQ0; refine (p_plus _ _ a b _ HQ.out.2.2.2.1 HQ.out.2.2.2.2 FA.out.1 FC.out.1 (by omega) (by omega)).mono ?_; rintro e u ⟨v1, r1, rfl, hv1, hd1, hV1, hl1, hb⟩; have BKr' : Hid (Bx u g4 27 #[.bool false, .slice none 0 0]) := (by first | exact BKr.out.below hb | exact BKr.out.drew.below hb); clear BKr; have BKr := BKr'; clear BKr'; have cr0 := BKr.out.cell 0; have fr0 := BKr.out.frozen 0; have cr1 := BKr.out.cell 1; have fr1 := BKr.out.frozen 1; obtain ⟨q1, A1, c1, rfl, hv1⟩ : ∃ q A c, v1 = .slice A q c ∧ Mg u (.slice A q c) r1 := (by obtain ⟨A1, c1, rfl, hh⟩ := hv1; exact ⟨_, A1, c1, rfl, A1, c1, rfl, hh⟩); have HV1 := Lib.hid (And.intro hv1 (And.intro hd1 hV1)); clear hv1 hd1 hV1 hl1) | (go_at_call 123; have HQ0 := ‹_ ∧ _ ∧ _ ∧ _ ∧ Hid (AddI w na nb Aa Ab a b ca cb g2 g3 _)›; have HQ := HQ0.2.2.2.2; clear HQ0; refine (p_signed na _ r1 _ HV1.out.1 HV1.out.2.1 (x + y) (by rw [HZ.out.1, HZ.out.2, HV1.out.2.2]; exact sgn_add_same HT.out _ _)).mono ?_; rintro e u ⟨v2, rfl, hv2, hb⟩; have BKr' : Hid (Bx u g4 27 #[.bool false, .slice none 0 0]) := (by first | exact BKr.out.below hb | exact BKr.out.drew.below hb); clear BKr; have BKr := BKr'; clear BKr'; have cr0 := BKr.out.cell 0; have fr0 := BKr.out.frozen 0; have cr1 := BKr.out.cell 1; have fr1 := BKr.out.frozen 1; have HV2 := Lib.hid hv2; obtain ⟨nr, Ar, kr, cr, rfl⟩ := hv2.shape; clear hv2))
    go_wp2_with fail
    refine bodyPost_ret (results_cell_row rfl _ _ g4 27 #[.bool _, .slice Ar kr cr] (0, 0) _ rfl ((BKr.out.set_ 0 _).set_ 1 _) Tryz.underlying27 rfl (by kernel_rfl)) rfl ?_
    refine ⟨_, rfl, (HV2.out.kp (((Kp.refl _).box BKr.out (by decide) 0 _).box (BKr.out.set_ 0 _) (by decide) 1 _)), ((HQ.out.below hb).2.2.1.setCell HG4.out _).setCell HG4.out _⟩
  · have hT : (na == nb) = false := by simpa using hT
    have HT := Lib.hid hT
    by_cases hge : V B32 b ≤ V B32 a
    · have HGE := Lib.hid hge
      clear hge
      have HB := Lib.hid (Below.refl w.heap.size w)
      go_enter Tryz.func141, Tryz.ntmps141
      go_wp2_with (first | ((with_reducible refine gate_dst (N := 2) rfl ?_); refine bx_event rfl (cs := #[.bool na, .slice Aa a.length ca]) (t := 27) ?hr ?_; (case hr => first | (go_simp; done) | (go_simp; rfl)); intro g2 w2 hg bk hb; have HG2 := Lib.hid (Nat.le_trans HB.out.size hg); replace HB := Lib.hid (bth HB.out hb); replace HA := Lib.hid (HA.out.below hb); replace HC := Lib.hid (HC.out.below hb); have BK2 := Lib.hid bk; obtain ⟨c2_0, c2_1, f2_0, f2_1⟩ := BK2.out.all2; clear hb hg bk) | ((with_reducible refine gate_dst (N := 3) rfl ?_); refine bx_event rfl (cs := #[.bool nb, .slice Ab b.length cb]) (t := 27) ?hr ?_; (case hr => first | (go_simp; done) | (go_simp; rfl)); intro g3 w3 hg bk hb; have HG3 := Lib.hid (Nat.le_trans HB.out.size hg); replace HB := Lib.hid (bth HB.out hb); have HN2_3 := Lib.hid (Nat.ne_of_lt (Nat.lt_of_lt_of_le BK2.out.lt hg)); clear c2_0 c2_1 f2_0 f2_1; replace BK2 := Lib.hid (BK2.out.below hb); obtain ⟨c2_0, c2_1, f2_0, f2_1⟩ := BK2.out.all2; replace HA := Lib.hid (HA.out.below hb); replace HC := Lib.hid (HC.out.below hb); have BK3 := Lib.hid bk; obtain ⟨c3_0, c3_1, f3_0, f3_1⟩ := BK3.out.all2; clear hb hg bk) | ((with_reducible refine gate_dst (N := 4) rfl ?_); refine bx_event rfl (cs := #[.bool false, .slice none 0 0]) (t := 27) ?hr ?_; (case hr => first | (go_simp; done) | (go_simp; rfl)); intro g4 w4 hg bk hb; have HG4 := Lib.hid (Nat.le_trans HB.out.size hg); replace HB := Lib.hid (bth HB.out hb); have HN2_4 := Lib.hid (Nat.ne_of_lt (Nat.lt_of_lt_of_le BK2.out.lt hg)); have HN3_4 := Lib.hid (Nat.ne_of_lt (Nat.lt_of_lt_of_le BK3.out.lt hg)); clear c2_0 c2_1 f2_0 f2_1; replace BK2 := Lib.hid (BK2.out.below hb); obtain ⟨c2_0, c2_1, f2_0, f2_1⟩ := BK2.out.all2; clear c3_0 c3_1 f3_0 f3_1; replace BK3 := Lib.hid (BK3.out.below hb); obtain ⟨c3_0, c3_1, f3_0, f3_1⟩ := BK3.out.all2; replace HA := Lib.hid (HA.out.below hb); replace HC := Lib.hid (HC.out.below hb); have BK4 := Lib.hid bk; obtain ⟨c4_0, c4_1, f4_0, f4_1⟩ := BK4.out.all2; clear hb hg bk))
      refine (p_order _ _ a b _ HA.out HC.out FA.out.1 FC.out.1 FA.out.2.1 FC.out.2.1 (by omega)).mono ?_
      rintro e u1 ⟨rfl, hb⟩
      replace HB := Lib.hid (bth HB.out hb)
      clear c2_0 c2_1 f2_0 f2_1
      replace BK2 := Lib.hid (BK2.out.below hb)
      obtain ⟨c2_0, c2_1, f2_0, f2_1⟩ := BK2.out.all2
      clear c3_0 c3_1 f3_0 f3_1
      replace BK3 := Lib.hid (BK3.out.below hb)
      obtain ⟨c3_0, c3_1, f3_0, f3_1⟩ := BK3.out.all2
      clear c4_0 c4_1 f4_0 f4_1
      replace BK4 := Lib.hid (BK4.out.below hb)
      obtain ⟨c4_0, c4_1, f4_0, f4_1⟩ := BK4.out.all2
      replace HA := Lib.hid (HA.out.below hb)
      replace HC := Lib.hid (HC.out.below hb)
      clear hb
      have ho := (cmp_ge (V B32 a) (V B32 b)).2 HGE.out
      generalize cmp (V B32 a) (V B32 b) = ov at *
      go_wp2_with fail
      have HI : Hid (AddI w na nb Aa Ab a b ca cb g2 g3 u1) := ⟨BK2.out, BK3.out, HB.out, HA.out, HC.out⟩
      clear c2_0 c2_1 f2_0 f2_1 BK2
      clear c3_0 c3_1 f3_0 f3_1 BK3
      clear c4_0 c4_1 f4_0 f4_1
      clear HB HA HC
      have BKr := BK4
      clear BK4
      go_region_held3 (fun w' => w'.cell? ⟨g2, 0, none⟩ = some (.bool na) ∧ w'.cell? ⟨g2, 1, none⟩ = some (.slice Aa a.length ca) ∧ w'.cell? ⟨g3, 0, none⟩ = some (.bool nb) ∧ w'.cell? ⟨g3, 1, none⟩ = some (.slice Ab b.length cb) ∧ Hid (AddI w na nb Aa Ab a b ca cb g2 g3 w')) (first | exact (HI.out.below (below_drew (Below.refl _ _))).cells | exact (HQ.out.below hb).cells | exact (((HQ.out.below hb).store BKr.out HG4.out HN2_4.out HN3_4.out 0 _).store (BKr.out.set_ 0 _) HG4.out HN2_4.out HN3_4.out 1 _).cells)
        (first | (go_at_call 181; have HQ0 := ‹_ ∧ _ ∧ _ ∧ _ ∧ Hid (AddI w na nb Aa Ab a b ca cb g2 g3 _)›; have HQ := HQ0.2.2.2.2; clear HQ0; refine (p_minus _ _ a b _ HQ.out.2.2.2.1 HQ.out.2.2.2.2 FA.out.1 FC.out.1 FC.out.2.1 (by omega) HGE.out).mono ?_; rintro e u ⟨v1, r1, rfl, hv1, hd1, hV1, hl1, hb⟩; have BKr' : Hid (Bx u g4 27 #[.bool false, .slice none 0 0]) := (by first | exact BKr.out.below hb | exact BKr.out.drew.below hb); clear BKr; have BKr := BKr'; clear BKr'; have cr0 := BKr.out.cell 0; have fr0 := BKr.out.frozen 0; have cr1 := BKr.out.cell 1; have fr1 := BKr.out.frozen 1; obtain ⟨q1, A1, c1, rfl, hv1⟩ : ∃ q A c, v1 = .slice A q c ∧ Mg u (.slice A q c) r1 := (by obtain ⟨A1, c1, rfl, hh⟩ := hv1; exact ⟨_, A1, c1, rfl, A1, c1, rfl, hh⟩); have HV1 := Lib.hid (And.intro hv1 (And.intro hd1 hV1)); clear hv1 hd1 hV1 hl1) | (go_at_call 123; have HQ0 := ‹_ ∧ _ ∧ _ ∧ _ ∧ Hid (AddI w na nb Aa Ab a b ca cb g2 g3 _)›; have HQ := HQ0.2.2.2.2; clear HQ0; refine (p_signed na _ r1 _ HV1.out.1 HV1.out.2.1 (x + y) (by rw [HZ.out.1, HZ.out.2, HV1.out.2.2]; exact sgn_add_ge HT.out _ _)).mono ?_; rintro e u ⟨v2, rfl, hv2, hb⟩; have BKr' : Hid (Bx u g4 27 #[.bool false, .slice none 0 0]) := (by first | exact BKr.out.below hb | exact BKr.out.drew.below hb); clear BKr; have BKr := BKr'; clear BKr'; have cr0 := BKr.out.cell 0; have fr0 := BKr.out.frozen 0; have cr1 := BKr.out.cell 1; have fr1 := BKr.out.frozen 1; have HV2 := Lib.hid hv2; obtain ⟨nr, Ar, kr, cr, rfl⟩ := hv2.shape; clear hv2))
      go_wp2_with fail
      refine bodyPost_ret (results_cell_row rfl _ _ g4 27 #[.bool _, .slice Ar kr cr] (0, 0) _ rfl ((BKr.out.set_ 0 _).set_ 1 _) Tryz.underlying27 rfl (by kernel_rfl)) rfl ?_
      refine ⟨_, rfl, (HV2.out.kp (((Kp.refl _).box BKr.out (by decide) 0 _).box (BKr.out.set_ 0 _) (by decide) 1 _)), ((HQ.out.below hb).2.2.1.setCell HG4.out _).setCell HG4.out _⟩
    · have HGE := Lib.hid hge
      clear hge
      have HB := Lib.hid (Below.refl w.heap.size w)
      go_enter Tryz.func141, Tryz.ntmps141
      go_wp2_with (first | ((with_reducible refine gate_dst (N := 2) rfl ?_); refine bx_event rfl (cs := #[.bool na, .slice Aa a.length ca]) (t := 27) ?hr ?_; (case hr => first | (go_simp; done) | (go_simp; rfl)); intro g2 w2 hg bk hb; have HG2 := Lib.hid (Nat.le_trans HB.out.size hg); replace HB := Lib.hid (bth HB.out hb); replace HA := Lib.hid (HA.out.below hb); replace HC := Lib.hid (HC.out.below hb); have BK2 := Lib.hid bk; obtain ⟨c2_0, c2_1, f2_0, f2_1⟩ := BK2.out.all2; clear hb hg bk) | ((with_reducible refine gate_dst (N := 3) rfl ?_); refine bx_event rfl (cs := #[.bool nb, .slice Ab b.length cb]) (t := 27) ?hr ?_; (case hr => first | (go_simp; done) | (go_simp; rfl)); intro g3 w3 hg bk hb; have HG3 := Lib.hid (Nat.le_trans HB.out.size hg); replace HB := Lib.hid (bth HB.out hb); have HN2_3 := Lib.hid (Nat.ne_of_lt (Nat.lt_of_lt_of_le BK2.out.lt hg)); clear c2_0 c2_1 f2_0 f2_1; replace BK2 := Lib.hid (BK2.out.below hb); obtain ⟨c2_0, c2_1, f2_0, f2_1⟩ := BK2.out.all2; replace HA := Lib.hid (HA.out.below hb); replace HC := Lib.hid (HC.out.below hb); have BK3 := Lib.hid bk; obtain ⟨c3_0, c3_1, f3_0, f3_1⟩ := BK3.out.all2; clear hb hg bk) | ((with_reducible refine gate_dst (N := 4) rfl ?_); refine bx_event rfl (cs := #[.bool false, .slice none 0 0]) (t := 27) ?hr ?_; (case hr => first | (go_simp; done) | (go_simp; rfl)); intro g4 w4 hg bk hb; have HG4 := Lib.hid (Nat.le_trans HB.out.size hg); replace HB := Lib.hid (bth HB.out hb); have HN2_4 := Lib.hid (Nat.ne_of_lt (Nat.lt_of_lt_of_le BK2.out.lt hg)); have HN3_4 := Lib.hid (Nat.ne_of_lt (Nat.lt_of_lt_of_le BK3.out.lt hg)); clear c2_0 c2_1 f2_0 f2_1; replace BK2 := Lib.hid (BK2.out.below hb); obtain ⟨c2_0, c2_1, f2_0, f2_1⟩ := BK2.out.all2; clear c3_0 c3_1 f3_0 f3_1; replace BK3 := Lib.hid (BK3.out.below hb); obtain ⟨c3_0, c3_1, f3_0, f3_1⟩ := BK3.out.all2; replace HA := Lib.hid (HA.out.below hb); replace HC := Lib.hid (HC.out.below hb); have BK4 := Lib.hid bk; obtain ⟨c4_0, c4_1, f4_0, f4_1⟩ := BK4.out.all2; clear hb hg bk))
      refine (p_order _ _ a b _ HA.out HC.out FA.out.1 FC.out.1 FA.out.2.1 FC.out.2.1 (by omega)).mono ?_
      rintro e u1 ⟨rfl, hb⟩
      replace HB := Lib.hid (bth HB.out hb)
      clear c2_0 c2_1 f2_0 f2_1
      replace BK2 := Lib.hid (BK2.out.below hb)
      obtain ⟨c2_0, c2_1, f2_0, f2_1⟩ := BK2.out.all2
      clear c3_0 c3_1 f3_0 f3_1
      replace BK3 := Lib.hid (BK3.out.below hb)
      obtain ⟨c3_0, c3_1, f3_0, f3_1⟩ := BK3.out.all2
      clear c4_0 c4_1 f4_0 f4_1
      replace BK4 := Lib.hid (BK4.out.below hb)
      obtain ⟨c4_0, c4_1, f4_0, f4_1⟩ := BK4.out.all2
      replace HA := Lib.hid (HA.out.below hb)
      replace HC := Lib.hid (HC.out.below hb)
      clear hb
      have ho := mt (cmp_ge (V B32 a) (V B32 b)).1 (by have := HGE.out; omega)
      generalize cmp (V B32 a) (V B32 b) = ov at *
      go_wp2_with fail
      have HI : Hid (AddI w na nb Aa Ab a b ca cb g2 g3 u1) := ⟨BK2.out, BK3.out, HB.out, HA.out, HC.out⟩
      clear c2_0 c2_1 f2_0 f2_1 BK2
      clear c3_0 c3_1 f3_0 f3_1 BK3
      clear c4_0 c4_1 f4_0 f4_1
      clear HB HA HC
      have BKr := BK4
      clear BK4
      go_region_held3 (fun w' => w'.cell? ⟨g2, 0, none⟩ = some (.bool na) ∧ w'.cell? ⟨g2, 1, none⟩ = some (.slice Aa a.length ca) ∧ w'.cell? ⟨g3, 0, none⟩ = some (.bool nb) ∧ w'.cell? ⟨g3, 1, none⟩ = some (.slice Ab b.length cb) ∧ Hid (AddI w na nb Aa Ab a b ca cb g2 g3 w')) (first | exact (HI.out.below (below_drew (Below.refl _ _))).cells | exact (HQ.out.below hb).cells | exact (((HQ.out.below hb).store BKr.out HG4.out HN2_4.out HN3_4.out 0 _).store (BKr.out.set_ 0 _) HG4.out HN2_4.out HN3_4.out 1 _).cells)
        (first | (go_at_call 181; have HQ0 := ‹_ ∧ _ ∧ _ ∧ _ ∧ Hid (AddI w na nb Aa Ab a b ca cb g2 g3 _)›; have HQ := HQ0.2.2.2.2; clear HQ0; refine (p_minus _ _ b a _ HQ.out.2.2.2.2 HQ.out.2.2.2.1 FC.out.1 FA.out.1 FA.out.2.1 (by omega) (by have := HGE.out; omega)).mono ?_; rintro e u ⟨v1, r1, rfl, hv1, hd1, hV1, hl1, hb⟩; have BKr' : Hid (Bx u g4 27 #[.bool false, .slice none 0 0]) := (by first | exact BKr.out.below hb | exact BKr.out.drew.below hb); clear BKr; have BKr := BKr'; clear BKr'; have cr0 := BKr.out.cell 0; have fr0 := BKr.out.frozen 0; have cr1 := BKr.out.cell 1; have fr1 := BKr.out.frozen 1; obtain ⟨q1, A1, c1, rfl, hv1⟩ : ∃ q A c, v1 = .slice A q c ∧ Mg u (.slice A q c) r1 := (by obtain ⟨A1, c1, rfl, hh⟩ := hv1; exact ⟨_, A1, c1, rfl, A1, c1, rfl, hh⟩); have HV1 := Lib.hid (And.intro hv1 (And.intro hd1 hV1)); clear hv1 hd1 hV1 hl1) | (go_at_call 123; have HQ0 := ‹_ ∧ _ ∧ _ ∧ _ ∧ Hid (AddI w na nb Aa Ab a b ca cb g2 g3 _)›; have HQ := HQ0.2.2.2.2; clear HQ0; refine (p_signed nb _ r1 _ HV1.out.1 HV1.out.2.1 (x + y) (by rw [HZ.out.1, HZ.out.2, HV1.out.2.2]; exact sgn_add_lt HT.out _ _)).mono ?_; rintro e u ⟨v2, rfl, hv2, hb⟩; have BKr' : Hid (Bx u g4 27 #[.bool false, .slice none 0 0]) := (by first | exact BKr.out.below hb | exact BKr.out.drew.below hb); clear BKr; have BKr := BKr'; clear BKr'; have cr0 := BKr.out.cell 0; have fr0 := BKr.out.frozen 0; have cr1 := BKr.out.cell 1; have fr1 := BKr.out.frozen 1; have HV2 := Lib.hid hv2; obtain ⟨nr, Ar, kr, cr, rfl⟩ := hv2.shape; clear hv2))
      go_wp2_with fail
      refine bodyPost_ret (results_cell_row rfl _ _ g4 27 #[.bool _, .slice Ar kr cr] (0, 0) _ rfl ((BKr.out.set_ 0 _).set_ 1 _) Tryz.underlying27 rfl (by kernel_rfl)) rfl ?_
      refine ⟨_, rfl, (HV2.out.kp (((Kp.refl _).box BKr.out (by decide) 0 _).box (BKr.out.set_ 0 _) (by decide) 1 _)), ((HQ.out.below hb).2.2.1.setCell HG4.out _).setCell HG4.out _⟩
def SubI (w : World) (na : Bool) (nb : Bool) (Aa : Option Addr) (Ab : Option Addr) (ka : Nat) (kb : Nat) (ca : Nat) (cb : Nat) (x : Int) (y : Int) (g2 g3 : Nat) (w' : World) : Prop := Bx w' g2 27 #[.bool na, .slice Aa ka ca] ∧ Bx w' g3 27 #[.bool nb, .slice Ab kb cb] ∧ Below w.heap.size w w' ∧ RI w' (.agg #[.bool na, .slice Aa ka ca]) x ∧ RI w' (.agg #[.bool nb, .slice Ab kb cb]) y
theorem SubI.cells {w : World} {na : Bool} {nb : Bool} {Aa : Option Addr} {Ab : Option Addr} {ka : Nat} {kb : Nat} {ca : Nat} {cb : Nat} {x : Int} {y : Int} {g2 g3 : Nat} {W : World} (h : SubI w na nb Aa Ab ka kb ca cb x y g2 g3 W) : W.cell? ⟨g2, 0, none⟩ = some (.bool na) ∧ W.cell? ⟨g2, 1, none⟩ = some (.slice Aa ka ca) ∧ W.cell? ⟨g3, 0, none⟩ = some (.bool nb) ∧ W.cell? ⟨g3, 1, none⟩ = some (.slice Ab kb cb) ∧ Hid (SubI w na nb Aa Ab ka kb ca cb x y g2 g3 W) := by
  have h' := h
  obtain ⟨h2, h3, _⟩ := h
  exact ⟨h2.cell 0, h2.cell 1, h3.cell 0, h3.cell 1, h'⟩
theorem SubI.below {w : World} {na : Bool} {nb : Bool} {Aa : Option Addr} {Ab : Option Addr} {ka : Nat} {kb : Nat} {ca : Nat} {cb : Nat} {x : Int} {y : Int} {g2 g3 : Nat} {W W1 : World} (h : SubI w na nb Aa Ab ka kb ca cb x y g2 g3 W) (hb : Below W.heap.size W W1) : SubI w na nb Aa Ab ka kb ca cb x y g2 g3 W1 := by
  obtain ⟨h2, h3, hB, k0, k1⟩ := h
  exact ⟨h2.below hb, h3.below hb, bth hB hb, k0.below hb, k1.below hb⟩
theorem SubI.store {w : World} {na : Bool} {nb : Bool} {Aa : Option Addr} {Ab : Option Addr} {ka : Nat} {kb : Nat} {ca : Nat} {cb : Nat} {x : Int} {y : Int} {g2 g3 : Nat} {W : World} {gr : Nat} {cs : Array Value} (h : SubI w na nb Aa Ab ka kb ca cb x y g2 g3 W) (hx : Bx W gr 27 cs) (hg : w.heap.size ≤ gr) (n2 : g2 ≠ gr) (n3 : g3 ≠ gr) (i : Nat) (u : Value) : SubI w na nb Aa Ab ka kb ca cb x y g2 g3 (W.setCell ⟨gr, i, none⟩ u) := by
  obtain ⟨h2, h3, hB, k0, k1⟩ := h
  exact ⟨h2.far (p := ⟨gr, i, none⟩) n2 u, h3.far (p := ⟨gr, i, none⟩) n3 u, hB.setCell hg u, k0.kp ((Kp.refl _).box hx (by decide) i u), k1.kp ((Kp.refl _).box hx (by decide) i u)⟩
set_option maxHeartbeats 400000 in
theorem p_sub (va vb : Value) (x y : Int) (w : World) (ha : RI w va x) (hb : RI w vb y) {n : Nat} (hx : Td n x) (hy : Td n y) (hn : n ≤ 1000000) : Calls Tryz.prog 184 #[va, vb] w (RetI w (x - y)) := by
  have HA := Lib.hid ha
  have HC := Lib.hid hb
  obtain ⟨na, Aa, ka, ca, rfl⟩ := ha.shape
  obtain ⟨nb, Ab, kb, cb, rfl⟩ := hb.shape
  have HT := Lib.hid (And.intro hx hy)
  clear ha hb hx hy
  have HB := Lib.hid (Below.refl w.heap.size w)
  go_enter Tryz.func184, Tryz.ntmps184
  go_wp2_with (first | ((with_reducible refine gate_dst (N := 2) rfl ?_); refine bx_event rfl (cs := #[.bool na, .slice Aa ka ca]) (t := 27) ?hr ?_; (case hr => first | (go_simp; done) | (go_simp; rfl)); intro g2 w2 hg bk hb; have HG2 := Lib.hid (Nat.le_trans HB.out.size hg); replace HB := Lib.hid (bth HB.out hb); replace HA := Lib.hid (HA.out.below hb); replace HC := Lib.hid (HC.out.below hb); have BK2 := Lib.hid bk; obtain ⟨c2_0, c2_1, f2_0, f2_1⟩ := BK2.out.all2; clear hb hg bk) | ((with_reducible refine gate_dst (N := 3) rfl ?_); refine bx_event rfl (cs := #[.bool nb, .slice Ab kb cb]) (t := 27) ?hr ?_; (case hr => first | (go_simp; done) | (go_simp; rfl)); intro g3 w3 hg bk hb; have HG3 := Lib.hid (Nat.le_trans HB.out.size hg); replace HB := Lib.hid (bth HB.out hb); have HN2_3 := Lib.hid (Nat.ne_of_lt (Nat.lt_of_lt_of_le BK2.out.lt hg)); clear c2_0 c2_1 f2_0 f2_1; replace BK2 := Lib.hid (BK2.out.below hb); obtain ⟨c2_0, c2_1, f2_0, f2_1⟩ := BK2.out.all2; replace HA := Lib.hid (HA.out.below hb); replace HC := Lib.hid (HC.out.below hb); have BK3 := Lib.hid bk; obtain ⟨c3_0, c3_1, f3_0, f3_1⟩ := BK3.out.all2; clear hb hg bk) | ((with_reducible refine gate_dst (N := 4) rfl ?_); refine bx_event rfl (cs := #[.bool false, .slice none 0 0]) (t := 27) ?hr ?_; (case hr => first | (go_simp; done) | (go_simp; rfl)); intro g4 w4 hg bk hb; have HG4 := Lib.hid (Nat.le_trans HB.out.size hg); replace HB := Lib.hid (bth HB.out hb); have HN2_4 := Lib.hid (Nat.ne_of_lt (Nat.lt_of_lt_of_le BK2.out.lt hg)); have HN3_4 := Lib.hid (Nat.ne_of_lt (Nat.lt_of_lt_of_le BK3.out.lt hg)); clear c2_0 c2_1 f2_0 f2_1; replace BK2 := Lib.hid (BK2.out.below hb); obtain ⟨c2_0, c2_1, f2_0, f2_1⟩ := BK2.out.all2; clear c3_0 c3_1 f3_0 f3_1; replace BK3 := Lib.hid (BK3.out.below hb); obtain ⟨c3_0, c3_1, f3_0, f3_1⟩ := BK3.out.all2; replace HA := Lib.hid (HA.out.below hb); replace HC := Lib.hid (HC.out.below hb); have BK4 := Lib.hid bk; obtain ⟨c4_0, c4_1, f4_0, f4_1⟩ := BK4.out.all2; clear hb hg bk))
  have HI : Hid (SubI w na nb Aa Ab ka kb ca cb x y g2 g3 w4) := ⟨BK2.out, BK3.out, HB.out, HA.out, HC.out⟩
  clear c2_0 c2_1 f2_0 f2_1 BK2
  clear c3_0 c3_1 f3_0 f3_1 BK3
  clear c4_0 c4_1 f4_0 f4_1
  clear HB HA HC
  have BKr := BK4
  clear BK4
  go_region_held3 (fun w' => w'.cell? ⟨g2, 0, none⟩ = some (.bool na) ∧ w'.cell? ⟨g2, 1, none⟩ = some (.slice Aa ka ca) ∧ w'.cell? ⟨g3, 0, none⟩ = some (.bool nb) ∧ w'.cell? ⟨g3, 1, none⟩ = some (.slice Ab kb cb) ∧ Hid (SubI w na nb Aa Ab ka kb ca cb x y g2 g3 w')) (first | exact (HI.out.below (below_drew (Below.refl _ _))).cells | exact (HQ.out.below hb).cells | exact (((HQ.out.below hb).store BKr.out HG4.out HN2_4.out HN3_4.out 0 _).store (BKr.out.set_ 0 _) HG4.out HN2_4.out HN3_4.out 1 _).cells)
    (first | (go_at_call 145; have HQ0 := ‹_ ∧ _ ∧ _ ∧ _ ∧ Hid (SubI w na nb Aa Ab ka kb ca cb x y g2 g3 _)›; have HQ := HQ0.2.2.2.2; clear HQ0; refine (p_neg _ y _ HQ.out.2.2.2.2).mono ?_; rintro e u ⟨v1, rfl, hv1, hb⟩; have BKr' : Hid (Bx u g4 27 #[.bool false, .slice none 0 0]) := (by first | exact BKr.out.below hb | exact BKr.out.drew.below hb); clear BKr; have BKr := BKr'; clear BKr'; have cr0 := BKr.out.cell 0; have fr0 := BKr.out.frozen 0; have cr1 := BKr.out.cell 1; have fr1 := BKr.out.frozen 1; have HV1 := Lib.hid hv1; clear hv1) | (go_at_call 141; have HQ0 := ‹_ ∧ _ ∧ _ ∧ _ ∧ Hid (SubI w na nb Aa Ab ka kb ca cb x y g2 g3 _)›; have HQ := HQ0.2.2.2.2; clear HQ0; refine (p_add _ _ x (-y) _ HQ.out.2.2.2.1 HV1.out (n := n) HT.out.1 (Td_neg HT.out.2) hn).mono ?_; rintro e u ⟨v2, rfl, hv2, hb⟩; have BKr' : Hid (Bx u g4 27 #[.bool false, .slice none 0 0]) := (by first | exact BKr.out.below hb | exact BKr.out.drew.below hb); clear BKr; have BKr := BKr'; clear BKr'; have cr0 := BKr.out.cell 0; have fr0 := BKr.out.frozen 0; have cr1 := BKr.out.cell 1; have fr1 := BKr.out.frozen 1; have HV2 := Lib.hid hv2; obtain ⟨nr, Ar, kr, cr, rfl⟩ := hv2.shape; clear hv2))
  go_wp2_with fail
  refine bodyPost_ret (results_cell_row rfl _ _ g4 27 #[.bool _, .slice Ar kr cr] (0, 0) _ rfl ((BKr.out.set_ 0 _).set_ 1 _) Tryz.underlying27 rfl (by kernel_rfl)) rfl ?_
  refine ⟨_, rfl, (HV2.out.kp (((Kp.refl _).box BKr.out (by decide) 0 _).box (BKr.out.set_ 0 _) (by decide) 1 _)).cast (by omega), ((HQ.out.below hb).2.2.1.setCell HG4.out _).setCell HG4.out _⟩
end Go.Proofs.YtapckjeedekphaaGreatDoor

namespace Go.Proofs.YtapckjeedekphaaGreatDoor
open Go.RowKit Go.Proofs.YtapckjeedekphaaGreatDoorW.PrintWords PR
/-- The result is the row of digits of a value. -/
def RetN (w : World) (x : Int) (n : Nat) (e : Ending) (w' : World) : Prop := ∃ v r, e = .returned v ∧ Mg w' v r ∧ Dg B32 r ∧ Tr r ∧ V B32 r = x ∧ r.length ≤ n ∧ Below w.heap.size w w'
theorem Mg.shape {w : World} {v : Value} {l : List Int} (h : Mg w v l) : ∃ A c, v = .slice A l.length c ∧ Mg w (.slice A l.length c) l := by
  have h' := h
  obtain ⟨A, c, rfl, _⟩ := h'
  exact ⟨A, c, rfl, h⟩
theorem cmp_sgn_ne {na nb : Bool} {a b : List Int} (h : (na == nb) = false) (da : Dg B32 a) (db : Dg B32 b) (ta : Tr a) (tb : Tr b) (ea : na = true → a ≠ []) (eb : nb = true → b ≠ []) : cmp (sgn na (V B32 a)) (sgn nb (V B32 b)) = if na = true then -1 else 1 := by
  have h1 := V_nonneg (B := B32) (by decide) da
  have h2 := V_nonneg (B := B32) (by decide) db
  have h3 := Tr_ne (B := B32) (by decide) da ta
  have h4 := Tr_ne (B := B32) (by decide) db tb
  cases na <;> cases nb
  · exact absurd h (by decide)
  · have := mt h4.2 (eb rfl)
    rw [cmp_gt (by simp only [sgn]; simp; omega)]; simp
  · have := mt h3.2 (ea rfl)
    rw [cmp_lt (by simp only [sgn]; simp; omega)]; simp
  · exact absurd h (by decide)
theorem cmp_sgn_neg (x y : Int) : cmp (sgn true x) (sgn true y) = cmp y x := by
  unfold cmp sgn; simp only [if_true]; (repeat' split) <;> omega
theorem cmp_sgn_pos (x y : Int) : cmp (sgn false x) (sgn false y) = cmp x y := by
  unfold cmp sgn; simp
set_option maxHeartbeats 800000 in
theorem p_cmp (va vb : Value) (x y : Int) (w : World) (ha : RI w va x) (hb : RI w vb y) {n : Nat} (hx : Td n x) (hy : Td n y) (hn : n ≤ 1000000) : Calls Tryz.prog 54 #[va, vb] w fun e w' => e = .returned (.int .i64 (cmp x y)) ∧ Below w.heap.size w w' := by
  obtain ⟨na, Aa, ca, a, rfl, ma, da, ta, ea, za⟩ := ha.parts
  obtain ⟨nb, Ab, cb, b, rfl, mb, db, tb, eb, zb⟩ := hb.parts
  have hla : a.length ≤ n := Td_len32 da ta (by rw [← za]; exact hx)
  have hlb : b.length ≤ n := Td_len32 db tb (by rw [← zb]; exact hy)
  have HA := Lib.hid ma
  have HC := Lib.hid mb
  have FA := Lib.hid (And.intro da (And.intro ta ea))
  have FC := Lib.hid (And.intro db (And.intro tb eb))
  have HZ := Lib.hid (And.intro za zb)
  clear ha hb hx hy da ta ea za db tb eb zb
  clear ma mb
  cases na <;> cases nb
  · have HB := Lib.hid (Below.refl w.heap.size w)
    go_enter Tryz.func54, Tryz.ntmps54
    go_wp2_with (first | ((with_reducible refine gate_dst (N := 2) rfl ?_); refine bx_event rfl (cs := #[.bool false, .slice Aa a.length ca]) (t := 27) ?hr ?_; (case hr => first | (go_simp; done) | (go_simp; rfl)); intro g2 w2 hg bk hb; have HG2 := Lib.hid (Nat.le_trans HB.out.size hg); replace HB := Lib.hid (bth HB.out hb); replace HA := Lib.hid (HA.out.below hb); replace HC := Lib.hid (HC.out.below hb); have BK2 := Lib.hid bk; obtain ⟨c2_0, c2_1, f2_0, f2_1⟩ := BK2.out.all2; clear hb hg bk) | ((with_reducible refine gate_dst (N := 3) rfl ?_); refine bx_event rfl (cs := #[.bool false, .slice Ab b.length cb]) (t := 27) ?hr ?_; (case hr => first | (go_simp; done) | (go_simp; rfl)); intro g3 w3 hg bk hb; have HG3 := Lib.hid (Nat.le_trans HB.out.size hg); replace HB := Lib.hid (bth HB.out hb); have HN2_3 := Lib.hid (Nat.ne_of_lt (Nat.lt_of_lt_of_le BK2.out.lt hg)); clear c2_0 c2_1 f2_0 f2_1; replace BK2 := Lib.hid (BK2.out.below hb); obtain ⟨c2_0, c2_1, f2_0, f2_1⟩ := BK2.out.all2; replace HA := Lib.hid (HA.out.below hb); replace HC := Lib.hid (HC.out.below hb); have BK3 := Lib.hid bk; obtain ⟨c3_0, c3_1, f3_0, f3_1⟩ := BK3.out.all2; clear hb hg bk))
    refine (p_order _ _ a b _ HA.out HC.out FA.out.1 FC.out.1 FA.out.2.1 FC.out.2.1 (by omega)).mono ?_
    rintro e u1 ⟨rfl, hb⟩
    replace HB := Lib.hid (bth HB.out hb)
    clear c2_0 c2_1 f2_0 f2_1
    replace BK2 := Lib.hid (BK2.out.below hb)
    obtain ⟨c2_0, c2_1, f2_0, f2_1⟩ := BK2.out.all2
    clear c3_0 c3_1 f3_0 f3_1
    replace BK3 := Lib.hid (BK3.out.below hb)
    obtain ⟨c3_0, c3_1, f3_0, f3_1⟩ := BK3.out.all2
    replace HA := Lib.hid (HA.out.below hb)
    replace HC := Lib.hid (HC.out.below hb)
    clear hb
    generalize hg : cmp (V B32 a) (V B32 b) = ov at *
    have HG := Lib.hid hg
    clear hg
    go_wp2_with fail
    go_ret
    exact ⟨by rw [HZ.out.1, HZ.out.2, cmp_sgn_pos, HG.out]; rfl, HB.out⟩
  · have HB := Lib.hid (Below.refl w.heap.size w)
    go_enter Tryz.func54, Tryz.ntmps54
    go_wp2_with (first | ((with_reducible refine gate_dst (N := 2) rfl ?_); refine bx_event rfl (cs := #[.bool false, .slice Aa a.length ca]) (t := 27) ?hr ?_; (case hr => first | (go_simp; done) | (go_simp; rfl)); intro g2 w2 hg bk hb; have HG2 := Lib.hid (Nat.le_trans HB.out.size hg); replace HB := Lib.hid (bth HB.out hb); replace HA := Lib.hid (HA.out.below hb); replace HC := Lib.hid (HC.out.below hb); have BK2 := Lib.hid bk; obtain ⟨c2_0, c2_1, f2_0, f2_1⟩ := BK2.out.all2; clear hb hg bk) | ((with_reducible refine gate_dst (N := 3) rfl ?_); refine bx_event rfl (cs := #[.bool true, .slice Ab b.length cb]) (t := 27) ?hr ?_; (case hr => first | (go_simp; done) | (go_simp; rfl)); intro g3 w3 hg bk hb; have HG3 := Lib.hid (Nat.le_trans HB.out.size hg); replace HB := Lib.hid (bth HB.out hb); have HN2_3 := Lib.hid (Nat.ne_of_lt (Nat.lt_of_lt_of_le BK2.out.lt hg)); clear c2_0 c2_1 f2_0 f2_1; replace BK2 := Lib.hid (BK2.out.below hb); obtain ⟨c2_0, c2_1, f2_0, f2_1⟩ := BK2.out.all2; replace HA := Lib.hid (HA.out.below hb); replace HC := Lib.hid (HC.out.below hb); have BK3 := Lib.hid bk; obtain ⟨c3_0, c3_1, f3_0, f3_1⟩ := BK3.out.all2; clear hb hg bk))
    go_ret
    exact ⟨by rw [HZ.out.1, HZ.out.2, cmp_sgn_ne (na := false) (nb := true) rfl FA.out.1 FC.out.1 FA.out.2.1 FC.out.2.1 (fun h => FA.out.2.2 (by first | trivial | cases h)) (fun h => FC.out.2.2 (by first | trivial | cases h))]; rfl, HB.out⟩
  · have HB := Lib.hid (Below.refl w.heap.size w)
    go_enter Tryz.func54, Tryz.ntmps54
    go_wp2_with (first | ((with_reducible refine gate_dst (N := 2) rfl ?_); refine bx_event rfl (cs := #[.bool true, .slice Aa a.length ca]) (t := 27) ?hr ?_; (case hr => first | (go_simp; done) | (go_simp; rfl)); intro g2 w2 hg bk hb; have HG2 := Lib.hid (Nat.le_trans HB.out.size hg); replace HB := Lib.hid (bth HB.out hb); replace HA := Lib.hid (HA.out.below hb); replace HC := Lib.hid (HC.out.below hb); have BK2 := Lib.hid bk; obtain ⟨c2_0, c2_1, f2_0, f2_1⟩ := BK2.out.all2; clear hb hg bk) | ((with_reducible refine gate_dst (N := 3) rfl ?_); refine bx_event rfl (cs := #[.bool false, .slice Ab b.length cb]) (t := 27) ?hr ?_; (case hr => first | (go_simp; done) | (go_simp; rfl)); intro g3 w3 hg bk hb; have HG3 := Lib.hid (Nat.le_trans HB.out.size hg); replace HB := Lib.hid (bth HB.out hb); have HN2_3 := Lib.hid (Nat.ne_of_lt (Nat.lt_of_lt_of_le BK2.out.lt hg)); clear c2_0 c2_1 f2_0 f2_1; replace BK2 := Lib.hid (BK2.out.below hb); obtain ⟨c2_0, c2_1, f2_0, f2_1⟩ := BK2.out.all2; replace HA := Lib.hid (HA.out.below hb); replace HC := Lib.hid (HC.out.below hb); have BK3 := Lib.hid bk; obtain ⟨c3_0, c3_1, f3_0, f3_1⟩ := BK3.out.all2; clear hb hg bk))
    go_ret
    exact ⟨by rw [HZ.out.1, HZ.out.2, cmp_sgn_ne (na := true) (nb := false) rfl FA.out.1 FC.out.1 FA.out.2.1 FC.out.2.1 (fun h => FA.out.2.2 (by first | trivial | cases h)) (fun h => FC.out.2.2 (by first | trivial | cases h))]; rfl, HB.out⟩
  · have HB := Lib.hid (Below.refl w.heap.size w)
    go_enter Tryz.func54, Tryz.ntmps54
    go_wp2_with (first | ((with_reducible refine gate_dst (N := 2) rfl ?_); refine bx_event rfl (cs := #[.bool true, .slice Aa a.length ca]) (t := 27) ?hr ?_; (case hr => first | (go_simp; done) | (go_simp; rfl)); intro g2 w2 hg bk hb; have HG2 := Lib.hid (Nat.le_trans HB.out.size hg); replace HB := Lib.hid (bth HB.out hb); replace HA := Lib.hid (HA.out.below hb); replace HC := Lib.hid (HC.out.below hb); have BK2 := Lib.hid bk; obtain ⟨c2_0, c2_1, f2_0, f2_1⟩ := BK2.out.all2; clear hb hg bk) | ((with_reducible refine gate_dst (N := 3) rfl ?_); refine bx_event rfl (cs := #[.bool true, .slice Ab b.length cb]) (t := 27) ?hr ?_; (case hr => first | (go_simp; done) | (go_simp; rfl)); intro g3 w3 hg bk hb; have HG3 := Lib.hid (Nat.le_trans HB.out.size hg); replace HB := Lib.hid (bth HB.out hb); have HN2_3 := Lib.hid (Nat.ne_of_lt (Nat.lt_of_lt_of_le BK2.out.lt hg)); clear c2_0 c2_1 f2_0 f2_1; replace BK2 := Lib.hid (BK2.out.below hb); obtain ⟨c2_0, c2_1, f2_0, f2_1⟩ := BK2.out.all2; replace HA := Lib.hid (HA.out.below hb); replace HC := Lib.hid (HC.out.below hb); have BK3 := Lib.hid bk; obtain ⟨c3_0, c3_1, f3_0, f3_1⟩ := BK3.out.all2; clear hb hg bk))
    refine (p_order _ _ b a _ HC.out HA.out FC.out.1 FA.out.1 FC.out.2.1 FA.out.2.1 (by omega)).mono ?_
    rintro e u1 ⟨rfl, hb⟩
    replace HB := Lib.hid (bth HB.out hb)
    clear c2_0 c2_1 f2_0 f2_1
    replace BK2 := Lib.hid (BK2.out.below hb)
    obtain ⟨c2_0, c2_1, f2_0, f2_1⟩ := BK2.out.all2
    clear c3_0 c3_1 f3_0 f3_1
    replace BK3 := Lib.hid (BK3.out.below hb)
    obtain ⟨c3_0, c3_1, f3_0, f3_1⟩ := BK3.out.all2
    replace HA := Lib.hid (HA.out.below hb)
    replace HC := Lib.hid (HC.out.below hb)
    clear hb
    generalize hg : cmp (V B32 b) (V B32 a) = ov at *
    have HG := Lib.hid hg
    clear hg
    go_wp2_with fail
    go_ret
    exact ⟨by rw [HZ.out.1, HZ.out.2, cmp_sgn_neg, HG.out]; rfl, HB.out⟩
theorem mul_u32 {a b : Int} (ha : 0 ≤ a ∧ a < 4294967296) (hb : 0 ≤ b ∧ b < 4294967296) : 0 ≤ a * b ∧ a * b ≤ 18446744065119617025 := by
  refine ⟨Int.mul_nonneg ha.1 hb.1, ?_⟩
  have := Int.mul_le_mul (show a ≤ 4294967295 by omega) (show b ≤ 4294967295 by omega) hb.1 (by omega)
  omega
def ScRel (w0 w' : World) (l : List Int) (y p : Int) (i : Nat) (c : Int) : Prop := ∃ out, MulMem w0 w' w0.heap.size 140 .u32 B32 (l.length + 1) out ∧ Zr out i ∧ V 4294967296 out + 4294967296 ^ i * c = V 4294967296 (l.take i) * y + p
theorem sc_step {out l : List Int} {i : Nat} {c y p s d : Int} (hi : i < l.length) (h : i < out.length) (hz : Zr out i) (hd : rd l i = d) (hs : s = c + d * y)
    (hV : V 4294967296 out + 4294967296 ^ i * c = V 4294967296 (l.take i) * y + p) : V 4294967296 (out.set i (s % 4294967296)) + 4294967296 ^ (i + 1) * (s / 4294967296) = V 4294967296 (l.take (i + 1)) * y + p := by
  rw [V_set_zero h hz, V_take_succ _ _ _ hi, hd]
  have e : s % 4294967296 + 4294967296 * (s / 4294967296) = s := Int.emod_add_mul_ediv s _
  have e2 : (4294967296 : Int) ^ i * (s % 4294967296 + 4294967296 * (s / 4294967296)) = 4294967296 ^ i * s := by rw [e]
  rw [hs] at e2 ⊢
  rw [Int.pow_succ]
  grind
set_option maxHeartbeats 800000 in
theorem p_scale (v : Value) (l : List Int) (y p : Int) (w : World) (hv : Mg w v l) (hd : Dg B32 l) (hy : 0 ≤ y ∧ y < 4294967296) (hp : 0 ≤ p ∧ p < 4294967296) (hl : l.length ≤ 1000000000) :
    Calls Tryz.prog 122 #[v, .int .u32 y, .int .u32 p] w (RetN w (V B32 l * y + p) (l.length + 1)) := by
  obtain ⟨A, ca, rfl, hv⟩ := hv.shape
  have HA := Lib.hid hv
  have DA := Lib.hid hd
  have mk := mk140 (l.length + 1) (by omega)
  rw [show ((l.length + 1 : Nat) : Int) = (l.length : Int) + 1 by omega] at mk
  have hcap : l.length ≤ ca := hv.C.2.1
  clear hd hv
  go_enter Tryz.func122, Tryz.ntmps122
  go_wp2_with fail
  clear mk
  go_loopg [8, 19] (l.length + 1) (fun gk v8 v19 w' => ∃ (i : Nat) (c : Int), i ≤ l.length ∧ l.length < gk + i ∧ 0 ≤ c ∧ c < 4294967296 ∧ v8 = .int .u64 c ∧ v19 = .int .i64 i ∧ Hid (ScRel w w' l y p i c))
  case atStart => exact ⟨0, p, by omega, by omega, by omega, by omega, rfl, rfl, _, ⟨IB.new w 140 .u32 _, by simp, Dg_replicate (by decide) _, (Below.refl _ _).alloc (Nat.le_refl _) _⟩, Zr_replicate _ _, by rw [V_replicate]; simp [V]⟩
  case round =>
    obtain ⟨i, c, hi, hgk, hc0, hc1, rfl, rfl, HR⟩ := hrel
    by_cases hlt : i < l.length
    · obtain ⟨out, hm, hz, hV⟩ := HR.out
      have hlen := hm.len
      have hfr := hm.ib.frozen i
      obtain ⟨ad, rfl, ca1⟩ := (HA.out.below hm.bl).at_ i hlt
      have ra : 0 ≤ rd l i ∧ rd l i < 4294967296 := Dg_rd DA.out i hlt
      have hpr := mul_u32 ra hy
      have hcell := hm.ib.cell i (by omega)
      generalize hx : rd l i = x at *
      have HH := Lib.hid (And.intro hx (And.intro hm (And.intro hz hV)))
      have HL := Lib.hid hlen
      clear hx hm hz hV hlen HR
      go_wp2_with fail
      obtain ⟨hx, hm, hz, hV⟩ := HH.out
      have hlen := HL.out
      go_roundg (gk - 1)
      case measure => omega
      case rel => exact ⟨i + 1, (c + x * y) / 4294967296, by omega, by omega, by omega, by omega, rfl, rfl, out.set i ((c + x * y) % 4294967296), ⟨hm.ib.set_ _ _, by simpa using hlen, Dg_set32 hm.dg _ (by omega), hm.bl.setCell (Nat.le_refl _) _⟩, Zr_set (Zr_mono hz (Nat.le_succ i)) (Nat.lt_succ_self i), sc_step hlt (by omega) hz hx rfl hV⟩
    · obtain rfl : i = l.length := by omega
      obtain ⟨out, hm, hz, hV⟩ := HR.out
      have hlen := hm.len
      have hcell := hm.ib.cell l.length (by omega)
      have hfr := hm.ib.frozen l.length
      have HH := Lib.hid (And.intro hm (And.intro hz hV))
      have HL := Lib.hid hlen
      clear hm hz hV hlen HR
      go_wp2_with fail
      obtain ⟨hm, hz, hV⟩ := HH.out
      have hlen := HL.out
      have hsl : (out.set l.length c).length = l.length + 1 := by simpa using hlen
      have HIB := Lib.hid (hm.ib.set_ l.length c)
      have HMG := Lib.hid ((hm.ib.set_ l.length c).Mg (by omega))
      have HV : Hid (Dg B32 (out.set l.length c) ∧ V B32 (out.set l.length c) = V B32 l * y + p) := ⟨Dg_set32 hm.dg _ (by omega), by
        show V 4294967296 _ = V 4294967296 l * y + p
        rw [V_set_zero (by omega) hz, hV, V_take_over _ _ _ (Nat.le_refl _)]⟩
      have HBL := Lib.hid (hm.bl.setCell (p := ⟨w.heap.size, l.length, none⟩) (Nat.le_refl _) (.int .u32 c))
      have HSL := Lib.hid hsl
      rw [hsl] at HMG
      clear hm hz hV hlen hsl HH HL HIB
      generalize out.set l.length c = r at *
      refine (p_trim _ r _ HMG.out).mono ?_
      rintro e w1 ⟨v1, rfl, h1, hb⟩
      have H1 := Lib.hid (And.intro h1 hb)
      clear h1 hb
      go_wp2_with fail
      go_ret
      have := trD_len r
      have := HSL.out
      exact ⟨_, _, rfl, H1.out.1, trD_Dg HV.out.1, trD_Tr r, by rw [trD_V]; exact HV.out.2, by omega, bth HBL.out H1.out.2⟩
end Go.Proofs.YtapckjeedekphaaGreatDoor

