/- Part 4 of the walk: our own texts for this claim, in order. -/
import Derived.Test.YtapckjeedekphaaGreatDoorMb3
import Derived.Laws.BitsAllLaws
import Derived.Lib.ItoaNum
import Derived.Shelf.Strings.Builder1
import Derived.Shelf.Strings.Builder2
import Derived.Shelf.Strings.OnBuilder
import Derived.Shelf.Strings.Trim
import Derived.Shelf.Small.Bits
import Derived.Shelf.Small.Strs
import Derived.Shelf.Small.Wraps
import Derived.Shelf.Strconv.Itoa0
import Derived.Shelf.Strconv.Itoa1
import Derived.Shelf.LaysM
import Derived.Shelf.Strconv.Itoa2
import Derived.Shelf.Strconv.Itoa3
import Derived.Shelf.LaysC
import Derived.Shelf.Strconv.ParseUint10b32
import Derived.Ground.MpProg
import Derived.Shelf.Pu.ParseUintPublic10
import Derived.Shelf.Strings.Search1
import Derived.Shelf.Strings.Search2
import Derived.Shelf.Strings.Cut
import Derived.Shelf.GgClosure.StringsIndexFunc
import Derived.Ground.GgwProg
import Derived.Shelf.GgClosure.StringsIndexFuncTop
import Derived.Shelf.Strings.Prefix
import Derived.Shelf.Strings.Repeat
import Derived.Shelf.Unicode.DecodeAny
import Derived.Shelf.Strings.FuncGrows
import Derived.Shelf.Slices.ReverseS
import Derived.Shelf.Slices.Cells
import Derived.Ground.SlgnProg
import Derived.Shelf.SlicesE.Clone
import Derived.Test.YtapckjeedekphaaGreatDoorProg
import Derived.Shelf.Strings.SlTrimAscii
import Derived.Laws.RangeAny
import Derived.Lib.ConvBytes
namespace Go.Proofs.YtapckjeedekphaaGreatDoor
open Go.RowKit Go.Proofs.YtapckjeedekphaaGreatDoorW.PrintWords PR
theorem or_digit {c x : Int} (hc : 0 ≤ c ∧ c < 4294967296) (hx : 0 ≤ x ∧ x < 4294967296) : bits BinOp.or IntKind.u64 (c * 4294967296) x = c * 4294967296 + x := by
  obtain ⟨n, rfl⟩ := Int.eq_ofNat_of_zero_le hc.1
  obtain ⟨m, rfl⟩ := Int.eq_ofNat_of_zero_le hx.1
  have e : ((n : Int) * 4294967296) = ((n * 4294967296 : Nat) : Int) := by omega
  rw [e, u64_or_nat (n * 4294967296) m (by omega) (by omega), Nat.or_comm]
  have h := Nat.shiftLeft_add_eq_or_of_lt (show m < 2 ^ 32 by omega) n
  rw [Nat.or_comm, ← Nat.shiftLeft_eq n 32 , ← h, Nat.shiftLeft_eq]
  omega
theorem sh_facts {h c x y : Int} (hh : h = c * 4294967296 + x) (hc : 0 ≤ c ∧ c < y) (hx : 0 ≤ x ∧ x < 4294967296) : h.tdiv y = h / y ∧ h.tmod y = h % y ∧ 0 ≤ h / y ∧ h / y < 4294967296 ∧ 0 ≤ h % y ∧ h % y < y := by
  have h0 : 0 ≤ h := by omega
  refine ⟨Int.tdiv_eq_ediv_of_nonneg h0, Int.tmod_eq_emod_of_nonneg h0, Int.ediv_nonneg h0 (by omega), ?_, Int.emod_nonneg _ (by omega), Int.emod_lt_of_pos _ (by omega)⟩
  apply Int.ediv_lt_of_lt_mul (by omega)
  have : (c + 1) * 4294967296 ≤ y * 4294967296 := Int.mul_le_mul_of_nonneg_right (by omega) (by omega)
  omega
theorem sh_step {B c x y q r X O L h : Int} (hh : h = c * B + x) (hq : q = h / y) (hr : r = h % y) (hV : X = y * O + c) (hL : L = x + B * X) : L = y * (q + B * O) + r := by
  have e : h % y + y * (h / y) = h := Int.emod_add_mul_ediv h y
  rw [← hq, ← hr] at e
  grind
theorem set_drop (l : List Int) (j : Nat) (v : Int) (h : j < l.length) : (l.set j v).drop j = v :: l.drop (j + 1) := by
  rw [set_split l j v h, List.drop_append, List.length_take, Nat.min_eq_left (by omega)]
  simp
def ShRel (w0 w' : World) (l : List Int) (y : Int) (m : Nat) (c : Int) : Prop := ∃ out, MulMem w0 w' w0.heap.size 140 .u32 B32 l.length out ∧ V 4294967296 (l.drop m) = y * V 4294967296 (out.drop m) + c
/-- The results are a row of digits, and a digit. -/
def RetS (w : World) (x y : Int) (n : Nat) (e : Ending) (w' : World) : Prop := ∃ v r, e = .returned (.tuple #[v, .int .u32 (x % y)]) ∧ Mg w' v r ∧ Dg B32 r ∧ Tr r ∧ V B32 r = x / y ∧ r.length ≤ n ∧ Below w.heap.size w w'
set_option maxHeartbeats 800000 in
theorem p_short (v : Value) (l : List Int) (y : Int) (w : World) (hv : Mg w v l) (hd : Dg B32 l) (hy : 0 < y ∧ y < 4294967296) (hl : l.length ≤ 1000000000) :
    Calls Tryz.prog 131 #[v, .int .u32 y] w (RetS w (V B32 l) y l.length) := by
  obtain ⟨A, ca, rfl, hv⟩ := hv.shape
  have HA := Lib.hid hv
  have DA := Lib.hid hd
  have mk := mk140 l.length (by omega)
  have hcap : l.length ≤ ca := hv.C.2.1
  clear hd hv
  go_enter Tryz.func131, Tryz.ntmps131
  go_wp2_with fail
  clear mk
  go_loopg [7, 8] (l.length + 1) (fun gk v7 v8 w' => ∃ (i : Nat) (c : Int), i ≤ l.length ∧ i < gk ∧ 0 ≤ c ∧ c < y ∧ v7 = .int .u64 c ∧ v8 = .int .i64 ((i : Int) - 1) ∧ Hid (ShRel w w' l y i c))
  case atStart => exact ⟨l.length, 0, by omega, by omega, by omega, by omega, rfl, rfl, _, ⟨IB.new w 140 .u32 _, by simp, Dg_replicate (by decide) _, (Below.refl _ _).alloc (Nat.le_refl _) _⟩, by simp [V]⟩
  case round =>
    obtain ⟨i, c, hi, hgk, hc0, hc1, rfl, rfl, HR⟩ := hrel
    by_cases h0 : i = 0
    · subst h0
      obtain ⟨out, hm, hV⟩ := HR.out
      have hlen := hm.len
      have HIB := Lib.hid (hm.ib.Mg (by omega))
      have HD := Lib.hid (And.intro hm.dg (And.intro hm.bl (And.intro hV hlen)))
      rw [hlen] at HIB
      clear hm hV hlen HR
      go_wp2_with fail
      refine (p_trim _ out _ HIB.out).mono ?_
      rintro e w1 ⟨v1, rfl, h1, hb⟩
      have H1 := Lib.hid (And.intro h1 hb)
      clear h1 hb
      go_wp2_with fail
      go_ret2
      have := trD_len out
      have hV := HD.out.2.2.1
      have hlen := HD.out.2.2.2
      simp only [List.drop_zero] at hV
      have e : V B32 l / y = V B32 out ∧ V B32 l % y = c := by
        show V 4294967296 l / y = V 4294967296 out ∧ V 4294967296 l % y = c
        constructor
        · rw [show V 4294967296 l = c + y * V 4294967296 out by omega, Int.add_mul_ediv_left _ _ (by omega), Int.ediv_eq_zero_of_lt hc0 hc1]; omega
        · rw [show V 4294967296 l = c + y * V 4294967296 out by omega, Int.add_mul_emod_self_left, Int.emod_eq_of_lt hc0 hc1]
      refine ⟨_, trD out, by rw [e.2]; rfl, H1.out.1, trD_Dg HD.out.1, trD_Tr out, by rw [trD_V, e.1], by omega, bth HD.out.2.1 H1.out.2⟩
    · obtain ⟨j, rfl⟩ : ∃ j, i = j + 1 := ⟨i - 1, by omega⟩
      obtain ⟨out, hm, hV⟩ := HR.out
      have hlen := hm.len
      have hfr := hm.ib.frozen j
      obtain ⟨ad, rfl, ca1⟩ := (HA.out.below hm.bl).at_ j (by omega)
      have ra : 0 ≤ rd l j ∧ rd l j < 4294967296 := Dg_rd DA.out j (by omega)
      have hcell := hm.ib.cell j (by omega)
      generalize hx : rd l j = x at *
      have hor := or_digit (c := c) (x := x) (by omega) ra
      obtain ⟨h, hh⟩ : ∃ h, h = c * 4294967296 + x := ⟨_, rfl⟩
      rw [← hh] at hor
      obtain ⟨e1, e2, b1, b2, b3, b4⟩ := sh_facts (y := y) hh (by omega) ra
      have hb0 : 0 ≤ h ∧ h ≤ 18446744073709551615 := by omega
      generalize hq : h / y = q at *
      generalize hr : h % y = r at *
      have HH := Lib.hid (And.intro hx (And.intro hm (And.intro hV (And.intro hh (And.intro hq hr)))))
      have HL := Lib.hid hlen
      clear hx hm hV hlen HR hh hq hr
      rw [show ((j + 1 : Nat) : Int) - 1 = (j : Int) by omega]
      go_wp2_with fail
      obtain ⟨hx, hm, hV, hh, hq, hr⟩ := HH.out
      have hlen := HL.out
      go_roundg (gk - 1)
      case measure => omega
      case rel =>
        refine ⟨j, r, by omega, by omega, by omega, by omega, rfl, rfl, out.set j q, ⟨hm.ib.set_ _ _, by simpa using hlen, Dg_set32 hm.dg _ (by omega), hm.bl.setCell (Nat.le_refl _) _⟩, ?_⟩
        rw [set_drop _ _ _ (by omega), V_cons, V_drop_succ _ l j (by omega), hx]
        exact sh_step hh hq.symm hr.symm hV rfl
/-- A slice of zeros has been made: its block, and the world, as letters. -/
theorem ib_event {P : Program} {ops : Array Oper} {rest : List Oper} {o : Oper} {a : Act} {Q : Exit → Act → World → Prop} {W : World} (hgd : o.guard = none) {n : Nat} {t : TypeId} {k : IntKind}
    (hrun : (execOp a.eval o).run P W = .ok (.value (.slice (some ⟨W.heap.size, 0, none⟩) n n)) (W.alloc (.cells (madeCells #[.int k 0] n) t)))
    (h : ∀ g w1, W.heap.size ≤ g → IB w1 g t k (List.replicate n 0) → Below W.heap.size W w1 → wpList P ops Q rest (a.put o.dst (.slice (some ⟨g, 0, none⟩) n n)) w1) : wpList P ops Q (o :: rest) a W :=
  Kd.event_run hgd hrun (h _ _ (Nat.le_refl _) (IB.new W t k n) (below_alloc (Below.refl _ _) _))
theorem sgn_mul32 (na nb : Bool) (x y : Int) : sgn na x * sgn nb y = sgn (na != nb) (x * y) := by
  cases na <;> cases nb <;> simp [sgn, Int.neg_mul, Int.mul_neg]
set_option maxHeartbeats 1600000 in
theorem p_mul (va vb : Value) (x y : Int) (w : World) (ha : RI w va x) (hb : RI w vb y) {n : Nat} (hx : Td n x) (hy : Td n y) (hn : n ≤ 1000000) : Calls Tryz.prog 142 #[va, vb] w (RetI w (x * y)) := by
  obtain ⟨na, Aa, ca, a, rfl, ma, da, ta, ea, za⟩ := ha.parts
  obtain ⟨nb, Ab, cb, b, rfl, mb, db, tb, eb, zb⟩ := hb.parts
  have hla : a.length ≤ n := Td_len32 da ta (by rw [← za]; exact hx)
  have hlb : b.length ≤ n := Td_len32 db tb (by rw [← zb]; exact hy)
  have HA := Lib.hid ma
  have HC := Lib.hid mb
  have FA := Lib.hid (And.intro da (And.intro ta ea))
  have FC := Lib.hid (And.intro db (And.intro tb eb))
  have HZ := Lib.hid (And.intro za zb)
  clear ha hb hx hy da ta ea za db tb eb zb
  clear ma mb
  have HN : Hid (n ≤ 1000000) := hn
  have mk := mk140 (a.length + b.length) (by omega)
  rw [show ((a.length + b.length : Nat) : Int) = (a.length : Int) + (b.length : Int) by omega] at mk
  have MK := Lib.hid mk
  clear mk
  have HB := Lib.hid (Below.refl w.heap.size w)
  go_enter Tryz.func142, Tryz.ntmps142
  go_wp2_with (first | ((with_reducible refine gate_dst (N := 2) rfl ?_); refine bx_event rfl (cs := #[.bool na, .slice Aa a.length ca]) (t := 27) ?hr ?_; (case hr => first | (go_simp; done) | (go_simp; rfl)); intro g2 w2 hg bk hb; have HG2 := Lib.hid (Nat.le_trans HB.out.size hg); replace HB := Lib.hid (bth HB.out hb); replace HA := Lib.hid (HA.out.below hb); replace HC := Lib.hid (HC.out.below hb); have BK2 := Lib.hid bk; obtain ⟨c2_0, c2_1, f2_0, f2_1⟩ := BK2.out.all2; clear hb hg bk) | ((with_reducible refine gate_dst (N := 3) rfl ?_); refine bx_event rfl (cs := #[.bool nb, .slice Ab b.length cb]) (t := 27) ?hr ?_; (case hr => first | (go_simp; done) | (go_simp; rfl)); intro g3 w3 hg bk hb; have HG3 := Lib.hid (Nat.le_trans HB.out.size hg); replace HB := Lib.hid (bth HB.out hb); have HN2_3 := Lib.hid (Nat.ne_of_lt (Nat.lt_of_lt_of_le BK2.out.lt hg)); clear c2_0 c2_1 f2_0 f2_1; replace BK2 := Lib.hid (BK2.out.below hb); obtain ⟨c2_0, c2_1, f2_0, f2_1⟩ := BK2.out.all2; replace HA := Lib.hid (HA.out.below hb); replace HC := Lib.hid (HC.out.below hb); have BK3 := Lib.hid bk; obtain ⟨c3_0, c3_1, f3_0, f3_1⟩ := BK3.out.all2; clear hb hg bk) | ((with_reducible refine gate_dst (N := 4) rfl ?_); refine bx_event rfl (cs := #[.bool false, .slice none 0 0]) (t := 27) ?hr ?_; (case hr => first | (go_simp; done) | (go_simp; rfl)); intro g4 w4 hg bk hb; have HG4 := Lib.hid (Nat.le_trans HB.out.size hg); replace HB := Lib.hid (bth HB.out hb); have HN2_4 := Lib.hid (Nat.ne_of_lt (Nat.lt_of_lt_of_le BK2.out.lt hg)); have HN3_4 := Lib.hid (Nat.ne_of_lt (Nat.lt_of_lt_of_le BK3.out.lt hg)); clear c2_0 c2_1 f2_0 f2_1; replace BK2 := Lib.hid (BK2.out.below hb); obtain ⟨c2_0, c2_1, f2_0, f2_1⟩ := BK2.out.all2; clear c3_0 c3_1 f3_0 f3_1; replace BK3 := Lib.hid (BK3.out.below hb); obtain ⟨c3_0, c3_1, f3_0, f3_1⟩ := BK3.out.all2; replace HA := Lib.hid (HA.out.below hb); replace HC := Lib.hid (HC.out.below hb); have BK4 := Lib.hid bk; obtain ⟨c4_0, c4_1, f4_0, f4_1⟩ := BK4.out.all2; clear hb hg bk) | ((with_reducible refine gate_dst (N := 18) rfl ?_); refine ib_event (n := a.length + b.length) (t := 140) (k := .u32) rfl ?hr ?_; (case hr => go_simp; rw [MK.out]; rfl); intro g18 w18 hg ib hb; have HG18 := Lib.hid hg; have IB18 := Lib.hid ib; have HW18 := Lib.hid hb; clear c2_0 c2_1 f2_0 f2_1; have c2_0 := (BK2.out.below HW18.out).cell 0; have f2_0 := (BK2.out.below HW18.out).frozen 0; have c2_1 := (BK2.out.below HW18.out).cell 1; have f2_1 := (BK2.out.below HW18.out).frozen 1; clear c3_0 c3_1 f3_0 f3_1; have c3_0 := (BK3.out.below HW18.out).cell 0; have f3_0 := (BK3.out.below HW18.out).frozen 0; have c3_1 := (BK3.out.below HW18.out).cell 1; have f3_1 := (BK3.out.below HW18.out).frozen 1; clear c4_0 c4_1 f4_0 f4_1; have c4_0 := (BK4.out.below HW18.out).cell 0; have f4_0 := (BK4.out.below HW18.out).frozen 0; have c4_1 := (BK4.out.below HW18.out).cell 1; have f4_1 := (BK4.out.below HW18.out).frozen 1; clear hg ib hb))
  clear MK
  clear c2_0 c2_1 f2_0 f2_1 c3_0 c3_1 f3_0 f3_1 c4_0 c4_1 f4_0 f4_1
  go_loopg [22] (a.length + 1) (fun gk v22 w' => ∃ i : Nat, i ≤ a.length ∧ a.length < gk + i ∧ v22 = .int .i64 i ∧ Hid (MulOut w4 w' g18 140 .u32 B32 a b (a.length + b.length) i v22))
  case atStart => exact ⟨0, Nat.zero_le _, by omega, rfl, _, rfl, ⟨IB18.out, by simp, Dg_replicate (by decide) _, HW18.out⟩, Zr_replicate _ _, by rw [V_replicate]; simp [V]⟩
  case round =>
    obtain ⟨i, hile, hgk, rfl, HM⟩ := hrel
    by_cases hi : i < a.length
    · obtain ⟨out, _, hm, hz, hV⟩ := HM
      have c2_0 := (BK2.out.below hm.bl).cell 0
      have f2_0 := (BK2.out.below hm.bl).frozen 0
      have c2_1 := (BK2.out.below hm.bl).cell 1
      have f2_1 := (BK2.out.below hm.bl).frozen 1
      have c3_0 := (BK3.out.below hm.bl).cell 0
      have f3_0 := (BK3.out.below hm.bl).frozen 0
      have c3_1 := (BK3.out.below hm.bl).cell 1
      have f3_1 := (BK3.out.below hm.bl).frozen 1
      have c4_0 := (BK4.out.below hm.bl).cell 0
      have f4_0 := (BK4.out.below hm.bl).frozen 0
      have c4_1 := (BK4.out.below hm.bl).cell 1
      have f4_1 := (BK4.out.below hm.bl).frozen 1
      obtain ⟨ad, rfl, ca1⟩ := (HA.out.below hm.bl).at_ i hi
      have ra : 0 ≤ rd a i ∧ rd a i < 4294967296 := Dg_rd FA.out.1 i hi
      generalize hx : rd a i = xv at *
      have HXV := Lib.hid hx
      have HH := Lib.hid (And.intro hm (And.intro hz hV))
      clear hx hm hz hV
      go_wp2_with fail
      clear c2_0 c2_1 f2_0 f2_1 c3_0 c3_1 f3_0 f3_1 c4_0 c4_1 f4_0 f4_1 ca1
      obtain ⟨wo, rfl⟩ : ∃ wo : World, wo = wr := ⟨_, rfl⟩
      obtain ⟨gi, rfl⟩ : ∃ g : Nat, g = gk := ⟨_, rfl⟩
      go_loopg [8, 30] (b.length + 1) (fun gj v8 v30 w' => ∃ (j : Nat) (c : Int), j ≤ b.length ∧ 0 ≤ c ∧ c < 4294967296 ∧ b.length < gj + j ∧ v8 = .int .u64 c ∧ v30 = .int .i64 j ∧ Hid (MulIn w4 w' g18 140 .u32 B32 a b (a.length + b.length) i j (i + b.length) c))
      case atStart =>
        obtain ⟨hm, hz, hV⟩ := HH.out
        exact ⟨0, 0, by omega, by omega, by omega, by omega, rfl, rfl, out, hm, hz, by omega, by decide, by simp [hV, V]⟩
      case round =>
        clear HH
        obtain ⟨j, c, hj, hc0, hc1, hgj, rfl, rfl, HI⟩ := hrel
        by_cases hjl : j < b.length
        · obtain ⟨out, hm, hz, _, _, hV⟩ := HI.out
          have hlen := hm.len
          have hcell := hm.ib.cell (i + j) (by omega)
          have hfr := hm.ib.frozen (i + j)
          have ro : 0 ≤ rd out ((i + j : Nat) : Int) ∧ rd out ((i + j : Nat) : Int) < 4294967296 := Dg_rd hm.dg (i + j) (by omega)
          have rb : 0 ≤ rd b j ∧ rd b j < 4294967296 := Dg_rd FC.out.1 j hjl
          obtain ⟨bd, rfl, cb1⟩ := (HC.out.below hm.bl).at_ j hjl
          have hp := mul_u32 ra rb
          generalize ho : rd out ((i + j : Nat) : Int) = ov at *
          generalize hbj : rd b (j : Int) = bj at *
          have HH := Lib.hid (And.intro ho (And.intro hbj (And.intro hm (And.intro hz hV))))
          have HL := Lib.hid hlen
          clear ho hbj hm hz hV hlen HI
          have hi0 : (0 : Int) ≤ (i : Int) := by omega
          have hi1 : (i : Int) < (a.length : Int) := by omega
          have hj0 : (0 : Int) ≤ (j : Int) := by omega
          have hj2 : (j : Int) < (b.length : Int) := by omega
          go_wp2_with fail
          obtain ⟨ho, hbj, hm, hz, hV⟩ := HH.out
          have hlen := HL.out
          go_roundg (gk - 1)
          case measure => omega
          case rel =>
            refine ⟨j + 1, (c + (xv * bj + ov)) / 4294967296, by omega, by omega, by omega, by omega, rfl, rfl, out.set (i + j) ((c + (xv * bj + ov)) % 4294967296), ⟨hm.ib.set_ _ _, by simpa using hlen, Dg_set32 hm.dg _ (by omega), hm.bl.setCell HG18.out _⟩, Zr_set hz (by omega), by omega, by show _ < (4294967296 : Int); omega, ?_⟩
            refine mul_inner hjl (by omega) ?_ hV
            rw [ho, HXV.out, hbj]
            omega
        · obtain rfl : j = b.length := by omega
          obtain ⟨out, hm, hz, _, _, hV⟩ := HI.out
          have hlen := hm.len
          have c2_0 := (BK2.out.below hm.bl).cell 0
          have f2_0 := (BK2.out.below hm.bl).frozen 0
          have c2_1 := (BK2.out.below hm.bl).cell 1
          have f2_1 := (BK2.out.below hm.bl).frozen 1
          have c3_0 := (BK3.out.below hm.bl).cell 0
          have f3_0 := (BK3.out.below hm.bl).frozen 0
          have c3_1 := (BK3.out.below hm.bl).cell 1
          have f3_1 := (BK3.out.below hm.bl).frozen 1
          have c4_0 := (BK4.out.below hm.bl).cell 0
          have f4_0 := (BK4.out.below hm.bl).frozen 0
          have c4_1 := (BK4.out.below hm.bl).cell 1
          have f4_1 := (BK4.out.below hm.bl).frozen 1
          have hcell := hm.ib.cell (i + b.length) (by omega)
          have hfr := hm.ib.frozen (i + b.length)
          have HH := Lib.hid (And.intro hm (And.intro hz hV))
          have HL := Lib.hid hlen
          clear hm hz hV hlen HI
          go_wp2_with fail
          obtain ⟨hm, hz, hV⟩ := HH.out
          have hlen := HL.out
          go_roundg (gi - 1)
          case measure => omega
          case rel =>
            have e1 : c % 4294967296 = c := by omega
            refine ⟨i + 1, by omega, by omega, rfl, out.set (i + b.length) c, rfl, ⟨hm.ib.set_ _ _, by simpa using hlen, Dg_set32 hm.dg _ (by omega), hm.bl.setCell HG18.out _⟩, Zr_set (Zr_mono hz (by omega)) (by omega), ?_⟩
            rw [List.take_length] at hV
            rw [mul_carry (by omega) hz hV, mul_outer hi]
    · obtain rfl : i = a.length := by omega
      obtain ⟨out, _, hm, hz, hV⟩ := HM
      have c2_0 := (BK2.out.below hm.bl).cell 0
      have f2_0 := (BK2.out.below hm.bl).frozen 0
      have c2_1 := (BK2.out.below hm.bl).cell 1
      have f2_1 := (BK2.out.below hm.bl).frozen 1
      have c3_0 := (BK3.out.below hm.bl).cell 0
      have f3_0 := (BK3.out.below hm.bl).frozen 0
      have c3_1 := (BK3.out.below hm.bl).cell 1
      have f3_1 := (BK3.out.below hm.bl).frozen 1
      have c4_0 := (BK4.out.below hm.bl).cell 0
      have f4_0 := (BK4.out.below hm.bl).frozen 0
      have c4_1 := (BK4.out.below hm.bl).cell 1
      have f4_1 := (BK4.out.below hm.bl).frozen 1
      have hMg := hm.ib.Mg (by have := hm.len; omega)
      rw [hm.len] at hMg
      rw [List.take_length] at hV
      have HH := Lib.hid (And.intro hMg (And.intro hm.dg (And.intro hV hm.bl)))
      clear hm hz hV hMg
      go_wp2_with fail
      refine (p_signed _ _ out _ HH.out.1 HH.out.2.1 (x * y) (by rw [HZ.out.1, HZ.out.2, sgn_mul32, HH.out.2.2.1]; rfl)).mono ?_
      rintro e u1 ⟨v1, rfl, h1, hb⟩
      have HV2 := Lib.hid h1
      obtain ⟨nr, Ar, kr, cr, rfl⟩ := h1.shape
      have BKr := Lib.hid (BK4.out.below (bth HH.out.2.2.2 hb))
      have HB' := Lib.hid (bth HB.out (bth HH.out.2.2.2 hb))
      clear h1 hb c2_0 c2_1 f2_0 f2_1 c3_0 c3_1 f3_0 f3_1 c4_0 c4_1 f4_0 f4_1
      have c4_0 := BKr.out.cell 0
      have c4_1 := BKr.out.cell 1
      have f4_0 := BKr.out.frozen 0
      have f4_1 := BKr.out.frozen 1
      go_wp2_with fail
      refine bodyPost_ret (results_cell_row rfl _ _ g4 27 #[.bool _, .slice Ar kr cr] (0, 0) _ rfl ((BKr.out.set_ 0 _).set_ 1 _) Tryz.underlying27 rfl (by kernel_rfl)) rfl ?_
      exact ⟨_, rfl, (HV2.out.kp (((Kp.refl _).box BKr.out (by decide) 0 _).box (BKr.out.set_ 0 _) (by decide) 1 _)), (HB'.out.setCell HG4.out _).setCell HG4.out _⟩
end Go.Proofs.YtapckjeedekphaaGreatDoor

namespace Go.Proofs.YtapckjeedekphaaGreatDoor
open Go.RowKit Go.Proofs.YtapckjeedekphaaGreatDoorW.PrintWords PR
theorem pow_pow (s : Nat) : ((2 ^ s : Nat) : Int) = (2 : Int) ^ s := by simp
theorem pow31 {s : Nat} (hs : s ≤ 31) : (0 : Int) < 2 ^ s ∧ (2 : Int) ^ s ≤ 2147483648 := by
  have h1 : 2 ^ s ≤ 2 ^ 31 := Nat.pow_le_pow_right (by decide) hs
  have h2 : 0 < 2 ^ s := Nat.pow_pos (by decide)
  rw [← pow_pow]
  omega
theorem shl32 {d : Int} {s : Nat} (hs : s ≤ 31) : shl .u32 d (s : Int) = (d * 2 ^ s) % 4294967296 := by
  unfold shl
  rw [IntKind.wrap_u32', show min ((s : Int).toNat) IntKind.u32.bits = s by simp [IntKind.bits]; omega]
theorem shl64 {d : Int} {s : Nat} (hd : 0 ≤ d ∧ d < 4294967296) (hs : s ≤ 31) : shl .u64 (IntKind.u64.wrap d) (s : Int) = d * 2 ^ s := by
  unfold shl
  rw [show min ((s : Int).toNat) IntKind.u64.bits = s by simp [IntKind.bits]; omega, u64in hd.1 (by omega)]
  have h := pow31 hs
  have h1 : d * 2 ^ s ≤ d * 2147483648 := Int.mul_le_mul_of_nonneg_left h.2 hd.1
  exact u64in (Int.mul_nonneg hd.1 (by omega)) (by omega)
/-- Low bits put to a shifted number. -/
theorem or_low {o d : Int} {s : Nat} (hs : s ≤ 31) (hd : 0 ≤ d ∧ d < 4294967296) (ho : 0 ≤ o ∧ o < 2 ^ s) : Go.bits .or .u32 o ((d * 2 ^ s) % 4294967296) = o + (d * 2 ^ s) % 4294967296 ∧ o + (d * 2 ^ s) % 4294967296 < 4294967296 := by
  obtain ⟨x, rfl⟩ := Int.eq_ofNat_of_zero_le hd.1
  obtain ⟨y, rfl⟩ := Int.eq_ofNat_of_zero_le ho.1
  have hy : y < 2 ^ s := by have := ho.2; rw [← pow_pow] at this; omega
  have e : ((x : Int) * 2 ^ s) % 4294967296 = ((x * 2 ^ s % 4294967296 : Nat) : Int) := by rw [← pow_pow]; simp
  have hp := pow31 hs
  rw [← pow_pow] at hp
  have hdv : (2 ^ s : Nat) ∣ 4294967296 := by
    have : (2 ^ s : Nat) ∣ 2 ^ 32 := Nat.pow_dvd_pow 2 (by omega)
    simpa using this
  have hm : (x * 2 ^ s % 4294967296) % 2 ^ s = 0 := by rw [Nat.mod_mod_of_dvd _ hdv, Nat.mul_mod_left]
  have hlt : x * 2 ^ s % 4294967296 < 4294967296 := Nat.mod_lt _ (by decide)
  have hz : x * 2 ^ s % 4294967296 + 2 ^ s ≤ 4294967296 := by
    obtain ⟨c, hc⟩ := hdv
    have h2 : 2 ^ s * (x * 2 ^ s % 4294967296 / 2 ^ s) = x * 2 ^ s % 4294967296 := by
      have := Nat.div_add_mod (x * 2 ^ s % 4294967296) (2 ^ s)
      omega
    have h3 : x * 2 ^ s % 4294967296 / 2 ^ s < c := by
      apply Nat.div_lt_of_lt_mul
      rw [← hc]; exact hlt
    have h4 : 2 ^ s * (x * 2 ^ s % 4294967296 / 2 ^ s + 1) ≤ 2 ^ s * c := Nat.mul_le_mul_left _ h3
    rw [Nat.mul_add, h2, ← hc] at h4
    omega
  rw [e, u32_or_nat _ _ (by omega) hlt, Nat.or_comm, nat_join s _ _ hm hy]
  omega
theorem raised_loop (l : List Int) (hl : l.length ≤ 1000000000) (hd : Dg 4294967296 l) (s : Nat) (hs : s ≤ 31) (m : Nat) : ∀ (i : Nat) (out : List Int) (k : Nat), i + m = l.length → out.length = l.length + 1 → Dg 4294967296 out → Zr out (i + 1) → rd out i < 2 ^ s →
    V 4294967296 out = V 4294967296 (l.take i) * 2 ^ s → m < k → ∃ r, integer_raised.l0 k s out l l.length i = some r ∧ r.length = l.length + 1 ∧ Dg 4294967296 r ∧ V 4294967296 r = V 4294967296 l * 2 ^ s := by
  induction m with
  | zero =>
    intro i out k hi ho hdo hz hr hV hk
    obtain ⟨k, rfl⟩ : ∃ k', k = k' + 1 := ⟨k - 1, by omega⟩
    refine ⟨out, ?_, ho, hdo, ?_⟩
    · simp only [integer_raised.l0]
      rw [if_neg (by omega)]
    · rw [hV, List.take_of_length_le (by omega)]
  | succ m ih =>
    intro i out k hi ho hdo hz hr hV hk
    obtain ⟨k, rfl⟩ : ∃ k', k = k' + 1 := ⟨k - 1, by omega⟩
    have d0 := Dg_rd hd i (by omega)
    have o0 := Dg_rd hdo i (by omega)
    have hp := pow31 hs
    have hor := or_low hs d0 ⟨o0.1, hr⟩
    have hq0 : 0 ≤ rd l i * 2 ^ s := Int.mul_nonneg d0.1 (by omega)
    have hq1 : rd l i * 2 ^ s / 4294967296 < 2 ^ s := by
      apply Int.ediv_lt_of_lt_mul (by decide)
      rw [Int.mul_comm]
      exact Int.mul_lt_mul_of_pos_left d0.2 (by omega)
    have hq2 : 0 ≤ rd l i * 2 ^ s / 4294967296 := Int.ediv_nonneg hq0 (by decide)
    have hmod : (rd l i * 2 ^ s) % 4294967296 + 4294967296 * (rd l i * 2 ^ s / 4294967296) = rd l i * 2 ^ s := Int.emod_add_mul_ediv _ _
    have hm0 : 0 ≤ (rd l i * 2 ^ s) % 4294967296 := Int.emod_nonneg _ (by decide)
    simp only [integer_raised.l0]
    rw [w64s i (by omega), if_pos (by omega), if_pos (by omega), if_pos (by omega), if_pos (by omega), if_pos (by omega), if_pos (by omega), if_pos (by omega), shl32 hs, shl64 d0 hs, hor.1]
    rw [show (rd l i * 2 ^ s / 4294967296) % 4294967296 = rd l i * 2 ^ s / 4294967296 from Int.emod_eq_of_lt hq2 (by omega), show ((i : Int)).toNat = i by omega, show (((i + 1 : Nat) : Int)).toNat = i + 1 by omega]
    have hz1 : Zr (out.set i (rd out i + rd l i * 2 ^ s % 4294967296)) (i + 1) := Zr_set hz (by omega)
    generalize hX : rd l i * 2 ^ s = X at *
    generalize hQ : X / 4294967296 = Q at *
    generalize hR : X % 4294967296 = R at *
    obtain ⟨r, h1, h2⟩ := ih (i + 1) ((out.set i (rd out i + R)).set (i + 1) Q) k (by omega) (by simpa using ho) (Dg_set (Dg_set hdo _ (by omega)) _ (by omega)) (Zr_set (Zr_mono hz1 (by omega)) (by omega)) (by rw [rd_set_self _ _ _ (by simp; omega)]; omega) (by
      rw [V_set_zero (by simp; omega) hz1, V_set _ _ _ _ (by omega), hV, V_take_succ _ _ _ (by omega), Int.add_mul, Int.pow_succ]
      have e : (4294967296 : Int) ^ i * (R + 4294967296 * Q) = 4294967296 ^ i * X := by rw [hmod]
      rw [← hX] at e
      grind) (by omega)
    exact ⟨r, h1, h2⟩
theorem raised_eq (l : List Int) (hl : l.length ≤ 1000000000) (hd : Dg 4294967296 l) (s : Nat) (hs : s ≤ 31) (k : Nat) (hk : l.length < k) : ∃ r, integer_raised.f k l s = some r ∧ r.length = l.length + 1 ∧ Dg 4294967296 r ∧ V 4294967296 r = V 4294967296 l * 2 ^ s := by
  obtain ⟨r, h1, h2⟩ := raised_loop l hl hd s hs l.length 0 (List.replicate (l.length + 1) 0) k (by omega) (by simp) (Dg_replicate (by decide) _) (Zr_replicate _ _) (by rw [Zr_replicate _ 0 0 (Nat.le_refl _) (by simp)]; exact (pow31 hs).1) (by rw [V_replicate]; simp [V]) hk
  refine ⟨r, ?_, h2⟩
  unfold integer_raised.f
  rw [w64s l.length hl, if_pos (by omega), if_pos (by omega), Int.toNat_natCast]
  exact h1
end Go.Proofs.YtapckjeedekphaaGreatDoor

namespace Go.Proofs.YtapckjeedekphaaGreatDoor
open Go.RowKit Go.Proofs.YtapckjeedekphaaGreatDoorW.PrintWords PR
theorem V_three (l : List Int) (m : Nat) (h : l.length = m + 3) (B : Int) : V B l = V B (l.take m) + B ^ m * (rd l (m : Int) + B * (rd l ((m + 1 : Nat) : Int) + B * rd l ((m + 2 : Nat) : Int))) := by
  rw [← V_take_over B l (m + 3) (by omega), V_take_succ _ _ _ (by omega), V_take_succ _ _ _ (by omega), V_take_succ _ _ _ (by omega), Int.pow_succ, Int.pow_succ]
  grind
theorem V_two (l : List Int) (m : Nat) (h : l.length = m + 2) (B : Int) : V B l = V B (l.take m) + B ^ m * (rd l (m : Int) + B * rd l ((m + 1 : Nat) : Int)) := by
  rw [← V_take_over B l (m + 2) (by omega), V_take_succ _ _ _ (by omega), V_take_succ _ _ _ (by omega), Int.pow_succ]
  grind
theorem V_take_range {B : Int} (hB : 0 < B) {l : List Int} (h : Dg B l) (m : Nat) (hm : m ≤ l.length) : 0 ≤ V B (l.take m) ∧ V B (l.take m) < B ^ m := by
  have h1 := V_lt hB (Dg_take h m)
  rw [List.length_take, Nat.min_eq_left hm] at h1
  exact ⟨V_nonneg hB (Dg_take h m), h1⟩
theorem kd_gt {B P q v1 v2 high rest u0 L Lv : Int} (hP : 0 < P) (hL : L < P) (hLv : 0 ≤ Lv) (hq : 0 ≤ q) (hh : high = q * v1 + rest) (hc : q * v2 > rest * B + u0) :
    L + P * (u0 + B * high) < q * (Lv + P * (v2 + B * v1)) := by
  have h1 : 0 ≤ q * Lv := Int.mul_nonneg hq hLv
  have h2 : P * (rest * B + u0 + 1) ≤ P * (q * v2) := Int.mul_le_mul_of_nonneg_left (by omega) (by omega)
  have h3 : L + P * (u0 + B * high) = L + P * (rest * B + u0) + P * B * (q * v1) := by rw [hh]; grind
  have h4 : q * (Lv + P * (v2 + B * v1)) = q * Lv + P * (q * v2) + P * B * (q * v1) := by grind
  rw [Int.mul_add, Int.mul_one] at h2
  omega
theorem kd_ge {B P q v1 v2 high u0 L Lv : Int} (hB : 0 < B) (hP : 0 < P) (hL : L < P) (hLv : 0 ≤ Lv) (hq : 0 ≤ q) (hv2 : 0 ≤ v2) (hu0 : u0 < B) (hh : high < (q + 1) * v1) :
    L + P * (u0 + B * high) < (q + 1) * (Lv + P * (v2 + B * v1)) := by
  have h1 : 0 ≤ (q + 1) * Lv := Int.mul_nonneg (by omega) hLv
  have h2 : 0 ≤ P * ((q + 1) * v2) := Int.mul_nonneg (by omega) (Int.mul_nonneg (by omega) hv2)
  have h3 : P * (u0 + 1 + B * high) ≤ P * (B * ((q + 1) * v1)) := by
    apply Int.mul_le_mul_of_nonneg_left _ (by omega)
    have : B * (high + 1) ≤ B * ((q + 1) * v1) := Int.mul_le_mul_of_nonneg_left (by omega) (by omega)
    rw [Int.mul_add, Int.mul_one] at this
    omega
  have h4 : P * (u0 + 1 + B * high) = P * (u0 + B * high) + P := by grind
  have h5 : (q + 1) * (Lv + P * (v2 + B * v1)) = (q + 1) * Lv + P * ((q + 1) * v2) + P * (B * ((q + 1) * v1)) := by grind
  omega
theorem kd_exit {B P q v1 v2 high rest u0 L Lv : Int} (hB : 0 < B) (hP : 0 < P) (hL : 0 ≤ L) (hLv : 0 ≤ Lv ∧ Lv < P) (hq : 0 ≤ q ∧ q < B) (hv1 : 0 < v1) (hv2 : 0 ≤ v2) (hh : high = q * v1 + rest) (hc : q * v2 ≤ rest * B + u0) :
    q * (Lv + P * (v2 + B * v1)) < (L + P * (u0 + B * high)) + (Lv + P * (v2 + B * v1)) := by
  have h1 : q * Lv ≤ B * P := Int.mul_le_mul (by omega) (by omega) hLv.1 (by omega)
  have h1' : q * Lv < P * B := by
    rcases Int.lt_or_le 0 q with h | h
    · have : q * Lv < q * P := Int.mul_lt_mul_of_pos_left hLv.2 h
      have h6 : q * P ≤ B * P := Int.mul_le_mul_of_nonneg_right (by omega) (by omega)
      rw [Int.mul_comm P B]; omega
    · have : q = 0 := by omega
      rw [this, Int.zero_mul]; exact Int.mul_pos hP hB
  have h2 : P * (q * v2) ≤ P * (rest * B + u0) := Int.mul_le_mul_of_nonneg_left hc (by omega)
  have h3 : P * (u0 + B * high) = P * (rest * B + u0) + P * B * (q * v1) := by rw [hh]; grind
  have h4 : q * (Lv + P * (v2 + B * v1)) = q * Lv + P * (q * v2) + P * B * (q * v1) := by grind
  have h5 : P * B * 1 ≤ P * B * v1 := Int.mul_le_mul_of_nonneg_left (by omega) (Int.le_of_lt (Int.mul_pos hP hB))
  have h6 : P * (v2 + B * v1) = P * v2 + P * B * v1 := by grind
  have h7 : 0 ≤ P * v2 := Int.mul_nonneg (by omega) hv2
  rw [Int.mul_one] at h5
  omega
/-- The step that subtracts. -/
theorem kd_sub {B P q c b d x t M W Q X : Int} (hX : X = c + q * d) (ht : t = x - b - X % B) (hBt : B * (-Q) + t % B = t) (hV : M = W + P * (c + b)) :
    M + P * (t % B - x) = (W - q * (P * d)) + P * B * (X / B + Q) := by
  have e : X % B + B * (X / B) = X := Int.emod_add_mul_ediv X B
  have e2 : t % B = t + B * Q := by rw [Int.mul_neg] at hBt; omega
  have e3 : P * (B * (X / B)) = P * X - P * (X % B) := by rw [← Int.mul_sub]; congr 1; omega
  rw [e2, hV, ht]
  have e4 : P * B * (X / B + Q) = P * (B * (X / B)) + P * (B * Q) := by grind
  have e5 : P * X = P * c + q * (P * d) := by rw [hX]; grind
  rw [e4, e3, e5]
  grind
end Go.Proofs.YtapckjeedekphaaGreatDoor

namespace Go.Proofs.YtapckjeedekphaaGreatDoor
open Go.RowKit Go.Proofs.YtapckjeedekphaaGreatDoorW.PrintWords PR
theorem pow_split {s : Nat} (hs : s ≤ 31) : (2 : Int) ^ s * 2 ^ (32 - s) = 4294967296 := by
  rw [← Int.pow_add, show s + (32 - s) = 32 by omega]; rfl
theorem low_digit {d p r : Int} {s : Nat} (hs : s ≤ 31) (hp : p = 2 ^ s) (hr : r = d % p) : (d * 4294967296 / p) % 4294967296 = 2 ^ (32 - s) * r ∧ 0 ≤ r ∧ r < p := by
  have hps := pow_split hs
  have h31 := pow31 hs
  rw [← hp] at hps h31
  have hq0 : (0 : Int) < 2 ^ (32 - s) := Int.pow_pos (by decide)
  have e1 : d * 4294967296 / p = d * 2 ^ (32 - s) := by
    rw [← hps, show d * (p * 2 ^ (32 - s)) = p * (d * 2 ^ (32 - s)) by grind, Int.mul_ediv_cancel_left _ (by omega)]
  have e2 : d = p * (d / p) + r := by have := Int.emod_add_mul_ediv d p; omega
  have hr0 : 0 ≤ r := by rw [hr]; exact Int.emod_nonneg _ (by omega)
  have hr1 : r < p := by rw [hr]; exact Int.emod_lt_of_pos _ h31.1
  have e3 : d * 2 ^ (32 - s) = 2 ^ (32 - s) * r + 4294967296 * (d / p) := by
    rw [← hps]
    have : d * 2 ^ (32 - s) = (p * (d / p) + r) * 2 ^ (32 - s) := by rw [← e2]
    grind
  have h4 : 2 ^ (32 - s) * r < 2 ^ (32 - s) * p := Int.mul_lt_mul_of_pos_left hr1 hq0
  have h5 : (2 : Int) ^ (32 - s) * p = 4294967296 := by rw [Int.mul_comm]; exact hps
  refine ⟨?_, hr0, hr1⟩
  rw [e1, e3, Int.add_mul_emod_self_left]
  exact Int.emod_eq_of_lt (Int.mul_nonneg (by omega) hr0) (by omega)
/-- The digits of both parts do not meet. -/
theorem or_high {a r p : Int} {s : Nat} (hs : s ≤ 31) (hp : p = 2 ^ s) (ha : 0 ≤ a ∧ a < 4294967296) (hr : 0 ≤ r ∧ r < p) : Go.bits .or .u32 (a / p) (2 ^ (32 - s) * r) = a / p + 2 ^ (32 - s) * r ∧ 0 ≤ a / p + 2 ^ (32 - s) * r ∧ a / p + 2 ^ (32 - s) * r < 4294967296 ∧ 0 ≤ a / p ∧ a / p < 4294967296 := by
  have hps := pow_split hs
  have h31 := pow31 hs
  rw [← hp] at hps h31
  have hq0 : (0 : Int) < 2 ^ (32 - s) := Int.pow_pos (by decide)
  have h1 : 0 ≤ a / p := Int.ediv_nonneg ha.1 (by omega)
  have h2 : a / p < 2 ^ (32 - s) := Int.ediv_lt_of_lt_mul h31.1 (by rw [Int.mul_comm, hps]; exact ha.2)
  have h3 : 2 ^ (32 - s) * r + 2 ^ (32 - s) ≤ 4294967296 := by
    have : 2 ^ (32 - s) * (r + 1) ≤ 2 ^ (32 - s) * p := Int.mul_le_mul_of_nonneg_left (by omega) (by omega)
    rw [Int.mul_add, Int.mul_one, Int.mul_comm _ p, hps] at this
    exact this
  have h4 : 0 ≤ 2 ^ (32 - s) * r := Int.mul_nonneg (by omega) hr.1
  refine ⟨?_, by omega, by omega, h1, by omega⟩
  obtain ⟨x, hx⟩ := Int.eq_ofNat_of_zero_le h1
  obtain ⟨y, rfl⟩ := Int.eq_ofNat_of_zero_le hr.1
  have e : (2 : Int) ^ (32 - s) * (y : Int) = ((2 ^ (32 - s) * y : Nat) : Int) := by simp
  have h2n : x < 2 ^ (32 - s) := by
    have := h2
    rw [hx, ← pow_pow] at this
    omega
  have h3n : 2 ^ (32 - s) * y + 2 ^ (32 - s) ≤ 4294967296 := by
    have := h3
    rw [e, ← pow_pow] at this
    omega
  have hpn : 0 < 2 ^ (32 - s) := Nat.pow_pos (by decide)
  rw [hx, e, u32_or_nat x (2 ^ (32 - s) * y) (by omega) (by omega), Nat.or_comm, nat_join (32 - s) _ _ (by simp) h2n]
  omega
def lowR (l : List Int) (i : Nat) (p : Int) : Int := at0 l i % p
theorem lowered_step {l out : List Int} {i : Nat} {p v q : Int} (hq : p * q = 4294967296) (hi : i < l.length) (ho : out.length = l.length) (hv : v = rd l i / p + q * lowR l (i + 1) p)
    (hV : p * V 4294967296 (out.take i) = V 4294967296 (l.take i) - lowR l 0 p + 4294967296 ^ i * lowR l i p) :
    p * V 4294967296 ((out.set i v).take (i + 1)) = V 4294967296 (l.take (i + 1)) - lowR l 0 p + 4294967296 ^ (i + 1) * lowR l (i + 1) p := by
  have e1 : (out.set i v).take (i + 1) = out.take i ++ [v] := by
    rw [take_rd _ _ (by simp; omega), rd_set_self _ _ _ (by omega), List.take_set_of_le (by omega)]
  have e2 : lowR l i p = rd l i % p := by unfold lowR at0; rw [if_pos hi]
  have e3 := Int.emod_add_mul_ediv (rd l i) p
  rw [e1, V_snoc, List.length_take, Nat.min_eq_left (by omega), V_take_succ _ _ _ hi, Int.pow_succ, Int.mul_add, hV, e2, hv]
  have e4 : p * (4294967296 ^ i * (rd l ↑i / p + q * lowR l (i + 1) p)) = 4294967296 ^ i * (p * (rd l ↑i / p)) + 4294967296 ^ i * (p * q) * lowR l (i + 1) p := by grind
  rw [e4, hq, show p * (rd l ↑i / p) = rd l i - rd l i % p by omega]
  grind
theorem lowR_end (l : List Int) (p : Int) : lowR l l.length p = 0 := by unfold lowR at0; rw [if_neg (by omega)]; simp
theorem lowR_start {l : List Int} {p q x : Int} (hq : p * q = 4294967296) (h : V 4294967296 l = x * p) : lowR l 0 p = 0 := by
  unfold lowR at0
  cases l with
  | nil => simp
  | cons a m =>
    rw [if_pos (by simp)]
    have e : rd (a :: m) ((0 : Nat) : Int) = a := by simp [rd]
    rw [e]
    rw [show V 4294967296 (a :: m) = a + 4294967296 * V 4294967296 m from rfl, ← hq] at h
    have : a = p * (x - q * V (p * q) m) := by grind
    rw [this]
    exact Int.mul_emod_right _ _
theorem lowered_end {l out : List Int} {p q x : Int} (hp : 0 < p) (hq : p * q = 4294967296) (ho : out.length = l.length) (h : V 4294967296 l = x * p)
    (hV : p * V 4294967296 (out.take l.length) = V 4294967296 (l.take l.length) - lowR l 0 p + 4294967296 ^ l.length * lowR l l.length p) : V 4294967296 out = x := by
  rw [lowR_end, lowR_start hq h, List.take_length, ← ho, List.take_length, h] at hV
  have : p * V 4294967296 out = p * x := by rw [hV]; grind
  exact Int.eq_of_mul_eq_mul_left (by omega) this
end Go.Proofs.YtapckjeedekphaaGreatDoor

namespace Go.Proofs.YtapckjeedekphaaGreatDoor
open Go.RowKit Go.Proofs.YtapckjeedekphaaGreatDoorW.PrintWords PR
theorem norm_shift {x : Int} (h0 : 0 < x) (h1 : x < 4294967296) : ∃ s : Nat, s ≤ 31 ∧ (32 - (Lib.bitLen x.toNat : Int)) = (s : Int) ∧ 2147483648 ≤ x * 2 ^ s ∧ (x + 1) * 2 ^ s ≤ 4294967296 := by
  obtain ⟨n, rfl⟩ := Int.eq_ofNat_of_zero_le (Int.le_of_lt h0)
  have hn : n < 4294967296 := by omega
  obtain ⟨a, b, c⟩ := Lib.bitLenAux_bounds 64 n (by omega) (by omega)
  have hL : Lib.bitLen n ≤ 32 := Lib.bitLen_le n 32 (by decide) (by omega)
  have e : Lib.bitLen n = Lib.bitLenAux 64 n := rfl
  rw [← e] at a b c
  rw [Int.toNat_natCast]
  generalize Lib.bitLen n = L at a b c hL
  refine ⟨32 - L, by omega, by omega, ?_, ?_⟩
  · have h : 2 ^ (L - 1) * 2 ^ (32 - L) = 2 ^ 31 := by rw [← Nat.pow_add]; congr 1; omega
    have h2 : 2 ^ (L - 1) * 2 ^ (32 - L) ≤ n * 2 ^ (32 - L) := Nat.mul_le_mul_right _ b
    rw [h] at h2
    have h3 : ((2 ^ 31 : Nat) : Int) ≤ ((n * 2 ^ (32 - L) : Nat) : Int) := by exact_mod_cast h2
    rw [← pow_pow]
    simpa using h3
  · have h : 2 ^ L * 2 ^ (32 - L) = 2 ^ 32 := by rw [← Nat.pow_add]; congr 1; omega
    have h2 : (n + 1) * 2 ^ (32 - L) ≤ 2 ^ L * 2 ^ (32 - L) := Nat.mul_le_mul_right _ c
    rw [h] at h2
    have h3 : (((n + 1) * 2 ^ (32 - L) : Nat) : Int) ≤ ((2 ^ 32 : Nat) : Int) := by exact_mod_cast h2
    rw [← pow_pow]
    simpa using h3
theorem norm_value {b : List Int} {m s : Nat} (hl : b.length = m + 1) (hd : Dg 4294967296 b) (h1 : 2147483648 ≤ rd b (m : Int) * 2 ^ s) (h2 : (rd b (m : Int) + 1) * 2 ^ s ≤ 4294967296) :
    2147483648 * 4294967296 ^ m ≤ V 4294967296 b * 2 ^ s ∧ V 4294967296 b * 2 ^ s < 4294967296 ^ (m + 1) := by
  have e : V 4294967296 b = V 4294967296 (b.take m) + 4294967296 ^ m * rd b (m : Int) := by rw [← V_take_over 4294967296 b (m + 1) (by omega), V_take_succ _ _ _ (by omega)]
  have hr := V_take_range (B := 4294967296) (by decide) hd m (by omega)
  have hs : (0 : Int) < 2 ^ s := Int.pow_pos (by decide)
  have hP : (0 : Int) < 4294967296 ^ m := Int.pow_pos (by decide)
  rw [e, Int.pow_succ]
  generalize V 4294967296 (b.take m) = low at *
  generalize rd b (m : Int) = t at *
  generalize (4294967296 : Int) ^ m = P at *
  generalize (2 : Int) ^ s = S at *
  have a1 : 0 ≤ low * S := Int.mul_nonneg hr.1 (by omega)
  have a2 : P * 2147483648 ≤ P * (t * S) := Int.mul_le_mul_of_nonneg_left h1 (by omega)
  have a3 : low * S < P * S := Int.mul_lt_mul_of_pos_right hr.2 hs
  have a4 : P * ((t + 1) * S) ≤ P * 4294967296 := Int.mul_le_mul_of_nonneg_left h2 (by omega)
  have a5 : (low + P * t) * S = low * S + P * (t * S) := by grind
  have a6 : P * ((t + 1) * S) = P * (t * S) + P * S := by grind
  omega
theorem norm_len {r : List Int} {m : Nat} (hd : Dg 4294967296 r) (ht : Tr r) (h1 : 2147483648 * 4294967296 ^ m ≤ V 4294967296 r) (h2 : V 4294967296 r < 4294967296 ^ (m + 1)) : r.length = m + 1 ∧ 2147483648 ≤ rd r (m : Int) := by
  have hP : (0 : Int) < 4294967296 ^ m := Int.pow_pos (by decide)
  have hne : r ≠ [] := by
    intro e
    rw [e] at h1
    simp [V] at h1
    omega
  have h3 := V_lt (B := 4294967296) (by decide) hd
  have h4 := V_ge (B := 4294967296) (by decide) hd ht hne
  have hl : r.length = m + 1 := by
    rcases Nat.lt_trichotomy r.length (m + 1) with h | h | h
    · have : (4294967296 : Int) ^ r.length ≤ 4294967296 ^ m := pow_le' (by decide) (by omega)
      omega
    · exact h
    · have : (4294967296 : Int) ^ (m + 1) ≤ 4294967296 ^ (r.length - 1) := pow_le' (by decide) (by omega)
      omega
  refine ⟨hl, ?_⟩
  have e : V 4294967296 r = V 4294967296 (r.take m) + 4294967296 ^ m * rd r (m : Int) := by rw [← V_take_over 4294967296 r (m + 1) (by omega), V_take_succ _ _ _ (by omega)]
  have hr := V_take_range (B := 4294967296) (by decide) hd m (by omega)
  rw [e] at h1
  have : 4294967296 ^ m * 2147483648 < 4294967296 ^ m * (rd r (m : Int) + 1) := by
    rw [Int.mul_add, Int.mul_one, Int.mul_comm _ 2147483648]; omega
  have := Int.lt_of_mul_lt_mul_left this (by omega)
  omega
theorem V_win (pre mid post : List Int) (B : Int) : V B (pre ++ mid ++ post) = V B pre + B ^ pre.length * (V B mid + B ^ mid.length * V B post) := by
  rw [V_append, V_append, List.length_append, Int.pow_add]; grind
theorem div_start {a b : List Int} {K m : Nat} {S : Int} (hl : a.length = K + m) (hd : Dg 4294967296 a) (hb : (4294967296 : Int) ^ m ≤ V 4294967296 b) (hS : 0 < S) : V 4294967296 a * S < 4294967296 ^ K * (V 4294967296 b * S) := by
  have h1 := V_lt (B := 4294967296) (by decide) hd
  rw [hl, Int.pow_add] at h1
  have h2 : (4294967296 : Int) ^ K * 4294967296 ^ m ≤ 4294967296 ^ K * V 4294967296 b := Int.mul_le_mul_of_nonneg_left hb (Int.le_of_lt (Int.pow_pos (by decide)))
  have h3 : V 4294967296 a * S < (4294967296 ^ K * V 4294967296 b) * S := Int.mul_lt_mul_of_pos_right (by omega) hS
  rw [Int.mul_assoc] at h3
  exact h3
theorem div_pre {pre mid post vs : List Int} {n : Nat} (hl : mid.length = n + 1) (hv : vs.length = n) (dp : Dg 4294967296 pre) (dm : Dg 4294967296 mid) (dq : Dg 4294967296 post) (dv : Dg 4294967296 vs)
    (h : V 4294967296 (pre ++ mid ++ post) < 4294967296 ^ (pre.length + 1) * V 4294967296 vs) : V 4294967296 mid < 4294967296 * V 4294967296 vs ∧ V 4294967296 post = 0 := by
  rw [V_win, hl, Int.pow_succ] at h
  have h0 := V_nonneg (B := 4294967296) (by decide) dp
  have h1 := V_nonneg (B := 4294967296) (by decide) dm
  have h2 := V_nonneg (B := 4294967296) (by decide) dq
  have h3 := V_lt (B := 4294967296) (by decide) dv
  rw [hv] at h3
  have hP : (0 : Int) < 4294967296 ^ pre.length := Int.pow_pos (by decide)
  have hN : (0 : Int) < 4294967296 ^ n := Int.pow_pos (by decide)
  rw [Int.pow_succ] at h
  generalize (4294967296 : Int) ^ pre.length = P at *
  generalize (4294967296 : Int) ^ n = N at *
  have h4 : P * (V 4294967296 mid + N * 4294967296 * V 4294967296 post) < P * (4294967296 * V 4294967296 vs) := by
    have : P * 4294967296 * V 4294967296 vs = P * (4294967296 * V 4294967296 vs) := by grind
    omega
  have h5 := Int.lt_of_mul_lt_mul_left h4 (by omega)
  have h6 : 0 ≤ N * 4294967296 * V 4294967296 post := Int.mul_nonneg (by omega) h2
  refine ⟨by omega, ?_⟩
  rcases Int.lt_or_le 0 (V 4294967296 post) with h7 | h7
  · have : N * 4294967296 * 1 ≤ N * 4294967296 * V 4294967296 post := Int.mul_le_mul_of_nonneg_left h7 (by omega)
    omega
  · omega
theorem div_post {pre mid mid' post vs : List Int} {q : Int} (_ : mid'.length = mid.length) (dp : Dg 4294967296 pre) (h0 : V 4294967296 post = 0) (hq : V 4294967296 mid = q * V 4294967296 vs + V 4294967296 mid') (hlt : V 4294967296 mid' < V 4294967296 vs) :
    V 4294967296 (pre ++ mid' ++ post) = V 4294967296 (pre ++ mid ++ post) - 4294967296 ^ pre.length * q * V 4294967296 vs ∧ V 4294967296 (pre ++ mid' ++ post) < 4294967296 ^ pre.length * V 4294967296 vs := by
  have h1 := V_lt (B := 4294967296) (by decide) dp
  rw [V_win, V_win, h0, hq]
  have hP : (0 : Int) < 4294967296 ^ pre.length := Int.pow_pos (by decide)
  have h2 : (4294967296 : Int) ^ pre.length * (V 4294967296 mid' + 1) ≤ 4294967296 ^ pre.length * V 4294967296 vs := Int.mul_le_mul_of_nonneg_left (by omega) (by omega)
  rw [Int.mul_add, Int.mul_one] at h2
  simp only [Int.mul_zero, Int.add_zero]
  exact ⟨by grind, by omega⟩
theorem div_end {a b S u Q : Int} (hS : 0 < S) (h : a * S = u + (b * S) * Q) (h0 : 0 ≤ u) (h1 : u < b * S) : u = (a - b * Q) * S ∧ a / b = Q ∧ a % b = a - b * Q := by
  have e : u = (a - b * Q) * S := by
    have : (b * S) * Q = (b * Q) * S := by grind
    rw [Int.sub_mul]; omega
  rw [e] at h0 h1
  have g0 : 0 ≤ a - b * Q := by
    rcases Int.lt_or_le (a - b * Q) 0 with h | h
    · have := Int.mul_neg_of_neg_of_pos h hS; omega
    · exact h
  have g1 : a - b * Q < b := Int.lt_of_mul_lt_mul_right h1 (by omega)
  refine ⟨e, ?_, ?_⟩
  · rw [show a = (a - b * Q) + b * Q by omega, Int.add_mul_ediv_left _ _ (by omega), Int.ediv_eq_zero_of_lt g0 g1]
    omega
  · have e2 : a % b = ((a - b * Q) + b * Q) % b := by rw [show (a - b * Q) + b * Q = a by omega]
    rw [e2, Int.add_mul_emod_self_left, Int.emod_eq_of_lt g0 g1]
theorem Tr_top {l : List Int} {m : Nat} (hl : l.length = m + 1) (ht : Tr l) : rd l (m : Int) ≠ 0 := by
  rcases ht with e | ⟨k, x, e, hx⟩
  · rw [e] at hl; simp at hl
  · have hk : k.length = m := by
      rw [e] at hl
      simpa using hl
    rw [rd_nat _ _ (by omega)]
    subst hk
    simpa [e] using hx
end Go.Proofs.YtapckjeedekphaaGreatDoor

namespace Go.Proofs
open Go.Shelf
def Tryz.lays156_ren : Go.Shelf.Ren := ⟨fun | 156 => 135 | 165 => 172 | 166 => 173 | 169 => 175 | 240 => 197 | 241 => 198 | 276 => 218 | 277 => 219 | n => n, fun | 31 => 95 | 9 => 9 | 3 => 3 | 4 => 4 | 0 => 0 | 20 => 20 | 72 => 180 | 76 => 182 | 70 => 178 | 37 => 43 | 75 => 143 | 127 => 200 | 164 => 219 | 5 => 5 | 80 => 39 | n => n, fun | n => n⟩

theorem Tryz.lays156 : Go.Proofs.Lays.n156 Tryz.prog Tryz.lays156_ren := {
  mixed := by kernel_rfl
  f156 := Tryz.func135.trans (congrArg some (by kernel_rfl))
  f165 := Tryz.func172.trans (congrArg some (by kernel_rfl))
  f166 := Tryz.func173.trans (congrArg some (by kernel_rfl))
  f169 := Tryz.func175.trans (congrArg some (by kernel_rfl))
  f240 := Tryz.func197.trans (congrArg some (by kernel_rfl))
  f241 := Tryz.func198.trans (congrArg some (by kernel_rfl))
  f276 := Tryz.func218.trans (congrArg some (by kernel_rfl))
  f277 := Tryz.func219.trans (congrArg some (by kernel_rfl))
  t0 := Tryz.underlying0
  a0 := Tryz.isAgg0
  z0 := Tryz.sizeOf0
  v0 := Tryz.zeroValue0
  t3 := Tryz.underlying3
  a3 := Tryz.isAgg3
  z3 := Tryz.sizeOf3
  v3 := Tryz.zeroValue3
  t4 := Tryz.underlying4
  a4 := Tryz.isAgg4
  z4 := Tryz.sizeOf4
  v4 := Tryz.zeroValue4
  t9 := Tryz.underlying9
  a9 := Tryz.isAgg9
  z9 := Tryz.sizeOf9
  v9 := Tryz.zeroValue9
  t20 := Tryz.underlying20
  a20 := Tryz.isAgg20
  z20 := Tryz.sizeOf20
  v20 := Tryz.zeroValue20
  t31 := Tryz.underlying95
  a31 := Tryz.isAgg95
  z31 := Tryz.sizeOf95
  v31 := Tryz.zeroValue95
  t37 := Tryz.underlying43
  a37 := Tryz.isAgg43
  z37 := Tryz.sizeOf43
  v37 := Tryz.zeroValue43
  t70 := Tryz.underlying178
  a70 := Tryz.isAgg178
  z70 := Tryz.sizeOf178
  v70 := Tryz.zeroValue178
  t72 := Tryz.underlying180
  a72 := Tryz.isAgg180
  z72 := Tryz.sizeOf180
  v72 := Tryz.zeroValue180
  t75 := Tryz.underlying143
  a75 := Tryz.isAgg143
  z75 := Tryz.sizeOf143
  v75 := Tryz.zeroValue143
  t76 := Tryz.underlying182
  a76 := Tryz.isAgg182
  z76 := Tryz.sizeOf182
  v76 := Tryz.zeroValue182
  t127 := Tryz.underlying200
  a127 := Tryz.isAgg200
  z127 := Tryz.sizeOf200
  v127 := Tryz.zeroValue200
  t164 := Tryz.underlying219
  a164 := Tryz.isAgg219
  z164 := Tryz.sizeOf219
  v164 := Tryz.zeroValue219 }

theorem Tryz.Builder_Extra_156 : Builder.Extra Tryz.prog Tryz.lays156_ren := {
  sizeBuilder := by kernel_rfl
  liesBuilder := by kernel_rfl
  t5 := Tryz.underlying5
  a5 := Tryz.isAgg5
  z5 := Tryz.sizeOf5
  v5 := Tryz.zeroValue5
  infoByte := by kernel_rfl
  cellsByte := by kernel_rfl
  sizeByte := by kernel_rfl
  neB5 := by decide }

open Go.RowKit in
theorem Tryz.strings_Join (bk o c : Nat) (xs : List ByteArray) (sep : ByteArray) (w : World) (hcells : ∀ (j : Nat) x, xs[j]? = some x → w.cell? ⟨bk, o + j, none⟩ = some (.string x)) (hbk : bk < w.heap.size) (hN : xs.length ≤ 140737488355328) (hcap : xs.length ≤ c) (hlen : (Lib.join (xs.map (·.data.toList)) sep.data.toList).length ≤ 140737488355328) :
    Calls Tryz.prog 135 #[.slice (some ⟨bk, o, none⟩) xs.length c, .string sep] w fun e w' => e = .returned (.string ⟨(Lib.join (xs.map (·.data.toList)) sep.data.toList).toArray⟩) ∧ Below w.heap.size w w' := Any.strings_Join Tryz.lays156 Tryz.Builder_Extra_156 bk o c xs sep w hcells hbk hN hcap hlen

def Tryz.lays133_ren : Go.Shelf.Ren := ⟨fun | 133 => 208 | 128 => 225 | n => n, fun | 51 => 140 | 3 => 3 | 4 => 4 | 46 => 160 | 5 => 5 | 9 => 9 | n => n, fun | n => n⟩

theorem Tryz.lays133 : Go.Proofs.Lays.n133 Tryz.prog Tryz.lays133_ren := {
  mixed := by kernel_rfl
  f128 := Tryz.func225.trans (congrArg some (by kernel_rfl))
  f133 := Tryz.func208.trans (congrArg some (by kernel_rfl))
  t3 := Tryz.underlying3
  a3 := Tryz.isAgg3
  z3 := Tryz.sizeOf3
  v3 := Tryz.zeroValue3
  t4 := Tryz.underlying4
  a4 := Tryz.isAgg4
  z4 := Tryz.sizeOf4
  v4 := Tryz.zeroValue4
  t5 := Tryz.underlying5
  a5 := Tryz.isAgg5
  z5 := Tryz.sizeOf5
  v5 := Tryz.zeroValue5
  t9 := Tryz.underlying9
  a9 := Tryz.isAgg9
  z9 := Tryz.sizeOf9
  v9 := Tryz.zeroValue9
  t46 := Tryz.underlying160
  a46 := Tryz.isAgg160
  z46 := Tryz.sizeOf160
  v46 := Tryz.zeroValue160
  t51 := Tryz.underlying140
  a51 := Tryz.isAgg140
  z51 := Tryz.sizeOf140
  v51 := Tryz.zeroValue140 }

theorem Tryz.bits_LeadingZeros32 (x : Int) (w : World) (h0 : 0 ≤ x) (h1 : x ≤ 4294967295) :
    Calls Tryz.prog 208 #[.int .u32 x] w fun e w' => e = .returned (.int .i64 (32 - (Lib.bitLen x.toNat : Int))) ∧ w' = w := Any.bits_LeadingZeros32 Tryz.lays133 x w h0 h1

def Tryz.lays103_ren : Go.Shelf.Ren := ⟨fun | 103 => 118 | 210 => 161 | 206 => 186 | n => n, fun | 9 => 9 | 4 => 4 | 24 => 136 | 3 => 3 | n => n, fun | n => n⟩

theorem Tryz.lays103 : Go.Proofs.Lays.n103 Tryz.prog Tryz.lays103_ren := {
  mixed := by kernel_rfl
  f103 := Tryz.func118.trans (congrArg some (by kernel_rfl))
  f206 := Tryz.func186.trans (congrArg some (by kernel_rfl))
  f210 := Tryz.func161.trans (congrArg some (by kernel_rfl))
  t3 := Tryz.underlying3
  a3 := Tryz.isAgg3
  z3 := Tryz.sizeOf3
  v3 := Tryz.zeroValue3
  t4 := Tryz.underlying4
  a4 := Tryz.isAgg4
  z4 := Tryz.sizeOf4
  v4 := Tryz.zeroValue4
  t9 := Tryz.underlying9
  a9 := Tryz.isAgg9
  z9 := Tryz.sizeOf9
  v9 := Tryz.zeroValue9
  t24 := Tryz.underlying136
  a24 := Tryz.isAgg136
  z24 := Tryz.sizeOf136
  v24 := Tryz.zeroValue136 }

open Go.RowKit in
theorem Tryz.strings_CutPrefix (s p : ByteArray) (w : World) :
    Calls Tryz.prog 118 #[.string s, .string p] w fun e w' => e = .returned (.tuple #[.string ⟨(Lib.trimPrefix s.data.toList p.data.toList).toArray⟩, .bool (Lib.hasPrefix s.data.toList p.data.toList)]) ∧ w' = w := Any.strings_CutPrefix Tryz.lays103 s p w

def Tryz.laysM171_ren : Go.Shelf.Ren := ⟨fun | 171 => 132 | 243 => 169 | 246 => 194 | 283 => 214 | 284 => 215 | 285 => 216 | 286 => 217 | 129 => 228 | 317 => 227 | 318 => 229 | 319 => 230 | 320 => 231 | 337 => 239 | 338 => 240 | n => n, fun | 3 => 3 | 9 => 9 | 2 => 2 | 4 => 4 | 171 => 214 | 0 => 0 | 53 => 141 | 37 => 43 | 5 => 5 | 173 => 217 | 212 => 231 | 51 => 140 | 20 => 20 | 213 => 232 | 46 => 160 | 232 => 242 | 233 => 243 | n => n, fun | 17 => 2 | 18 => 6 | 19 => 7 | n => n⟩

theorem Tryz.laysM171 : Go.Proofs.LaysM.n171 Tryz.prog Tryz.laysM171_ren := {
  mixed := by kernel_rfl
  f129 := Tryz.func228.trans (congrArg some (by kernel_rfl))
  f171 := Tryz.func132.trans (congrArg some (by kernel_rfl))
  f243 := Tryz.func169.trans (congrArg some (by kernel_rfl))
  f246 := Tryz.func194.trans (congrArg some (by kernel_rfl))
  f283 := Tryz.func214.trans (congrArg some (by kernel_rfl))
  f284 := Tryz.func215.trans (congrArg some (by kernel_rfl))
  f285 := Tryz.func216.trans (congrArg some (by kernel_rfl))
  f286 := Tryz.func217.trans (congrArg some (by kernel_rfl))
  f317 := Tryz.func227.trans (congrArg some (by kernel_rfl))
  f318 := Tryz.func229.trans (congrArg some (by kernel_rfl))
  f319 := Tryz.func230.trans (congrArg some (by kernel_rfl))
  f320 := Tryz.func231.trans (congrArg some (by kernel_rfl))
  f337 := Tryz.func239.trans (congrArg some (by kernel_rfl))
  f338 := Tryz.func240.trans (congrArg some (by kernel_rfl))
  t0 := Tryz.underlying0
  a0 := Tryz.isAgg0
  z0 := Tryz.sizeOf0
  v0 := Tryz.zeroValue0
  t2 := Tryz.underlying2
  a2 := Tryz.isAgg2
  z2 := Tryz.sizeOf2
  v2 := Tryz.zeroValue2
  t3 := Tryz.underlying3
  a3 := Tryz.isAgg3
  z3 := Tryz.sizeOf3
  v3 := Tryz.zeroValue3
  t4 := Tryz.underlying4
  a4 := Tryz.isAgg4
  z4 := Tryz.sizeOf4
  v4 := Tryz.zeroValue4
  t5 := Tryz.underlying5
  a5 := Tryz.isAgg5
  z5 := Tryz.sizeOf5
  v5 := Tryz.zeroValue5
  t9 := Tryz.underlying9
  a9 := Tryz.isAgg9
  z9 := Tryz.sizeOf9
  v9 := Tryz.zeroValue9
  t20 := Tryz.underlying20
  a20 := Tryz.isAgg20
  z20 := Tryz.sizeOf20
  v20 := Tryz.zeroValue20
  t37 := Tryz.underlying43
  a37 := Tryz.isAgg43
  z37 := Tryz.sizeOf43
  v37 := Tryz.zeroValue43
  t46 := Tryz.underlying160
  a46 := Tryz.isAgg160
  z46 := Tryz.sizeOf160
  v46 := Tryz.zeroValue160
  t51 := Tryz.underlying140
  a51 := Tryz.isAgg140
  z51 := Tryz.sizeOf140
  v51 := Tryz.zeroValue140
  t53 := Tryz.underlying141
  a53 := Tryz.isAgg141
  z53 := Tryz.sizeOf141
  v53 := Tryz.zeroValue141
  t171 := Tryz.underlying214
  a171 := Tryz.isAgg214
  z171 := Tryz.sizeOf214
  v171 := Tryz.zeroValue214
  t173 := Tryz.underlying217
  a173 := Tryz.isAgg217
  z173 := Tryz.sizeOf217
  v173 := Tryz.zeroValue217
  t212 := Tryz.underlying231
  a212 := Tryz.isAgg231
  z212 := Tryz.sizeOf231
  v212 := Tryz.zeroValue231
  t213 := Tryz.underlying232
  a213 := Tryz.isAgg232
  z213 := Tryz.sizeOf232
  t232 := Tryz.underlying242
  a232 := Tryz.isAgg242
  z232 := Tryz.sizeOf242
  v232 := Tryz.zeroValue242
  t233 := Tryz.underlying243
  a233 := Tryz.isAgg243
  z233 := Tryz.sizeOf243
  v233 := Tryz.zeroValue243
  g17 := by kernel_rfl
  g18 := by kernel_rfl
  g19 := by kernel_rfl
  i0 := by kernel_rfl
  i2 := by kernel_rfl
  i3 := by kernel_rfl
  i4 := by kernel_rfl
  i5 := by kernel_rfl
  i9 := by kernel_rfl
  i20 := by kernel_rfl
  i37 := by kernel_rfl
  i46 := by kernel_rfl
  i51 := by kernel_rfl
  i53 := by kernel_rfl
  i171 := by kernel_rfl
  i173 := by kernel_rfl
  i212 := by kernel_rfl
  i232 := by kernel_rfl
  i233 := by kernel_rfl
  m17 := by kernel_rfl
  m18 := by kernel_rfl
  m19 := by kernel_rfl }

open Go.RowKit Go.Sort Go.Lib in
theorem Tryz.strconv_Itoa (n : Int) (h0 : -9223372036854775808 ≤ n) (h1 : n ≤ 9223372036854775807) (w : World) (htab : Lib.TabIs Tryz.prog w "internal/strconv.uint64pow10" .u64 Lib.pow10Tab) :
    Calls Tryz.prog 132 #[.int .i64 n] w fun e w' => e = .returned (.string ⟨(Lib.itoa n).toArray⟩) ∧ ∃ k os, w' = grow (w.drewN k) os := Any.strconv_Itoa Tryz.laysM171 n h0 h1 w htab

def Tryz.laysPu14_ren : Go.Shelf.Ren := ⟨fun | 14 => 121 | 16 => 163 | 17 => 164 | 19 => 188 | 20 => 189 | 21 => 190 | 22 => 191 | 23 => 192 | 24 => 193 | 25 => 212 | 27 => 132 | 26 => 213 | 28 => 169 | 29 => 194 | 30 => 214 | 31 => 215 | 32 => 216 | 33 => 217 | 35 => 228 | 34 => 227 | 36 => 229 | 37 => 230 | 38 => 231 | 39 => 239 | 40 => 240 | n => n, fun | 9 => 9 | 3 => 3 | 22 => 141 | 24 => 143 | 25 => 144 | 4 => 4 | 34 => 190 | 5 => 5 | 36 => 160 | 37 => 43 | 0 => 0 | 39 => 192 | 21 => 21 | 44 => 212 | 47 => 200 | 50 => 228 | 48 => 226 | 2 => 2 | 52 => 214 | 55 => 217 | 59 => 231 | 60 => 140 | 20 => 20 | 61 => 232 | 65 => 242 | 66 => 243 | 67 => 39 | n => n, fun | 0 => 0 | 1 => 1 | 2 => 2 | 3 => 6 | 4 => 7 | n => n⟩

theorem Tryz.laysPu14 : Go.Proofs.LaysPu.n14 Tryz.prog Tryz.laysPu14_ren := {
  mixed := by kernel_rfl
  f14 := Tryz.func121.trans (congrArg some (by kernel_rfl))
  f16 := Tryz.func163.trans (congrArg some (by kernel_rfl))
  f17 := Tryz.func164.trans (congrArg some (by kernel_rfl))
  f19 := Tryz.func188.trans (congrArg some (by kernel_rfl))
  f20 := Tryz.func189.trans (congrArg some (by kernel_rfl))
  f21 := Tryz.func190.trans (congrArg some (by kernel_rfl))
  f22 := Tryz.func191.trans (congrArg some (by kernel_rfl))
  f23 := Tryz.func192.trans (congrArg some (by kernel_rfl))
  f24 := Tryz.func193.trans (congrArg some (by kernel_rfl))
  f25 := Tryz.func212.trans (congrArg some (by kernel_rfl))
  f26 := Tryz.func213.trans (congrArg some (by kernel_rfl))
  f27 := Tryz.func132.trans (congrArg some (by kernel_rfl))
  f28 := Tryz.func169.trans (congrArg some (by kernel_rfl))
  f29 := Tryz.func194.trans (congrArg some (by kernel_rfl))
  f30 := Tryz.func214.trans (congrArg some (by kernel_rfl))
  f31 := Tryz.func215.trans (congrArg some (by kernel_rfl))
  f32 := Tryz.func216.trans (congrArg some (by kernel_rfl))
  f33 := Tryz.func217.trans (congrArg some (by kernel_rfl))
  f34 := Tryz.func227.trans (congrArg some (by kernel_rfl))
  f35 := Tryz.func228.trans (congrArg some (by kernel_rfl))
  f36 := Tryz.func229.trans (congrArg some (by kernel_rfl))
  f37 := Tryz.func230.trans (congrArg some (by kernel_rfl))
  f38 := Tryz.func231.trans (congrArg some (by kernel_rfl))
  f39 := Tryz.func239.trans (congrArg some (by kernel_rfl))
  f40 := Tryz.func240.trans (congrArg some (by kernel_rfl))
  t0 := Tryz.underlying0
  a0 := Tryz.isAgg0
  z0 := Tryz.sizeOf0
  v0 := Tryz.zeroValue0
  i0 := by kernel_rfl
  t2 := Tryz.underlying2
  a2 := Tryz.isAgg2
  z2 := Tryz.sizeOf2
  v2 := Tryz.zeroValue2
  i2 := by kernel_rfl
  t3 := Tryz.underlying3
  a3 := Tryz.isAgg3
  z3 := Tryz.sizeOf3
  v3 := Tryz.zeroValue3
  i3 := by kernel_rfl
  t4 := Tryz.underlying4
  a4 := Tryz.isAgg4
  z4 := Tryz.sizeOf4
  v4 := Tryz.zeroValue4
  i4 := by kernel_rfl
  t5 := Tryz.underlying5
  a5 := Tryz.isAgg5
  z5 := Tryz.sizeOf5
  v5 := Tryz.zeroValue5
  i5 := by kernel_rfl
  t9 := Tryz.underlying9
  a9 := Tryz.isAgg9
  z9 := Tryz.sizeOf9
  v9 := Tryz.zeroValue9
  i9 := by kernel_rfl
  t20 := Tryz.underlying20
  a20 := Tryz.isAgg20
  z20 := Tryz.sizeOf20
  v20 := Tryz.zeroValue20
  i20 := by kernel_rfl
  t21 := Tryz.underlying21
  a21 := Tryz.isAgg21
  z21 := Tryz.sizeOf21
  v21 := Tryz.zeroValue21
  i21 := by kernel_rfl
  t22 := Tryz.underlying141
  a22 := Tryz.isAgg141
  z22 := Tryz.sizeOf141
  v22 := Tryz.zeroValue141
  i22 := by kernel_rfl
  t24 := Tryz.underlying143
  a24 := Tryz.isAgg143
  z24 := Tryz.sizeOf143
  v24 := Tryz.zeroValue143
  i24 := by kernel_rfl
  t25 := Tryz.underlying144
  a25 := Tryz.isAgg144
  z25 := Tryz.sizeOf144
  v25 := Tryz.zeroValue144
  i25 := by kernel_rfl
  t34 := Tryz.underlying190
  a34 := Tryz.isAgg190
  z34 := Tryz.sizeOf190
  v34 := Tryz.zeroValue190
  i34 := by kernel_rfl
  c34 := by kernel_rfl
  t36 := Tryz.underlying160
  a36 := Tryz.isAgg160
  z36 := Tryz.sizeOf160
  v36 := Tryz.zeroValue160
  i36 := by kernel_rfl
  t37 := Tryz.underlying43
  a37 := Tryz.isAgg43
  z37 := Tryz.sizeOf43
  v37 := Tryz.zeroValue43
  i37 := by kernel_rfl
  t39 := Tryz.underlying192
  a39 := Tryz.isAgg192
  z39 := Tryz.sizeOf192
  v39 := Tryz.zeroValue192
  i39 := by kernel_rfl
  t44 := Tryz.underlying212
  a44 := Tryz.isAgg212
  z44 := Tryz.sizeOf212
  v44 := Tryz.zeroValue212
  i44 := by kernel_rfl
  t47 := Tryz.underlying200
  a47 := Tryz.isAgg200
  z47 := Tryz.sizeOf200
  v47 := Tryz.zeroValue200
  i47 := by kernel_rfl
  t48 := Tryz.underlying226
  a48 := Tryz.isAgg226
  z48 := Tryz.sizeOf226
  v48 := Tryz.zeroValue226
  i48 := by kernel_rfl
  t50 := Tryz.underlying228
  a50 := Tryz.isAgg228
  z50 := Tryz.sizeOf228
  v50 := Tryz.zeroValue228
  i50 := by kernel_rfl
  t52 := Tryz.underlying214
  a52 := Tryz.isAgg214
  z52 := Tryz.sizeOf214
  v52 := Tryz.zeroValue214
  i52 := by kernel_rfl
  t55 := Tryz.underlying217
  a55 := Tryz.isAgg217
  z55 := Tryz.sizeOf217
  v55 := Tryz.zeroValue217
  i55 := by kernel_rfl
  t59 := Tryz.underlying231
  a59 := Tryz.isAgg231
  z59 := Tryz.sizeOf231
  v59 := Tryz.zeroValue231
  i59 := by kernel_rfl
  t60 := Tryz.underlying140
  a60 := Tryz.isAgg140
  z60 := Tryz.sizeOf140
  v60 := Tryz.zeroValue140
  i60 := by kernel_rfl
  t61 := Tryz.underlying232
  a61 := Tryz.isAgg232
  z61 := Tryz.sizeOf232
  t65 := Tryz.underlying242
  a65 := Tryz.isAgg242
  z65 := Tryz.sizeOf242
  v65 := Tryz.zeroValue242
  i65 := by kernel_rfl
  t66 := Tryz.underlying243
  a66 := Tryz.isAgg243
  z66 := Tryz.sizeOf243
  v66 := Tryz.zeroValue243
  i66 := by kernel_rfl
  t67 := Tryz.underlying39
  a67 := Tryz.isAgg39
  z67 := Tryz.sizeOf39
  v67 := Tryz.zeroValue39
  i67 := by kernel_rfl
  g0 := by kernel_rfl
  m0 := by kernel_rfl
  g1 := by kernel_rfl
  m1 := by kernel_rfl
  g2 := by kernel_rfl
  m2 := by kernel_rfl
  g3 := by kernel_rfl
  m3 := by kernel_rfl
  g4 := by kernel_rfl
  m4 := by kernel_rfl }

open Go.RowKit in
theorem Tryz.strconv_ParseUint_10_at32_ok (s : ByteArray) (hmax : s.size ≤ 9223372036854775806) (u : Nat) (h : Lib.parseUintB 32 s.data.toList = .ok u) (w : World) :
    Calls Tryz.prog 121 #[.string s, .int .i64 10, .int .i64 32] w fun e w' => e = .returned (.tuple #[.int .u64 u, .nilIface]) ∧ (w' = w ∨ w' = Lib.bytesWorld w 5 s) := Any.strconv_ParseUint_10_at32_ok Tryz.laysPu14 s hmax u h w

def Tryz.laysGw17_ren : Go.Shelf.Ren := ⟨fun | 17 => 119 | 15 => 162 | 20 => 187 | n => n, fun | 9 => 9 | 23 => 139 | 4 => 4 | 3 => 3 | 0 => 0 | 21 => 21 | n => n, fun | n => n⟩

theorem Tryz.laysGw17 : Go.Proofs.LaysGw.n17 Tryz.prog Tryz.laysGw17_ren := {
  mixed := by kernel_rfl
  f15 := Tryz.func162.trans (congrArg some (by kernel_rfl))
  f17 := Tryz.func119.trans (congrArg some (by kernel_rfl))
  f20 := Tryz.func187.trans (congrArg some (by kernel_rfl))
  t0 := Tryz.underlying0
  a0 := Tryz.isAgg0
  z0 := Tryz.sizeOf0
  v0 := Tryz.zeroValue0
  i0 := by kernel_rfl
  t3 := Tryz.underlying3
  a3 := Tryz.isAgg3
  z3 := Tryz.sizeOf3
  v3 := Tryz.zeroValue3
  i3 := by kernel_rfl
  t4 := Tryz.underlying4
  a4 := Tryz.isAgg4
  z4 := Tryz.sizeOf4
  v4 := Tryz.zeroValue4
  i4 := by kernel_rfl
  t9 := Tryz.underlying9
  a9 := Tryz.isAgg9
  z9 := Tryz.sizeOf9
  v9 := Tryz.zeroValue9
  i9 := by kernel_rfl
  t21 := Tryz.underlying21
  a21 := Tryz.isAgg21
  z21 := Tryz.sizeOf21
  v21 := Tryz.zeroValue21
  i21 := by kernel_rfl
  t23 := Tryz.underlying139
  a23 := Tryz.isAgg139
  z23 := Tryz.sizeOf139
  v23 := Tryz.zeroValue139
  i23 := by kernel_rfl }

def Tryz.lays105_ren : Go.Shelf.Ren := ⟨fun | 105 => 133 | 212 => 170 | 99 => 171 | 165 => 172 | 166 => 173 | 170 => 174 | 169 => 175 | 263 => 195 | 264 => 196 | 206 => 186 | 240 => 197 | 241 => 198 | 276 => 218 | 277 => 219 | n => n, fun | 9 => 9 | 3 => 3 | 4 => 4 | 20 => 20 | 0 => 0 | 46 => 160 | 109 => 176 | 5 => 5 | 72 => 180 | 76 => 182 | 51 => 140 | 146 => 196 | 53 => 141 | 148 => 198 | 70 => 178 | 37 => 43 | 75 => 143 | 127 => 200 | 164 => 219 | 80 => 39 | n => n, fun | n => n⟩

theorem Tryz.lays105 : Go.Proofs.Lays.n105 Tryz.prog Tryz.lays105_ren := {
  mixed := by kernel_rfl
  f99 := Tryz.func171.trans (congrArg some (by kernel_rfl))
  f105 := Tryz.func133.trans (congrArg some (by kernel_rfl))
  f165 := Tryz.func172.trans (congrArg some (by kernel_rfl))
  f166 := Tryz.func173.trans (congrArg some (by kernel_rfl))
  f169 := Tryz.func175.trans (congrArg some (by kernel_rfl))
  f170 := Tryz.func174.trans (congrArg some (by kernel_rfl))
  f206 := Tryz.func186.trans (congrArg some (by kernel_rfl))
  f212 := Tryz.func170.trans (congrArg some (by kernel_rfl))
  f240 := Tryz.func197.trans (congrArg some (by kernel_rfl))
  f241 := Tryz.func198.trans (congrArg some (by kernel_rfl))
  f263 := Tryz.func195.trans (congrArg some (by kernel_rfl))
  f264 := Tryz.func196.trans (congrArg some (by kernel_rfl))
  f276 := Tryz.func218.trans (congrArg some (by kernel_rfl))
  f277 := Tryz.func219.trans (congrArg some (by kernel_rfl))
  t0 := Tryz.underlying0
  a0 := Tryz.isAgg0
  z0 := Tryz.sizeOf0
  v0 := Tryz.zeroValue0
  t3 := Tryz.underlying3
  a3 := Tryz.isAgg3
  z3 := Tryz.sizeOf3
  v3 := Tryz.zeroValue3
  t4 := Tryz.underlying4
  a4 := Tryz.isAgg4
  z4 := Tryz.sizeOf4
  v4 := Tryz.zeroValue4
  t5 := Tryz.underlying5
  a5 := Tryz.isAgg5
  z5 := Tryz.sizeOf5
  v5 := Tryz.zeroValue5
  t9 := Tryz.underlying9
  a9 := Tryz.isAgg9
  z9 := Tryz.sizeOf9
  v9 := Tryz.zeroValue9
  t20 := Tryz.underlying20
  a20 := Tryz.isAgg20
  z20 := Tryz.sizeOf20
  v20 := Tryz.zeroValue20
  t37 := Tryz.underlying43
  a37 := Tryz.isAgg43
  z37 := Tryz.sizeOf43
  v37 := Tryz.zeroValue43
  t46 := Tryz.underlying160
  a46 := Tryz.isAgg160
  z46 := Tryz.sizeOf160
  v46 := Tryz.zeroValue160
  t51 := Tryz.underlying140
  a51 := Tryz.isAgg140
  z51 := Tryz.sizeOf140
  v51 := Tryz.zeroValue140
  t53 := Tryz.underlying141
  a53 := Tryz.isAgg141
  z53 := Tryz.sizeOf141
  v53 := Tryz.zeroValue141
  t70 := Tryz.underlying178
  a70 := Tryz.isAgg178
  z70 := Tryz.sizeOf178
  v70 := Tryz.zeroValue178
  t72 := Tryz.underlying180
  a72 := Tryz.isAgg180
  z72 := Tryz.sizeOf180
  v72 := Tryz.zeroValue180
  t75 := Tryz.underlying143
  a75 := Tryz.isAgg143
  z75 := Tryz.sizeOf143
  v75 := Tryz.zeroValue143
  t76 := Tryz.underlying182
  a76 := Tryz.isAgg182
  z76 := Tryz.sizeOf182
  v76 := Tryz.zeroValue182
  t109 := Tryz.underlying176
  a109 := Tryz.isAgg176
  z109 := Tryz.sizeOf176
  v109 := Tryz.zeroValue176
  t127 := Tryz.underlying200
  a127 := Tryz.isAgg200
  z127 := Tryz.sizeOf200
  v127 := Tryz.zeroValue200
  t146 := Tryz.underlying196
  a146 := Tryz.isAgg196
  z146 := Tryz.sizeOf196
  v146 := Tryz.zeroValue196
  t148 := Tryz.underlying198
  a148 := Tryz.isAgg198
  z148 := Tryz.sizeOf198
  v148 := Tryz.zeroValue198
  t164 := Tryz.underlying219
  a164 := Tryz.isAgg219
  z164 := Tryz.sizeOf219
  v164 := Tryz.zeroValue219 }

theorem Tryz.Builder_Extra_105 : Builder.Extra Tryz.prog Tryz.lays105_ren := {
  sizeBuilder := by kernel_rfl
  liesBuilder := by kernel_rfl
  t5 := Tryz.underlying5
  a5 := Tryz.isAgg5
  z5 := Tryz.sizeOf5
  v5 := Tryz.zeroValue5
  infoByte := by kernel_rfl
  cellsByte := by kernel_rfl
  sizeByte := by kernel_rfl
  neB5 := by decide }

open Go.RowKit Go.Lib in
theorem Tryz.strings_Repeat (s : ByteArray) (c : Nat) (w : World) (hc : c ≤ 9223372036854775807) (hlen : s.size * c ≤ 140737488355328) :
    Calls Tryz.prog 133 #[.string s, .int .i64 c] w fun e w' => e = .returned (.string ⟨(Lib.repeatL s.data.toList c).toArray⟩) ∧ Below w.heap.size w w' := Any.strings_Repeat Tryz.lays105 Tryz.Builder_Extra_105 s c w hc hlen

open Go.RowKit Go.Lib in
theorem Tryz.strings_ContainsFunc_grows (g : Nat) (lb : Array Value) (eg : ∀ args w, (callFunc g args).run Tryz.prog w = .ok (.enter g args) w) (p : Nat → Bool) (s : ByteArray) (w : World) (hp : PredGrows Tryz.prog g lb p w) :
    Calls Tryz.prog 119 #[.string s, .func (.func g) #[] lb] w fun e w' => e = .returned (.bool (decide (0 ≤ Lib.idxFunc p true s))) ∧ Below w.heap.size w w' := Any.strings_ContainsFunc_grows Tryz.laysGw17 g lb eg p s w hp

def Tryz.laysNm217_ren : Go.Shelf.Ren := ⟨fun | 17 => 134 | n => n, fun | 24 => 95 | 9 => 9 | 3 => 3 | 4 => 4 | 0 => 0 | n => n, fun | n => n⟩

theorem Tryz.laysNm217 : Go.Proofs.Lays2.n17 Tryz.prog Tryz.laysNm217_ren := {
  mixed := by kernel_rfl
  f17 := Tryz.func134.trans (congrArg some (by kernel_rfl))
  t0 := Tryz.underlying0
  a0 := Tryz.isAgg0
  z0 := Tryz.sizeOf0
  v0 := Tryz.zeroValue0
  t3 := Tryz.underlying3
  a3 := Tryz.isAgg3
  z3 := Tryz.sizeOf3
  v3 := Tryz.zeroValue3
  t4 := Tryz.underlying4
  a4 := Tryz.isAgg4
  z4 := Tryz.sizeOf4
  v4 := Tryz.zeroValue4
  t9 := Tryz.underlying9
  a9 := Tryz.isAgg9
  z9 := Tryz.sizeOf9
  v9 := Tryz.zeroValue9
  t24 := Tryz.underlying95
  a24 := Tryz.isAgg95
  z24 := Tryz.sizeOf95
  v24 := Tryz.zeroValue95 }

open Go.RowKit Go.Lib Go.Sort in
theorem Tryz.slices_Reverse_string_cells (b off n c : Nat) (Sx : Nat → ByteArray) (w : World) (hbig : n ≤ 9223372036854775807) (hc : ∀ i, i < n → w.cell? ⟨b, off + i, none⟩ = some (.string (Sx i))) (hf : ∀ j, j < n → w.frozen? ⟨b, off + j, none⟩ = false) :
    Calls Tryz.prog 134 #[.slice (some ⟨b, off, none⟩) n c] w fun e w' => e = .returned (.tuple #[]) ∧ ∃ q, w' = (w.drewN q).setCells b off ((Lib.strsOf Sx n).reverse.map encStr) := Any.slices_Reverse_string_cells Tryz.laysNm217 b off n c Sx w hbig hc hf

def Tryz.laysSlE041_f226_ren : Go.Shelf.Ren := ⟨fun | 41 => 226 | n => n, fun | 22 => 25 | 23 => 140 | 4 => 4 | n => n, fun | n => n⟩

theorem Tryz.laysSlE041_f226 : Go.Proofs.SlLaysE0.n41 Tryz.prog Tryz.laysSlE041_f226_ren := {
  mixed := by kernel_rfl
  f41 := ⟨Tryz.f226.name, by decide, Tryz.func226.trans (congrArg some (by kernel_rfl))⟩
  t4 := Tryz.underlying4
  a4 := Tryz.isAgg4
  z4 := Tryz.sizeOf4
  v4 := Tryz.zeroValue4
  t22 := Tryz.underlying25
  a22 := Tryz.isAgg25
  z22 := Tryz.sizeOf25
  v22 := Tryz.zeroValue25 }

open Go.RowKit Go.Lib in
theorem Tryz.slices_Clone (i0 : TypeInfo) (z : Value) (size bytes : Nat) (hi : Tryz.prog.info? 140 = some i0) (hz0 : i0.zero = some z) (hz1 : i0.size = size) (hz2 : i0.bytes = bytes) (hzs : z.cells.size = size) (hsz : 0 < size) (z23 : ∀ w, (Go.sizeOf 140).run Tryz.prog w = .ok size w) (b off n c : Nat) (news : List Value) (w : World) (hl : news.length = n * size) (hn : n ≤ maxLen) (hbig : n * bytes ≤ 140737488355328) (hc : ∀ j u, news[j]? = some u → w.cell? ⟨b, off + j, none⟩ = some u) (h1 : ∀ u ∈ news, u.oneCell' = true) :
    Calls Tryz.prog 226 #[.slice (some ⟨b, off, none⟩) n c] w fun e w' => ∃ v', e = .returned v' ∧ w'.ownsRow w.heap.size 140 size v' n news ∧ v' ≠ .slice none 0 0 ∧ Below w.heap.size w w' := AnyE.slices_Clone Tryz.laysSlE041_f226 i0 z size bytes hi hz0 hz1 hz2 hzs hsz z23 b off n c news w hl hn hbig hc h1

end Go.Proofs
namespace Go.Proofs
end Go.Proofs

namespace Go.Proofs.YtapckjeedekphaaGreatDoor
open Go.RowKit Go.Proofs.YtapckjeedekphaaGreatDoorW.PrintWords PR
/-- The lowest k digits of a number. -/
def lows : Nat → Nat → List Int
  | 0, _ => []
  | k + 1, n => ((n % 10 : Nat) : Int) :: lows k (n / 10)
theorem D10_lows (k n : Nat) (h : 10 ^ k ≤ n) : D10 n = lows k n ++ D10 (n / 10 ^ k) := by
  induction k generalizing n with
  | zero => simp [lows]
  | succ k ih =>
    have hp : 0 < 10 ^ k := Nat.pow_pos (by decide)
    have h0 : n ≠ 0 := by rw [Nat.pow_succ] at h; omega
    have h1 : 10 ^ k ≤ n / 10 := by rw [Nat.pow_succ] at h; exact (Nat.le_div_iff_mul_le (by decide)).2 h
    rw [D10_pos h0, ih _ h1, lows, Nat.div_div_eq_div_mul, Nat.pow_succ, Nat.mul_comm 10]
    rfl
theorem lows_mod (k n : Nat) : lows k n = D10 (n % 10 ^ k) ++ List.replicate (k - (D10 (n % 10 ^ k)).length) 0 := by
  induction k generalizing n with
  | zero => simp [lows, D10_zero, Nat.mod_one]
  | succ k ih =>
    have e1 : n % 10 ^ (k + 1) % 10 = n % 10 := Nat.mod_mod_of_dvd n ⟨10 ^ k, by rw [Nat.pow_succ, Nat.mul_comm]⟩
    have e2 : n % 10 ^ (k + 1) / 10 = n / 10 % 10 ^ k := by
      rw [Nat.pow_succ, Nat.mul_comm, Nat.mod_mul_right_div_self]
    rw [lows, ih]
    by_cases h : n % 10 ^ (k + 1) = 0
    · rw [h] at e1 e2
      rw [h, ← e2, ← e1]
      simp [D10_zero, List.replicate_succ]
    · rw [D10_pos h, e1, e2]
      simp
theorem txd_append (a b : List Int) : txd (a ++ b) = txd b ++ txd a := by simp [txd]
theorem txd_zeros (n : Nat) : txd (List.replicate n 0) = List.replicate n 48 := by simp [txd]
theorem itx_pos {n : Nat} (h : n ≠ 0) : itx (n : Int) = txd (D10 n) := by
  have h2 : D10 n ≠ [] := fun e => h ((D10_nil n).1 e)
  unfold itx txs
  rw [Int.natAbs_natCast, if_neg h2, decide_eq_false (by omega)]
  rfl
theorem txd_len (d : List Int) : (txd d).length = d.length := by simp [txd]
/-- A group, with zeros ahead if it is not the first. -/
def grp (q r : Nat) : List UInt8 := if q = 0 then itx (r : Int) else List.replicate (9 - (itx (r : Int)).length) 48 ++ itx (r : Int)
theorem itx_len9 {r : Nat} (h : r < 1000000000) : 1 ≤ (itx (r : Int)).length ∧ (itx (r : Int)).length ≤ 9 := by
  refine ⟨by have := itx_ne_nil (r : Int); cases e : itx (r : Int) with
    | nil => exact absurd e this
    | cons => simp, ?_⟩
  by_cases h0 : r = 0
  · subst h0; rw [show ((0 : Nat) : Int) = 0 from rfl, itx_zero]; simp
  · rw [itx_pos h0, txd_len]
    have := Td_len (n := 9) (z := (r : Int)) ⟨by omega, by omega⟩
    simpa using this
theorem grp_step {m : Nat} (h : m ≠ 0) : txd (D10 m) = txd (D10 (m / 1000000000)) ++ grp (m / 1000000000) (m % 1000000000) := by
  unfold grp
  by_cases hq : m / 1000000000 = 0
  · rw [if_pos hq, hq, D10_zero, show m % 1000000000 = m by omega, itx_pos h]; rfl
  · rw [if_neg hq, D10_lows 9 m (by show 1000000000 ≤ m; omega), lows_mod, txd_append, txd_append, txd_zeros]
    show _ ++ (List.replicate (9 - (D10 (m % 1000000000)).length) 48 ++ txd (D10 (m % 1000000000))) = _
    congr 1
    by_cases hr : m % 1000000000 = 0
    · rw [hr, D10_zero, show ((0 : Nat) : Int) = 0 from rfl, itx_zero]; rfl
    · rw [itx_pos hr, txd_len]
theorem decDigits_itx (u : Nat) : Lib.decDigits u = itx (u : Int) := by
  induction u using Nat.strongRecOn with
  | _ u ih =>
    rw [Lib.decDigits]
    by_cases h : u < 10
    · rw [dif_pos h]
      by_cases h0 : u = 0
      · subst h0; exact itx_zero.symm
      · rw [itx_pos h0, D10_pos h0, show u / 10 = 0 by omega, D10_zero, show u % 10 = u by omega]
        simp [txd]
    · rw [dif_neg h, ih _ (by omega), itx_pos (n := u / 10) (by omega), itx_pos (n := u) (by omega), D10_pos (n := u) (by omega)]
      simp [txd]
      rw [show ((u : Int) % 10).toNat = u % 10 by omega]
theorem itoa_itx (u : Nat) : Lib.itoa (u : Int) = itx (u : Int) := by rw [Lib.itoa_nonneg, decDigits_itx]
theorem itx_sgn {neg : Bool} {m : Int} (h : 0 < m) : itx (sgn neg m) = (if neg = true then [45] else []) ++ txd (D10 m.toNat) := by
  have h2 : D10 m.toNat ≠ [] := fun e => by have := (D10_nil _).1 e; omega
  unfold itx txs sgn
  cases neg
  · simp only [Bool.false_eq_true, if_false]
    rw [decide_eq_false (by omega), show m.natAbs = m.toNat by omega, if_neg h2, if_neg (by decide)]
  · simp only [if_true]
    rw [decide_eq_true (by omega), show (-m).natAbs = m.toNat by omega, if_neg h2, if_pos rfl]
/-- What the groups so far and the rest spell. -/
def Gr (N m : Int) (gs : List (List UInt8)) : Prop := txd (D10 N.toNat) = txd (D10 m.toNat) ++ gs.reverse.flatten
theorem Gr.zero (N : Int) : Gr N N [] := by simp [Gr]
theorem Gr.step {N m : Int} {gs : List (List UInt8)} (h : Gr N m gs) (hm : 0 < m) : Gr N (m / 1000000000) (gs ++ [grp (m / 1000000000).toNat (m % 1000000000).toNat]) := by
  obtain ⟨n, rfl⟩ := Int.eq_ofNat_of_zero_le (by omega : 0 ≤ m)
  unfold Gr at *
  rw [h, show ((n : Int) / 1000000000).toNat = n / 1000000000 by omega, show ((n : Int) % 1000000000).toNat = n % 1000000000 by omega, show (n : Int).toNat = n from rfl, grp_step (by omega)]
  simp
theorem Gr.end_ {N : Int} {gs : List (List UInt8)} (h : Gr N 0 gs) : txd (D10 N.toNat) = gs.reverse.flatten := by
  unfold Gr at h
  rw [h, show (0 : Int).toNat = 0 from rfl, D10_zero]; rfl
theorem join_nilsep (xs : List (List UInt8)) : Lib.join xs [] = xs.flatten := by
  unfold Lib.join
  induction xs with
  | nil => rfl
  | cons x xs ih =>
    cases xs with
    | nil => simp [List.intercalate]
    | cons y ys => simp [List.intercalate, List.intersperse] at ih ⊢; exact ih
end Go.Proofs.YtapckjeedekphaaGreatDoor

namespace Go.Proofs.YtapckjeedekphaaGreatDoor
open Go.RowKit Go.Proofs.YtapckjeedekphaaGreatDoorW.PrintWords PR
/-- A rune that is no digit. -/
def noD (r : Nat) : Bool := decide (r < 48) || decide (57 < r)
theorem byte_dec (b : UInt8) : noD b.toNat = !isDig b := by
  unfold noD isDig
  by_cases h1 : b.toNat < 48 <;> by_cases h2 : 57 < b.toNat <;> simp [h1, h2] <;> omega
theorem S_get (l : List UInt8) (i : Nat) (h : i < l.length) : (S l)[i]'(by rw [S_size]; exact h) = l[i] := by
  simp [S, ByteArray.getElem_eq_getElem_data]
theorem idxFrom_digs (l : List UInt8) (f : Nat) : ∀ pos, l.length ≤ pos + f → (decide (0 ≤ Lib.idxFuncFrom noD true (S l) f pos)) = !(l.drop pos).all isDig := by
  induction f with
  | zero =>
    intro pos h
    rw [List.drop_eq_nil_of_le (by omega)]
    simp [Lib.idxFuncFrom]
  | succ f ih =>
    intro pos h
    unfold Lib.idxFuncFrom
    rw [S_size]
    by_cases hp : pos < l.length
    · rw [if_pos hp, List.drop_eq_getElem_cons hp, List.all_cons]
      by_cases ha : l[pos].toNat < 128
      · rw [decode_ascii (S l) pos (by rw [S_size]; exact hp) (by rw [S_get l pos hp]; exact ha), S_get l pos hp]
        simp only [byte_dec]
        cases hd : isDig l[pos]
        · simp
        · simp only [Bool.not_true, Bool.false_eq_true, if_false, Bool.true_and]
          exact ih (pos + 1) (by omega)
      · have h1 := (decode_high (S l) pos (by rw [S_size]; exact hp) (by rw [S_get l pos hp]; omega)).1
        have h2 : noD (Utf8.decode (S l) pos).1 = true := by unfold noD; simp; omega
        have h3 : isDig l[pos] = false := by unfold isDig; simp; omega
        rw [if_pos h2, h3]; simp
    · rw [if_neg hp, List.drop_eq_nil_of_le (by omega)]; simp
theorem idx_digs (l : List UInt8) : (decide (0 ≤ Lib.idxFunc noD true (S l))) = !l.all isDig := by
  unfold Lib.idxFunc
  rw [S_size, idxFrom_digs l _ 0 (by omega)]; rfl
theorem S_data (l : List UInt8) : (S l).data.toList = l := by simp [S]
theorem cut_minus (l : List UInt8) : Lib.trimPrefix l [45] = plain l ∧ Lib.hasPrefix l [45] = decide (l.head? = some 45) := by
  unfold Lib.trimPrefix Lib.hasPrefix plain
  cases l with
  | nil => simp
  | cons b r => 
    by_cases h : b = 45
    · subst h; simp
    · have h' : ¬ (45 : UInt8) = b := fun e => h e.symm
      have e : [45].isPrefixOf (b :: r) = false := by simp [List.isPrefixOf, h']
      rw [e]; simp [h]
/-- The value of digits. -/
def dv (l : List UInt8) : Int := V 10 (dl l)
theorem dv_nil : dv [] = 0 := rfl
theorem dl_len {l : List UInt8} (h : l.all isDig = true) : (dl l).length = l.length := by rw [(dl_digs h).1]; simp
theorem dv_append {a b : List UInt8} (hb : b.all isDig = true) : dv (a ++ b) = dv a * 10 ^ b.length + dv b := by
  unfold dv
  rw [dl_append, V_append, dl_len hb, Int.mul_comm, Int.add_comm]
theorem dv_range {l : List UInt8} (h : l.all isDig = true) : 0 ≤ dv l ∧ dv l < 10 ^ l.length := by
  have h1 := (dl_digs h).2.1
  have h2 := V_lt (B := 10) (by decide) h1
  rw [dl_len h] at h2
  exact ⟨V_nonneg (by decide) h1, h2⟩
theorem dv_one (b : UInt8) (h : isDig b = true) : dv [b] = (b.toNat : Int) - 48 := by
  unfold dv
  rw [(dl_digs (l := [b]) (by simpa using h)).1]
  simp [V]
theorem uint_digs (l : List UInt8) (h : l.all isDig = true) : ∀ acc : Nat, (acc + 1) * 10 ^ l.length ≤ 1000000000 → Lib.parseUintM 4294967295 acc l = .ok (acc * 10 ^ l.length + (dv l).toNat) := by
  induction l with
  | nil => intro acc _; simp [Lib.parseUintM, dv_nil]
  | cons b r ih =>
    intro acc ha
    have hb : isDig b = true ∧ r.all isDig = true := by simpa using h
    have hp : 0 < 10 ^ r.length := Nat.pow_pos (by decide)
    have hbd := (isDig_iff b).1 hb.1
    have hs : (acc * 10 + 10) * 10 ^ r.length ≤ 1000000000 := by
      rw [List.length_cons, Nat.pow_succ] at ha
      have e : (acc * 10 + 10) * 10 ^ r.length = (acc + 1) * (10 ^ r.length * 10) := by
        rw [show acc * 10 + 10 = (acc + 1) * 10 by omega, Nat.mul_assoc, Nat.mul_comm 10]
      omega
    have h1 : acc * 10 + 10 ≤ 1000000000 := Nat.le_trans (Nat.le_mul_of_pos_right _ hp) hs
    rw [Lib.parseUintM, if_pos hbd, if_neg (by omega), if_neg (by omega), ih hb.2 _ (Nat.le_trans (Nat.mul_le_mul_right _ (by omega)) hs)]
    have e := dv_append (a := [b]) hb.2
    have e1 := dv_one b hb.1
    have e2 := dv_range hb.2
    rw [show [b] ++ r = b :: r from rfl] at e
    rw [e, e1]
    obtain ⟨c, hc⟩ : ∃ c : Nat, (b.toNat : Int) - 48 = (c : Int) := ⟨b.toNat - 48, by omega⟩
    obtain ⟨d, hd⟩ := Int.eq_ofNat_of_zero_le e2.1
    rw [hc, hd, show b.toNat - 48 = c by omega, List.length_cons]
    congr 1
    have e3 : ((c : Int) * 10 ^ r.length + (d : Int)).toNat = c * 10 ^ r.length + d := by
      have : ((c : Int) * 10 ^ r.length + (d : Int)) = ((c * 10 ^ r.length + d : Nat) : Int) := by simp
      rw [this]; rfl
    rw [e3, show (d : Int).toNat = d from rfl, Nat.add_mul, Nat.pow_succ, Nat.mul_assoc, Nat.mul_comm 10, Nat.add_assoc]
theorem uintB_digs {l : List UInt8} (h : l.all isDig = true) (h0 : l ≠ []) (h9 : l.length ≤ 9) : Lib.parseUintB 32 l = .ok (dv l).toNat := by
  unfold Lib.parseUintB
  have hp : (10 : Nat) ^ l.length ≤ 10 ^ 9 := Nat.pow_le_pow_right (by decide) h9
  rw [if_neg h0, uint_digs l h 0 (by omega)]
  simp
/-- The digits read so far and the rest. -/
def Rd (l rest : List UInt8) (v : Int) : Prop := ∃ p, l = p ++ rest ∧ v = dv p
theorem Rd.start (l : List UInt8) : Rd l l 0 := ⟨[], rfl, rfl⟩
theorem all_take {l : List UInt8} {f : UInt8 → Bool} (h : l.all f = true) (n : Nat) : (l.take n).all f = true := List.all_eq_true.2 fun x hx => List.all_eq_true.1 h x (List.mem_of_mem_take hx)
theorem Rd.step {l rest : List UInt8} {v : Int} (h : Rd l rest v) (hl : l.all isDig = true) (n : Nat) (hn : n ≤ rest.length) : Rd l (rest.drop n) (v * 10 ^ n + dv (rest.take n)) := by
  obtain ⟨p, rfl, rfl⟩ := h
  rw [List.all_append, Bool.and_eq_true] at hl
  refine ⟨p ++ rest.take n, by rw [List.append_assoc, List.take_append_drop], ?_⟩
  have e : (rest.take n).length = n := by rw [List.length_take]; omega
  rw [dv_append (all_take hl.2 n), e]
theorem Rd.end_ {l : List UInt8} {v : Int} (h : Rd l [] v) : v = dv l := by
  obtain ⟨p, rfl, rfl⟩ := h
  rw [List.append_nil]
theorem Rd.digs {l rest : List UInt8} {v : Int} (h : Rd l rest v) (hl : l.all isDig = true) : rest.all isDig = true := by
  obtain ⟨p, rfl, rfl⟩ := h
  rw [List.all_append, Bool.and_eq_true] at hl
  exact hl.2
theorem vI_plain (l : List UInt8) : vI l = sgn (decide (l.head? = some 45)) (dv (plain l)) := by
  unfold vI plain sgn dv
  by_cases h : l.head? = some 45
  · rw [if_pos h, if_pos h, decide_eq_true h, if_pos rfl]
    cases l with
    | nil => cases h
    | cons b r =>
      simp at h
      subst h
      rw [show (45 :: r : List UInt8) = [45] ++ r from rfl, dl_append]
      show - V 10 (dl r ++ []) = - V 10 (dl r)
      rw [List.append_nil]
  · rw [if_neg h, if_neg h, decide_eq_false h, if_neg (by decide)]
end Go.Proofs.YtapckjeedekphaaGreatDoor

namespace Go.Proofs.YtapckjeedekphaaGreatDoor
open Go.RowKit Go.Proofs.YtapckjeedekphaaGreatDoorW.PrintWords PR
/-- The table of powers of ten lies where the library laid it. -/
def tab10 (w : World) : Prop := Lib.TabIs Tryz.prog w "internal/strconv.uint64pow10" .u64 Lib.pow10Tab
theorem tab10.below {w w' : World} (h : tab10 w) (hb : Below w.heap.size w w') : tab10 w' := by
  have hg : Tryz.prog.globalNamed "internal/strconv.uint64pow10" = some 2 := by kernel_rfl
  unfold tab10 Lib.TabIs World.var? at h ⊢
  rw [hg] at h ⊢
  simp only [Option.bind_some] at h ⊢
  have hlt : 2 < w.heap.size := by
    rcases Nat.lt_or_ge 2 w.heap.size with h' | h'
    · exact h'
    · rw [Array.getElem?_eq_none h'] at h; cases h
  rw [hb.block 2 hlt]
  exact h
def RetStr (w : World) (t : List UInt8) (e : Ending) (w' : World) : Prop := e = .returned (.string (S t)) ∧ Below w.heap.size w w'
theorem below_drewN' (w : World) (n : Nat) : Below w.heap.size w (w.drewN n) := below_drewNg w n
theorem p_itoa (k : Nat) (hk : k < 1000000000) (w : World) (ht : tab10 w) : Calls Tryz.prog 132 #[.int .i64 (k : Int)] w (RetStr w (itx (k : Int))) := by
  refine (Tryz.strconv_Itoa (k : Int) (by omega) (by omega) w ht).mono ?_
  rintro e w' ⟨rfl, n, os, rfl⟩
  refine ⟨by rw [itoa_itx]; rfl, ?_⟩
  exact ⟨rfl, rfl, rfl, by show w.heap.size ≤ (w.heap ++ os).size; rw [Array.size_append]; omega, fun j hj => by show (w.heap ++ os)[j]? = _; rw [Array.getElem?_append_left hj]⟩
theorem p_zeros (c : Nat) (hc : c ≤ 9) (w : World) : Calls Tryz.prog 133 #[.string ⟨#[48]⟩, .int .i64 (c : Int)] w (RetStr w (List.replicate c 48)) := by
  refine (Tryz.strings_Repeat ⟨#[48]⟩ c w (by omega) (by show 1 * c ≤ _; omega)).mono ?_
  rintro e w' ⟨rfl, hb⟩
  refine ⟨?_, hb⟩
  have e1 : Lib.repeatL [48] c = List.replicate c 48 := by
    have := Lib.repeatL_replicate 48 1 c
    simpa using this
  show Ending.returned (.string ⟨(Lib.repeatL [48] c).toArray⟩) = _
  rw [e1]; rfl
theorem below_setCells' {B b : Nat} {a : World} (hb : B ≤ b) : ∀ (vs : List Value) (o : Nat) (w : World), Below B a w → Below B a (w.setCells b o vs)
  | [], _, _, h => h
  | v :: r, o, w, h => by rw [World.setCells]; exact below_setCells' hb r (o + 1) _ (h.setCell hb v)
theorem size_setCells (b : Nat) : ∀ (vs : List Value) (o : Nat) (w : World), (w.setCells b o vs).heap.size = w.heap.size
  | [], _, _ => rfl
  | v :: r, o, w => by rw [World.setCells, size_setCells b r]; simp [World.setCell]
/-- A row of strings of the call's own that grows. -/
def SB (w0 w : World) (v : Value) (gs : List (List UInt8)) : Prop := Kd.R Kd.string 9 w w0.heap.size (fun _ => True) v (gs.map S)
theorem SB.nil (w0 w : World) : SB w0 w (.slice none 0 0) [] := Kd.R_nil _ _ _ _ _
theorem SB.below {w0 w w' : World} {v : Value} {gs : List (List UInt8)} (h : SB w0 w v gs) (hb : Below w.heap.size w w') : SB w0 w' v gs := Kd.R_below h hb
/-- A row of strings in memory. -/
def SC (w : World) (v : Value) (gs : List (List UInt8)) : Prop := ∃ b c, v = .slice (some ⟨b, 0, none⟩) gs.length c ∧ gs.length ≤ c ∧ b < w.heap.size ∧ ∀ (j : Nat) x, gs[j]? = some x → w.cell? ⟨b, 0 + j, none⟩ = some (.string (S x))
theorem S_data' (l : List UInt8) : (S l).data.toList = l := by simp [S]
theorem SB.reverse {w0 w : World} {v : Value} {gs : List (List UInt8)} (h : SB w0 w v gs) (hne : gs ≠ []) (hl : gs.length ≤ 100000000) (h0 : w0.heap.size ≤ w.heap.size) (hb : Below w0.heap.size w0 w) :
    Calls Tryz.prog 134 #[v] w fun e w' => e = .returned (.tuple #[]) ∧ SC w' v gs.reverse ∧ Below w0.heap.size w0 w' := by
  have hp : 0 < (gs.map S).length := by cases gs with
    | nil => exact absurd rfl hne
    | cons => simp
  obtain ⟨g, cap, rfl, hg, hlt, cells, hcells⟩ := Kd.R_form h hp
  have hcap : gs.length ≤ cap := by
    have := (Kd.R_reads' h).2.1
    simpa using this
  have hc : ∀ i, i < gs.length → w.cell? ⟨g, 0 + i, none⟩ = some (.string (S (gs.getD i []))) ∧ w.frozen? ⟨g, 0 + i, none⟩ = false := fun i hi => by
    have := Kd.R_cell ByteArray.empty h (i : Int) (by omega) (by simp; omega)
    rw [Nat.zero_add]
    refine ⟨?_, by simpa using this.2⟩
    have e := this.1
    simp only [Int.toNat_natCast] at e
    rw [e]
    simp [rdOf, hi]
  rw [List.length_map] at *
  refine (Tryz.slices_Reverse_string_cells g 0 gs.length cap (fun i => S (gs.getD i [])) w (by omega) (fun i hi => (hc i hi).1) (fun i hi => (hc i hi).2)).mono ?_
  rintro e w' ⟨rfl, q, rfl⟩
  have e1 : Lib.strsOf (fun i => S (gs.getD i [])) gs.length = gs := by
    unfold Lib.strsOf
    apply List.ext_getElem
    · simp
    · intro i h1 h2
      simp [S_data', h2]
  rw [e1]
  have hb1 : Below w0.heap.size w0 (w.drewN q) := hb.trans ((below_drewN' w q).mono h0)
  refine ⟨rfl, ⟨g, cap, by simp, by simpa using hcap, ?_, ?_⟩, below_setCells' hg _ _ _ hb1⟩
  · rw [size_setCells]; exact hlt
  · intro j x hx
    have hj : j < gs.reverse.length := by
      rcases Nat.lt_or_ge j gs.reverse.length with h' | h'
      · exact h'
      · rw [List.getElem?_eq_none h'] at hx; cases hx
    have := World.cell?_setCells_in g (gs.reverse.map encStr) 0 (w.drewN q) (fun i hi => by
      have := (hc i (by simpa using hi)).1
      have e2 : (w.drewN q).cell? ⟨g, 0 + i, none⟩ = w.cell? ⟨g, 0 + i, none⟩ := rfl
      rw [e2, this]; rfl) j (by simpa using hj)
    rw [this]
    rw [List.getElem?_eq_getElem hj] at hx
    injection hx with hx
    simp only [List.getElem_map, hx]
    rfl
theorem SC.join {w : World} {v : Value} {gs : List (List UInt8)} (h : SC w v gs) (hl : gs.length ≤ 100000000) (hf : gs.flatten.length ≤ 100000000) : Calls Tryz.prog 135 #[v, .string ⟨#[]⟩] w (RetStr w gs.flatten) := by
  obtain ⟨b, c, rfl, hc, hb, hx⟩ := h
  have e1 : (gs.map S).map (·.data.toList) = gs := by
    rw [List.map_map]
    conv => rhs; rw [← List.map_id gs]
    apply List.map_congr_left
    intro a _
    exact S_data' a
  have := Tryz.strings_Join b 0 c (gs.map S) ⟨#[]⟩ w (fun j x hj => ?_) hb (by simp; omega) (by simpa using hc) (by rw [e1]; show (Lib.join gs []).length ≤ _; rw [join_nilsep]; omega)
  · rw [List.length_map] at this
    refine this.mono ?_
    rintro e w' ⟨rfl, hb'⟩
    refine ⟨?_, hb'⟩
    rw [e1]
    show Ending.returned (.string ⟨(Lib.join gs []).toArray⟩) = _
    rw [join_nilsep]; rfl
  · rw [List.getElem?_map] at hj
    cases hg : gs[j]? with
    | none => rw [hg] at hj; cases hj
    | some y =>
      rw [hg] at hj
      injection hj with hj
      subst hj
      exact hx j y hg
end Go.Proofs.YtapckjeedekphaaGreatDoor

namespace Go.Proofs.YtapckjeedekphaaGreatDoor
open Go.RowKit Go.Proofs.YtapckjeedekphaaGreatDoorW.PrintWords PR
theorem S_append (a b : List UInt8) : S a ++ S b = S (a ++ b) := by
  apply Go.WideShapes.bytes_inj
  simp [S]
theorem S_extract (l : List UInt8) (a b : Nat) (hb : b = l.length) : (S l).extract a b = S (l.drop a) := by
  apply Go.WideShapes.bytes_inj
  subst hb
  rw [← S_size, Lib.extract_to_end]
  simp [S]
theorem S_extract0 (l : List UInt8) (b : Nat) : (S l).extract 0 b = S (l.take b) := by
  apply Go.WideShapes.bytes_inj
  rw [Lib.extract_data]
  simp [S]
theorem add_str (a b : List UInt8) (h : a.length + b.length ≤ 9223372036854775807) (W : World) : Sem.run Tryz.prog (Op.stringOp .add (S a) (S b)) W = .ok (.string (S (a ++ b))) W := by
  rw [← S_append]
  exact run_string_add_sum W (S a) (S b) (by rw [S_size, S_size]; exact h)
theorem add_strc (a : List UInt8) (c : UInt8) (h : a.length ≤ 9223372036854775800) (W : World) : Sem.run Tryz.prog (Op.stringOp .add (S a) ⟨#[c]⟩) W = .ok (.string (S (a ++ [c]))) W := add_str a [c] (by simp; omega) W
theorem itx_len_le {n : Nat} {z : Int} (h : Td n z) : (itx z).length ≤ n + 1 := by
  have h1 := itx_len z
  have h2 := Td_len h
  omega
theorem natAbs_fdiv_le (a b : Int) (hb : b ≠ 0) : (a.fdiv b).natAbs ≤ a.natAbs := by
  have h1 := Int.mul_fdiv_add_fmod a b
  have key : ∀ a b : Int, 0 < b → (a.fdiv b).natAbs ≤ a.natAbs := by
    intro a b hb
    rw [Int.fdiv_eq_ediv_of_nonneg _ (by omega)]
    rcases Int.lt_or_le a 0 with h | h
    · have h1 : a ≤ a / b := by
        refine (Int.le_ediv_iff_mul_le hb).2 ?_
        have : a * b ≤ a * 1 := Int.mul_le_mul_of_nonpos_left (by omega) (by omega)
        omega
      have h2 : a / b < 0 := Int.ediv_neg_of_neg_of_pos h hb
      omega
    · have h1 := Int.ediv_le_self b h
      have h2 := Int.ediv_nonneg h (show (0 : Int) ≤ b by omega)
      omega
  rcases Int.lt_or_le 0 b with h | h
  · exact key a b h
  · have := key (-a) (-b) (by omega)
    rw [Int.neg_fdiv_neg] at this
    omega
theorem fdiv_len (n d g : Int) (hg : g ≠ 0) {m : Nat} (hn : Td m n) (hd : Td m d) (hm : m ≤ 100000) : (itx (n.fdiv g)).length ≤ 100001 ∧ (itx (d.fdiv g)).length ≤ 100001 := by
  have h1 := itx_len_le (Td_of_le hn (natAbs_fdiv_le n g hg))
  have h2 := itx_len_le (Td_of_le hd (natAbs_fdiv_le d g hg))
  omega
theorem itx_eq_one (z : Int) : (itx z == [49]) = (z == 1) := by
  by_cases h : z = 1
  · subst h; rw [itx_one]; rfl
  · have h2 : itx z ≠ [49] := fun e => h (D10_inj_itx (by rw [e, itx_one]))
    rw [beq_eq_false_iff_ne.2 h, beq_eq_false_iff_ne.2 h2]
theorem divInt_parts (n d : Int) (hd : 0 < d) : (Rat.divInt n d).num = n.fdiv (Int.gcd n d) ∧ ((Rat.divInt n d).den : Int) = d.fdiv (Int.gcd n d) := by
  have hg : (0 : Int) ≤ (Int.gcd n d : Int) := by omega
  rw [Rat.num_divInt, Rat.den_divInt, if_neg (by omega), Int.fdiv_eq_ediv_of_nonneg _ hg, Int.fdiv_eq_ediv_of_nonneg _ hg, Int.gcd_comm d n, Int.sign_eq_one_of_pos hd, Int.one_mul]
  refine ⟨rfl, ?_⟩
  rw [Int.natCast_ediv, Int.natAbs_of_nonneg (by omega)]
theorem r_parts (l : List UInt8) (w : World) (hl : l.length ≤ 500000) : Calls Tryz.prog 30 #[.string (S l)] w fun e w' => e = .returned (.tuple #[.string (S (pre l)), .string (S (dpart l))]) ∧ Below w.heap.size w w' := by
  have h1 := slash_eq l (by omega) (l.length + 1) (by omega)
  have hle := pre_len l
  have hsz := S_size l
  have hS := Lib.hid (dowelref02_slash.calls _ _ _ w h1)
  have HS2 := Lib.hid hsz
  clear h1 hsz
  by_cases hs : hasSl l = true
  · have hlt : (pre l).length < l.length := by unfold hasSl at hs; exact of_decide_eq_true hs
    have hk1 : ((pre l).length : Int) < (S l).size := by rw [HS2.out]; omega
    have hk2 : ((pre l).length : Int) + 1 ≤ (S l).size := by rw [HS2.out]; omega
    have hk3 : ((S l).size : Int) ≤ 500000 := by rw [HS2.out]; omega
    have hk0 : (0 : Int) ≤ ((pre l).length : Int) := by omega
    have hpre := Lib.hid (pre_take l).1
    have E1 := Lib.hid (show (S l).extract 0 (pre l).length = S (pre l) by rw [S_extract0, ← hpre.out])
    have E2 := Lib.hid (show (S l).extract ((pre l).length + 1) (S l).size = S (dpart l) by
      rw [S_extract l _ _ HS2.out]; unfold dpart post; rw [if_pos hs])
    generalize (pre l).length = kk at *
    have hne : ((kk : Int) == ((S l).size : Int)) = false := beq_eq_false_iff_ne.2 (by omega)
    clear hle
    go_enter Tryz.func30, Tryz.ntmps30
    go_wp2_with fail
    refine hS.out.mono ?_
    rintro e w1 ⟨rfl, hb⟩
    have HB := Lib.hid hb.below
    clear hb
    go_wp2_with fail
    go_quiet (fail)
    go_wp2_with fail
    go_ret2
    exact ⟨by simp [E1.out, E2.out], by exact pw_below_drewN HB.out _⟩
  · have hlt : (pre l).length = l.length := by
      have : ¬ (pre l).length < l.length := fun h => hs (by unfold hasSl; exact decide_eq_true h)
      omega
    have heq : (((pre l).length : Int) == ((S l).size : Int)) = true := by rw [HS2.out, hlt]; exact beq_self_eq_true _
    have E1 := Lib.hid (show l = pre l by have := (pre_take l).1; rw [hlt, List.take_length] at this; exact this.symm)
    have E2 := Lib.hid (show S [49] = S (dpart l) by unfold dpart; rw [if_neg hs])
    generalize (pre l).length = kk at *
    clear hlt
    go_enter Tryz.func30, Tryz.ntmps30
    go_wp2_with fail
    refine hS.out.mono ?_
    rintro e w1 ⟨rfl, hb⟩
    have HB := Lib.hid hb.below
    clear hb
    go_wp2_with fail
    go_ret2
    refine ⟨?_, HB.out⟩
    rw [← E1.out, ← E2.out]
    rfl
theorem r_partsq (q : Rat) (w : World) (hl : (qtx q).length ≤ 500000) : Calls Tryz.prog 30 #[.string (S (qtx q))] w fun e w' => e = .returned (.tuple #[.string (S (itx q.num)), .string (S (itx q.den))]) ∧ Below w.heap.size w w' := by
  have h := r_parts (qtx q) w hl
  obtain ⟨h1, _, h3, _⟩ := qtx_parts q
  rw [h1, h3] at h
  exact h
theorem gcd_facts (n d : Int) (hd : 0 < d) {m : Nat} (h : Td m d) : (Int.gcd n d : Int) ≠ 0 ∧ Td m (Int.gcd n d : Int) := by
  have h0 : 0 < Int.gcd n d := Int.gcd_pos_of_ne_zero_right n (by omega)
  have h1 : Int.gcd n d ≤ d.natAbs := Nat.le_of_dvd (by omega) (Int.gcd_dvd_natAbs_right n d)
  exact ⟨by omega, Td_of_le h (by omega)⟩
set_option maxHeartbeats 400000 in
theorem r_qtext (n d : Int) (w : World) (hd : d ≠ 0) {m : Nat} (hn : Td m n) (hdd : Td m d) (hm : m ≤ 100000) : Calls Tryz.prog 29 #[.string (S (itx n)), .string (S (itx d))] w fun e w' => e = .returned (.string (S (qtx (Rat.divInt n d)))) ∧ Below w.heap.size w w' := by
  by_cases hneg : d < 0
  · have H1 := Lib.hid (And.intro hn hdd)
    have H2 := Lib.hid (And.intro (Td_neg hn) (And.intro (Td_neg hdd) (show 0 < -d by omega)))
    have HE := Lib.hid (Rat.neg_divInt_neg n d)
    have hs : cmp d 0 < 0 := by rw [cmp_lt hneg]; decide
    rw [← HE.out]
    clear hn hdd hd hneg
    have HB := Lib.hid (Below.refl w.heap.size w)
    go_enter Tryz.func29, Tryz.ntmps29
    go_wp2_with fail
    refine (r_sign d _).mono ?_
    rintro e w1 ⟨rfl, hb⟩
    replace HB := Lib.hid (bth HB.out hb)
    clear hb
    have hs' := hs
    go_wp2_with fail
    refine (r_neg n _ H1.out.1 hm).mono ?_
    rintro e w2 ⟨rfl, hb⟩
    replace HB := Lib.hid (bth HB.out hb)
    clear hb
    go_wp2_with fail
    refine (r_neg d _ H1.out.2 hm).mono ?_
    rintro e w3 ⟨rfl, hb⟩
    replace HB := Lib.hid (bth HB.out hb)
    clear hb
    go_wp2_with fail
    refine (r_gcd (-n) (-d) _ H2.out.1 H2.out.2.1 hm).mono ?_
    rintro e w5 ⟨rfl, hb⟩
    replace HB := Lib.hid (bth HB.out hb)
    clear hb
    have HG := Lib.hid (gcd_facts (-n) (-d) H2.out.2.2 H2.out.2.1)
    generalize hg : (Int.gcd (-n) (-d) : Int) = g at *
    have HG2 := Lib.hid hg
    clear hg
    go_wp2_with fail
    refine (r_divmod (-n) g _ HG.out.1 H2.out.1 HG.out.2 hm).mono ?_
    rintro e w6 ⟨rfl, hb⟩
    replace HB := Lib.hid (bth HB.out hb)
    clear hb
    go_wp2_with fail
    refine (r_divmod (-d) g _ HG.out.1 H2.out.2.1 HG.out.2 hm).mono ?_
    rintro e w7 ⟨rfl, hb⟩
    replace HB := Lib.hid (bth HB.out hb)
    clear hb
    have HP := Lib.hid (divInt_parts (-n) (-d) H2.out.2.2)
    rw [HG2.out] at HP
    have HT := Lib.hid (fdiv_len (-n) (-d) g HG.out.1 H2.out.1 H2.out.2.1 hm)
    generalize hq1 : Int.fdiv (-n) g = a at *
    generalize hq2 : Int.fdiv (-d) g = b at *
    clear hq1 hq2
    by_cases c : b = 1
    · have hc : ((S (itx b)).toList == [49]) = true := by rw [S_toList, itx_eq_one, c]; rfl
      have C := Lib.hid c
      clear c
      go_wp2_with fail
      go_ret
      refine ⟨?_, HB.out⟩
      rw [show qtx (Rat.divInt (-n) (-d)) = itx a by unfold qtx; rw [if_pos (by have := HP.out.2; rw [C.out] at this; omega), HP.out.1]]
      rfl
    · have hc : ((S (itx b)).toList == [49]) = false := by rw [S_toList, itx_eq_one]; exact beq_eq_false_iff_ne.2 c
      have C := Lib.hid c
      clear c
      have k1 := add_strc (itx a) 47 (by have := HT.out.1; omega)
      have k2 := add_str (itx a ++ [47]) (itx b) (by have := HT.out.1; have := HT.out.2; simp; omega)
      go_wp2_with fail
      go_ret
      refine ⟨?_, HB.out⟩
      rw [show qtx (Rat.divInt (-n) (-d)) = itx a ++ 47 :: itx b by unfold qtx; rw [if_neg (by have := HP.out.2; have := C.out; omega), HP.out.1, HP.out.2]]
      rw [show itx a ++ 47 :: itx b = itx a ++ [47] ++ itx b by simp]
      rfl
  · have H2 := Lib.hid (And.intro hn (And.intro hdd (show 0 < d by omega)))
    have hs : ¬ cmp d 0 < 0 := by rw [cmp_gt (by omega)]; decide
    clear hn hdd hd hneg
    have HB := Lib.hid (Below.refl w.heap.size w)
    go_enter Tryz.func29, Tryz.ntmps29
    go_wp2_with fail
    refine (r_sign d _).mono ?_
    rintro e w1 ⟨rfl, hb⟩
    replace HB := Lib.hid (bth HB.out hb)
    clear hb
    go_wp2_with fail
    refine (r_gcd (n) (d) _ H2.out.1 H2.out.2.1 hm).mono ?_
    rintro e w5 ⟨rfl, hb⟩
    replace HB := Lib.hid (bth HB.out hb)
    clear hb
    have HG := Lib.hid (gcd_facts (n) (d) H2.out.2.2 H2.out.2.1)
    generalize hg : (Int.gcd (n) (d) : Int) = g at *
    have HG2 := Lib.hid hg
    clear hg
    go_wp2_with fail
    refine (r_divmod (n) g _ HG.out.1 H2.out.1 HG.out.2 hm).mono ?_
    rintro e w6 ⟨rfl, hb⟩
    replace HB := Lib.hid (bth HB.out hb)
    clear hb
    go_wp2_with fail
    refine (r_divmod (d) g _ HG.out.1 H2.out.2.1 HG.out.2 hm).mono ?_
    rintro e w7 ⟨rfl, hb⟩
    replace HB := Lib.hid (bth HB.out hb)
    clear hb
    have HP := Lib.hid (divInt_parts (n) (d) H2.out.2.2)
    rw [HG2.out] at HP
    have HT := Lib.hid (fdiv_len (n) (d) g HG.out.1 H2.out.1 H2.out.2.1 hm)
    generalize hq1 : Int.fdiv (n) g = a at *
    generalize hq2 : Int.fdiv (d) g = b at *
    clear hq1 hq2
    by_cases c : b = 1
    · have hc : ((S (itx b)).toList == [49]) = true := by rw [S_toList, itx_eq_one, c]; rfl
      have C := Lib.hid c
      clear c
      go_wp2_with fail
      go_ret
      refine ⟨?_, HB.out⟩
      rw [show qtx (Rat.divInt (n) (d)) = itx a by unfold qtx; rw [if_pos (by have := HP.out.2; rw [C.out] at this; omega), HP.out.1]]
      rfl
    · have hc : ((S (itx b)).toList == [49]) = false := by rw [S_toList, itx_eq_one]; exact beq_eq_false_iff_ne.2 c
      have C := Lib.hid c
      clear c
      have k1 := add_strc (itx a) 47 (by have := HT.out.1; omega)
      have k2 := add_str (itx a ++ [47]) (itx b) (by have := HT.out.1; have := HT.out.2; simp; omega)
      go_wp2_with fail
      go_ret
      refine ⟨?_, HB.out⟩
      rw [show qtx (Rat.divInt (n) (d)) = itx a ++ 47 :: itx b by unfold qtx; rw [if_neg (by have := HP.out.2; have := C.out; omega), HP.out.1, HP.out.2]]
      rw [show itx a ++ 47 :: itx b = itx a ++ [47] ++ itx b by simp]
      rfl
end Go.Proofs.YtapckjeedekphaaGreatDoor

namespace Go.Proofs.YtapckjeedekphaaGreatDoor
open Go.RowKit Go.Proofs.YtapckjeedekphaaGreatDoorW.PrintWords PR
theorem info9 : (Tryz.prog.info? 9).map (fun i => (i.zero, i.size, i.bytes)) = some (some (.string ⟨#[]⟩), 1, 16) := by kernel_rfl
/-- The groups so far are no more than the digits. -/
def Gs (gs : List (List UInt8)) : Prop := ∀ g ∈ gs, g ≠ []
theorem Gs.len {gs : List (List UInt8)} (h : Gs gs) : gs.length ≤ gs.flatten.length := by
  induction gs with
  | nil => simp
  | cons g gs ih =>
    have h1 := ih (fun x hx => h x (List.mem_cons_of_mem _ hx))
    have h2 : 1 ≤ g.length := by
      have := h g (by simp)
      cases g with
      | nil => exact absurd rfl this
      | cons => simp
    simp only [List.length_cons, List.flatten_cons, List.length_append]
    omega
theorem flat_rev_len (gs : List (List UInt8)) : gs.reverse.flatten.length = gs.flatten.length := by
  induction gs with
  | nil => rfl
  | cons g gs ih => simp only [List.reverse_cons, List.flatten_append, List.length_append, ih, List.flatten_cons, List.flatten_nil, List.length_nil]; omega
theorem Gr.len {N m : Int} {gs : List (List UInt8)} (h : Gr N m gs) (hg : Gs gs) : gs.length ≤ (D10 N.toNat).length ∧ gs.reverse.flatten.length ≤ (D10 N.toNat).length := by
  have h1 := congrArg List.length h
  rw [List.length_append, txd_len, txd_len] at h1
  have h2 := hg.len
  rw [flat_rev_len] at h1 ⊢
  omega
/-- One group: short in these words. -/
def RetS9 (w : World) (M : Int) (n : Nat) (e : Ending) (w' : World) : Prop := ∃ A r c, ∃ k : Nat, e = .returned (.tuple #[.slice A r.length c, .int .u32 (k : Int)]) ∧ Mg w' (.slice A r.length c) r ∧ (Dg B32 r ∧ Tr r ∧ V B32 r = M / 1000000000 ∧ r.length ≤ n) ∧ ((k : Int) = M % 1000000000 ∧ k < 1000000000) ∧ Below w.heap.size w w'
theorem p_short9 (v : Value) (l : List Int) (w : World) (hv : Mg w v l) (hd : Dg B32 l) (hl : l.length ≤ 1000000000) :
    Calls Tryz.prog 131 #[v, .int .u32 1000000000] w (RetS9 w (V B32 l) l.length) := by
  refine (p_short v l 1000000000 w hv hd (by omega) hl).mono ?_
  rintro e w' ⟨v', r, rfl, hm, h1, h2, h3, h4, hb⟩
  obtain ⟨A, c, rfl, hm⟩ := hm.shape
  have hV := V_nonneg (B := B32) (by decide) hd
  refine ⟨A, r, c, (V B32 l % 1000000000).toNat, ?_, hm, ⟨h1, h2, h3, h4⟩, ⟨by omega, by omega⟩, hb⟩
  rw [show ((V B32 l % 1000000000).toNat : Int) = V B32 l % 1000000000 by omega]
structure TxRel (w0 w : World) (N : Int) (l : List Int) (vm vg : Value) (gs : List (List UInt8)) : Prop where
  mg : Mg w vm l
  dg : Dg B32 l
  tr : Tr l
  ln : l.length ≤ 1000000
  gr : Gr N (V B32 l) gs
  ne : Gs gs
  sb : SB w0 w vg gs
  tb : tab10 w
  bl : Below w0.heap.size w0 w
theorem kp_grown {w0 W w' : World} {v : Value} {gs : List (List UInt8)} (h : SB w0 W v gs) (hg : W.grownBy w' v.ownBlock) : Kp W w' := fun b cells hb => by
  have hlt : b < W.heap.size := by
    rcases Nat.lt_or_ge b W.heap.size with h' | h'
    · exact h'
    · rw [Array.getElem?_eq_none h'] at hb; cases hb
  refine hg.block b hlt (fun e => ?_)
  obtain ⟨inner, ho⟩ := Kd.R_own h
  obtain ⟨cells', hc⟩ := own_typed ho b e.symm
  rw [hb] at hc
  injection hc with hc
  injection hc with _ hc
  exact absurd hc (by decide)
theorem grp_ne (q r : Nat) : grp q r ≠ [] := by
  unfold grp
  have := itx_ne_nil (r : Int)
  split
  · exact this
  · intro h; exact this (List.append_eq_nil_iff.1 h).2
theorem Gs.snoc {gs : List (List UInt8)} (h : Gs gs) {g : List UInt8} (hg : g ≠ []) : Gs (gs ++ [g]) := by
  intro x hx
  rcases List.mem_append.1 hx with h1 | h1
  · exact h x h1
  · rw [List.mem_singleton.1 h1]; exact hg
set_option maxHeartbeats 1600000 in
theorem p_text (v : Value) (z : Int) (n : Nat) (w : World) (hv : RI w v z) (hz : Td n z) (hn : n ≤ 1000000) (ht : tab10 w) : Calls Tryz.prog 32 #[v] w (RetStr w (itx z)) := by
  obtain ⟨na, Aa, ca, a, rfl, ma, da, ta, ea, za⟩ := hv.parts
  have hln : a.length ≤ n := Td_len32 da ta (by rw [← za]; exact hz)
  have hD := Td_len hz
  have HA := Lib.hid ma
  have FA := Lib.hid (And.intro da (And.intro ta ea))
  have HZ := Lib.hid za
  have HTb := Lib.hid ht
  have hD2 : (D10 (V B32 a).toNat).length ≤ 1000000 := by
    have h0 := V_nonneg (B := B32) (by decide) da
    have : z.natAbs = (V B32 a).toNat := by rw [za]; unfold sgn; split <;> omega
    rw [← this]; omega
  have HN := Lib.hid (And.intro hln (And.intro hD2 hn))
  clear hv da ta ea za ma ht hln hD hD2 hn hz
  by_cases h0 : a = []
  · subst h0
    have z0 : z = 0 := by rw [HZ.out]; cases na <;> rfl
    have HB := Lib.hid (Below.refl w.heap.size w)
    go_enter Tryz.func32, Tryz.ntmps32
    go_wp2_with fail
    go_ret
    exact ⟨by rw [z0, itx_zero]; rfl, below_alloc HB.out _⟩
  · have hpos : (0 : Int) < (a.length : Int) := by cases a with
      | nil => exact absurd rfl h0
      | cons => simp
    have hb0 : ((a.length : Int) == 0) = false := beq_eq_false_iff_ne.2 (by omega)
    have H0 := Lib.hid h0
    clear h0
    have HB := Lib.hid (Below.refl w.heap.size w)
    go_enter Tryz.func32, Tryz.ntmps32
    go_wp2_with (first | ((with_reducible refine gate_dst (N := 1) rfl ?_); refine bx_event rfl (cs := #[.bool na, .slice Aa a.length ca]) (t := 27) ?hr ?_; (case hr => first | (go_simp; done) | (go_simp; rfl)); intro g1 w1 hg bk hb; have HG1 := Lib.hid (Nat.le_trans HB.out.size hg); replace HB := Lib.hid (bth HB.out hb); replace HA := Lib.hid (HA.out.below hb); replace HTb := Lib.hid (HTb.out.below hb); have BK1 := Lib.hid bk; obtain ⟨c1_0, c1_1, f1_0, f1_1⟩ := BK1.out.all2; clear hb hg bk))
    clear c1_0 c1_1 f1_0 f1_1
    go_loopg [3, 4] ((V B32 a).toNat + 1) (fun gk v3 v4 w' => ∃ (l : List Int) (gs : List (List UInt8)), (V B32 l).toNat < gk ∧ Hid (TxRel w1 w' (V B32 a) l v4 v3 gs))
    case atStart => exact ⟨a, [], by omega, ⟨HA.out, FA.out.1, FA.out.2.1, Nat.le_trans HN.out.1 HN.out.2.2, Gr.zero _, (fun _ h => absurd h (by simp)), SB.nil _ _, HTb.out, Below.refl _ _⟩⟩
    case round =>
      obtain ⟨l, gs, hgk, HR⟩ := hrel
      have hsh := HR.out.mg.shape
      obtain ⟨A, c, rfl, hml⟩ := hsh
      have hV0 := V_nonneg (B := B32) (by decide) HR.out.dg
      by_cases hl : l = []
      · subst hl
        have hgr : txd (D10 (V B32 a).toNat) = gs.reverse.flatten := HR.out.gr.end_
        have hgl := HR.out.gr.len HR.out.ne
        have hN := V_ge (B := B32) (by decide) FA.out.1 FA.out.2.1 H0.out
        have hp := pow_pos' (B := B32) (by decide) (a.length - 1)
        have hne : gs ≠ [] := by
          rintro rfl
          have h1 := congrArg List.length hgr
          rw [txd_len] at h1
          have h2 := (D10_nil (V B32 a).toNat).1 (List.eq_nil_of_length_eq_zero h1)
          omega
        have hx : itx z = (if na = true then [45] else []) ++ gs.reverse.flatten := by rw [HZ.out, itx_sgn (by omega), hgr]
        have HX := Lib.hid hx
        have HGL := Lib.hid hgl
        have HNE := Lib.hid hne
        have HN2 := Lib.hid HN.out.2.1
        clear hgr hN hp hx hgl hne hgk hV0 hml
        go_wp2_with fail
        refine (HR.out.sb.reverse HNE.out (Nat.le_trans (Nat.le_trans HGL.out.1 HN2.out) (by omega)) HR.out.bl.size HR.out.bl).mono ?_
        rintro e y1 ⟨rfl, hsc, hb⟩
        have HSC := Lib.hid hsc
        have HB1 := Lib.hid hb
        clear hsc hb
        go_wp2_with fail
        refine (HSC.out.join (by rw [List.length_reverse]; exact (Nat.le_trans (Nat.le_trans HGL.out.1 HN2.out) (by omega))) (Nat.le_trans (Nat.le_trans HGL.out.2 HN2.out) (by omega))).mono ?_
        rintro e y2 ⟨rfl, hb⟩
        have HB2 := Lib.hid (bth HB1.out hb)
        have BK2 := Lib.hid (BK1.out.below HB2.out)
        have c1_0 := BK2.out.cell 0
        have c1_1 := BK2.out.cell 1
        have f1_0 := BK2.out.frozen 0
        have f1_1 := BK2.out.frozen 1
        clear hb
        have hgl2 := HGL.out.2
        have hn2 := HN2.out
        generalize gs.reverse.flatten = ft at *
        have hadd : ∀ W, Sem.run Tryz.prog (Op.stringOp .add ⟨#[45]⟩ (S ft)) W = .ok (.string (S (45 :: ft))) W := fun W => add_str [45] ft (by simp only [List.length_cons, List.length_nil]; omega) W
        clear hgl2 hn2
        cases na
        · go_wp2_with fail
          go_ret
          exact ⟨by rw [HX.out]; rfl, bth HB.out HB2.out⟩
        · go_wp2_with fail
          go_ret
          exact ⟨by rw [HX.out]; rfl, bth HB.out HB2.out⟩
      · have hl1 : (0 : Int) < (l.length : Int) := by cases l with
          | nil => exact absurd rfl hl
          | cons => simp
        have hV1 : 0 < V B32 l := by
          have := mt (Tr_ne (B := B32) (by decide) HR.out.dg HR.out.tr).2 hl
          omega
        have HV := Lib.hid (And.intro hV0 (And.intro hV1 hgk))
        clear hV0 hV1 hgk hl
        go_wp2_with fail
        refine (p_short9 _ l _ hml HR.out.dg (Nat.le_trans HR.out.ln (by omega))).mono ?_
        rintro e y1 ⟨A1, r, c1, k, rfl, hm1, hf, hk, hb⟩
        have HM1 := Lib.hid hm1
        have HF := Lib.hid hf
        have HK := Lib.hid hk
        have HT1 := Lib.hid (HR.out.tb.below hb)
        have HSB := Lib.hid (HR.out.sb.below hb)
        have HBL := Lib.hid (bth HR.out.bl hb)
        have hwk : wrap64 (k : Int) = (k : Int) := w64 (by omega) (by omega)
        clear hm1 hf hk hb
        go_wp2_with fail
        refine (p_itoa k HK.out.2 _ HT1.out).mono ?_
        rintro e y2 ⟨rfl, hb⟩
        have HM2 := Lib.hid (HM1.out.below hb)
        have HT2 := Lib.hid (HT1.out.below hb)
        have HSB2 := Lib.hid (HSB.out.below hb)
        have HBL2 := Lib.hid (bth HBL.out hb)
        clear hb HM1 HT1 HSB HBL
        have h9 := itx_len9 HK.out.2
        have hgp : ∀ q : Nat, grp q k = if q = 0 then itx (k : Int) else List.replicate (9 - (itx (k : Int)).length) 48 ++ itx (k : Int) := fun q => rfl
        generalize itx (k : Int) = t at *
        have hsz : (S t).size = t.length := S_size t
        have hgl := HR.out.gr.len HR.out.ne
        have HGP := Lib.hid hgp
        clear hgp
        by_cases hr : r = []
        · have hr1 : decide (0 < r.length) = false := by rw [hr]; rfl
          have HM := HM2
          have HSB := HSB2
          have HBL := HBL2
          have HG : Hid (t = grp (V B32 l / 1000000000).toNat (V B32 l % 1000000000).toNat) := by
            have h2 := HF.out.2.2.1
            have h3 : V B32 r = 0 := by rw [hr]; rfl
            have h4 := HK.out.1
            refine Lib.hid ?_
            rw [show (V B32 l % 1000000000).toNat = k by omega, HGP.out, if_pos (by omega)]
          have HGL := Lib.hid (Nat.le_trans hgl.1 HN.out.2.1)
          clear hr hgl HM2 HSB2 HBL2 h9
          go_wp2_with (first | ((with_reducible refine gate_builtin (b := .append) (xs := #[.tmp 35, .tmp 37]) rfl ?_); at_builtin; refine Kd.R_append Kd.string (w0 := w1) w1.heap.size rfl (.tmp 35) (.tmp 37) 95 9 (.string ⟨#[]⟩) 16 rfl Tryz.underlying95 info9 rfl (by decide) (by omega) u3 (gs.map S) (S t) [.string (S t)] (fun _ => True) (fun _ => False) rfl rfl ?aP (fun _ hk => hk.elim) ?aF ?aO ?aB ?aS ?aL ?_; (case aP => exact rfl); (case aB => exact HBL.out); (case aF => exact (fun _ _ => trivial)); (case aO => exact HSB.out); (case aS => exact HBL.out.size); (case aL => have := HGL.out; rw [List.length_map]; omega); intro v9 w9 ho hb hg hat; have HO9 := Lib.hid ho; have HK9 := Lib.hid hg; have HB9 := Lib.hid hb; clear ho hb hg hat))
          go_roundg (gk - 1)
          case measure => have := HV.out; omega
          case rel =>
            have h2 := HF.out.2.2.1
            have h3 := V_nonneg (B := B32) (by decide) HF.out.1
            have h5 := HV.out
            refine ⟨r, gs ++ [t], by omega, ⟨HM.out.kp (kp_grown HSB.out HK9.out), HF.out.1, HF.out.2.1, Nat.le_trans HF.out.2.2.2 HR.out.ln, ?_, HR.out.ne.snoc ?_, ?_, HTb.out.below HB9.out, HB9.out⟩⟩
            · rw [h2, HG.out]; exact HR.out.gr.step HV.out.2.1
            · rw [HG.out]; exact grp_ne _ _
            · show Kd.R _ _ _ _ _ _ _
              rw [List.map_append]; exact HO9.out
        · have hr1 : (0 : Int) < (r.length : Int) := by cases r with
            | nil => exact absurd rfl hr
            | cons => simp
          obtain ⟨cc, hcc⟩ : ∃ cc, 9 - t.length = cc := ⟨_, rfl⟩
          have hw9 : wrap64 (9 - (t.length : Int)) = (cc : Int) := by rw [w64 (by omega) (by omega)]; omega
          have HCC := Lib.hid (And.intro hcc h9)
          clear hcc h9
          go_wp2_with fail

          refine (p_zeros cc (by have := HCC.out; omega) _).mono ?_
          rintro e y3 ⟨rfl, hb⟩
          have HM := Lib.hid (HM2.out.below hb)
          have HT := Lib.hid (HT2.out.below hb)
          have HSB := Lib.hid (HSB2.out.below hb)
          have HBL := Lib.hid (bth HBL2.out hb)
          clear hb HM2 HT2 HSB2 HBL2
          have hzl : (List.replicate cc (48 : UInt8)).length = cc := List.length_replicate
          obtain ⟨zs, hzs⟩ : ∃ zs, List.replicate cc (48 : UInt8) = zs := ⟨_, rfl⟩
          rw [hzs] at hzl ⊢
          obtain ⟨GT, hGT⟩ : ∃ GT, zs ++ t = GT := ⟨_, rfl⟩
          have hadd : ∀ W, Sem.run Tryz.prog (Op.stringOp .add (S zs) (S t)) W = .ok (.string (S GT)) W := fun W => by rw [add_str zs t (by have := HCC.out; omega) W, hGT]
          have HG : Hid (GT = grp (V B32 l / 1000000000).toNat (V B32 l % 1000000000).toNat) := by
            have h1 := mt (Tr_ne (B := B32) (by decide) HF.out.1 HF.out.2.1).2 hr
            have h2 := HF.out.2.2.1
            have h3 := V_nonneg (B := B32) (by decide) HF.out.1
            have h4 := HK.out.1
            refine Lib.hid ?_
            rw [show (V B32 l % 1000000000).toNat = k by omega, HGP.out, if_neg (by omega), ← hGT, ← hzs, HCC.out.1]
          have HGL := Lib.hid (Nat.le_trans hgl.1 HN.out.2.1)
          clear hzs hzl hGT hr hgl
          go_wp2_with (first | ((with_reducible refine gate_builtin (b := .append) (xs := #[.tmp 35, .tmp 37]) rfl ?_); at_builtin; refine Kd.R_append Kd.string (w0 := w1) w1.heap.size rfl (.tmp 35) (.tmp 37) 95 9 (.string ⟨#[]⟩) 16 rfl Tryz.underlying95 info9 rfl (by decide) (by omega) u3 (gs.map S) (S GT) [.string (S GT)] (fun _ => True) (fun _ => False) rfl rfl ?aP (fun _ hk => hk.elim) ?aF ?aO ?aB ?aS ?aL ?_; (case aP => exact rfl); (case aB => exact HBL.out); (case aF => exact (fun _ _ => trivial)); (case aO => exact HSB.out); (case aS => exact HBL.out.size); (case aL => have := HGL.out; rw [List.length_map]; omega); intro v9 w9 ho hb hg hat; have HO9 := Lib.hid ho; have HK9 := Lib.hid hg; have HB9 := Lib.hid hb; clear ho hb hg hat))
          go_roundg (gk - 1)
          case measure => have := HV.out; omega
          case rel =>
            have h2 := HF.out.2.2.1
            have h3 := V_nonneg (B := B32) (by decide) HF.out.1
            have h5 := HV.out
            refine ⟨r, gs ++ [GT], by omega, ⟨HM.out.kp (kp_grown HSB.out HK9.out), HF.out.1, HF.out.2.1, Nat.le_trans HF.out.2.2.2 HR.out.ln, ?_, HR.out.ne.snoc ?_, ?_, HTb.out.below HB9.out, HB9.out⟩⟩
            · rw [h2, HG.out]; exact HR.out.gr.step HV.out.2.1
            · rw [HG.out]; exact grp_ne _ _
            · show Kd.R _ _ _ _ _ _ _
              rw [List.map_append]; exact HO9.out
end Go.Proofs.YtapckjeedekphaaGreatDoor

namespace Go.Proofs.YtapckjeedekphaaGreatDoor
open Go.RowKit Go.Proofs.YtapckjeedekphaaGreatDoorW.PrintWords PR
theorem r_chkI (l : List UInt8) (w : World) : Calls Tryz.prog 25 #[.string (S l)] w fun e w' => e = .returned (.int .i64 (chkI l)) ∧ Below w.heap.size w w' := by
  by_cases h : l.length ≤ 65536
  · exact (dowelref01_Check.calls _ _ _ w (check_eq l h (l.length + 1) (by omega))).mono fun _ _ ⟨h1, h2⟩ => ⟨h1, h2.below⟩
  · exact (dowelref01_Check.calls _ _ _ w (check_long l (by omega) 0)).mono fun _ _ ⟨h1, h2⟩ => ⟨h1, h2.below⟩
theorem TQ_divInt {m : Nat} {n d : Int} (hn : Td m n) (hd : Td m d) (h0 : d ≠ 0) : TQ m (Rat.divInt n d) := by
  have key : ∀ n d : Int, Td m n → Td m d → 0 < d → TQ m (Rat.divInt n d) := by
    intro n d hn hd h0
    obtain ⟨h1, h2⟩ := divInt_parts n d h0
    have hg := gcd_facts n d h0 hd
    unfold TQ
    rw [h1, h2]
    exact ⟨Td_of_le hn (natAbs_fdiv_le _ _ hg.1), Td_of_le hd (natAbs_fdiv_le _ _ hg.1)⟩
  rcases Int.lt_or_le 0 d with h | h
  · exact key n d hn hd h
  · rw [← Rat.neg_divInt_neg]
    exact key _ _ (Td_neg hn) (Td_neg hd) (by omega)
theorem add_eq (q r : Rat) : Rat.divInt (q.num * r.den + r.num * q.den) (q.den * r.den) = q + r := by
  rw [Rat.add_def', ← Rat.divInt_ofNat]
  simp
theorem den_ne (q : Rat) : (q.den : Int) ≠ 0 := by have := q.den_nz; omega
theorem TQ_neg {n : Nat} {q : Rat} (h : TQ n q) : TQ n (-q) := ⟨Td_neg h.1, h.2⟩
theorem TQ_add {m n : Nat} {q r : Rat} (hq : TQ m q) (hr : TQ n r) : TQ (m + n + 1) (q + r) := by
  rw [← add_eq]
  have h1 := Td_mul hq.1 hr.2
  have h2 := Td_mul hr.1 hq.2
  rw [Nat.add_comm] at h2
  exact TQ_divInt (Td_add h1 h2) (Td_mono (Td_mul hq.2 hr.2) (by omega)) (by have := den_ne q; have := den_ne r; exact Int.mul_ne_zero ‹_› ‹_›)
theorem qtx_len {n : Nat} {q : Rat} (h : TQ n q) : (qtx q).length ≤ 2 * n + 3 := by
  have h1 := itx_len_le h.1
  have h2 := itx_len_le h.2
  unfold qtx
  split
  · omega
  · simp; omega
theorem Td_floor {n : Nat} {q : Rat} (h : TQ n q) : Td n q.floor := by
  rw [Rat.floor_def, ← Int.fdiv_eq_ediv_of_nonneg _ (by omega)]
  exact Td_of_le h.1 (natAbs_fdiv_le _ _ (den_ne q))
end Go.Proofs.YtapckjeedekphaaGreatDoor

namespace Go.Proofs.YtapckjeedekphaaGreatDoor
open Go.RowKit Go.Proofs.YtapckjeedekphaaGreatDoorW.PrintWords PR
theorem S_idx (b : UInt8) (r : List UInt8) (h : 0 < (S (b :: r)).size) : (S (b :: r))[0]'h = b := by
  simp [S, ByteArray.getElem_eq_getElem_data]
theorem S_cons_size (b : UInt8) (r : List UInt8) : (S (b :: r)).size = r.length + 1 := by rw [S_size]; rfl
theorem byte_test (b c : UInt8) (n : Int) (hn : n = (c.toNat : Int)) : ((b.toNat : Int) == n) = (b == c) := by
  subst hn
  by_cases h : b = c
  · subst h; simp
  · have : ¬ (b.toNat : Int) = (c.toNat : Int) := fun e => h (byte_eq e)
    rw [beq_eq_false_iff_ne.2 h, beq_eq_false_iff_ne.2 this]
theorem lead_cons (b : UInt8) (r : List UInt8) : lead (b :: r) = (b == 48) := by unfold lead; simp
end Go.Proofs.YtapckjeedekphaaGreatDoor

namespace Go.Proofs.YtapckjeedekphaaGreatDoor
open Go.RowKit Go.Proofs.YtapckjeedekphaaGreatDoorW.PrintWords PR
theorem results_cell1 {P : Program} {fn : Func} {p u : Tmp} {ty : TypeId} (h : fn.results = #[.cell p ty, .tmp u]) (tmps : Array Value) (w : World) (g : Nat) (t : TypeId) (cs : Array Value) (fr : Nat × Nat) (d : TypeDesc)
    (hp : tmps.getD p undef = .pointer (some ⟨g, 0, none⟩)) (hg : w.heap[g]? = some (.cells cs t fr))
    (hu : P.underlying ty = some d) (hd : (match d with | .struct _ | .array _ _ => true | _ => false) = true) (hi : (P.info? ty).map (·.size) = some cs.size) :
    (results fn tmps).run P w = .ok (.tuple #[.agg cs, tmps.getD u undef]) w := by
  have hp' : tmps[p]?.getD undef = .pointer (some ⟨g, 0, none⟩) := by simpa using hp
  simp [results, h, hp', asAddr, run_loadVar_row w g t ty cs fr d hg hu hd hi, Result.andThen]
theorem p_noD (x : Nat) (hx : x ≤ 1114111) (w : World) : Calls Tryz.prog 120 #[.int .i32 (x : Int)] w fun e w' => e = .returned (.bool (noD x)) ∧ Below w.heap.size w w' := by
  have HB := Lib.hid (Below.refl w.heap.size w)
  by_cases h : x < 48
  · have e : noD x = true := by unfold noD; rw [decide_eq_true h]; rfl
    go_enter Tryz.func120, Tryz.ntmps120
    go_wp2_with fail
    go_ret
    exact ⟨rfl, by repeat (first | exact HB.out | apply below_alloc | apply pw_below_drewN | apply below_drew)⟩
  · have h3 : noD x = (decide ((x : Int) < 48) || decide ((57 : Int) < (x : Int))) := by
      unfold noD
      rw [show decide ((x : Int) < 48) = decide (x < 48) from decide_eq_decide.2 (by omega), show decide ((57 : Int) < (x : Int)) = decide (57 < x) from decide_eq_decide.2 (by omega)]
    have H3 := Lib.hid h3
    clear h3
    go_enter Tryz.func120, Tryz.ntmps120
    go_wp2_with fail
    go_ret
    exact ⟨by rw [H3.out]; rfl, by repeat (first | exact HB.out | apply below_alloc | apply pw_below_drewN | apply below_drew)⟩
theorem enter120 (args : Array Value) (w : World) : (callFunc 120 args).run Tryz.prog w = .ok (.enter 120 args) w := by
  have hf := Tryz.func120
  have hb : ∃ c, Tryz.f120.body = some c := ⟨_, rfl⟩
  obtain ⟨c, hb⟩ := hb
  have h1 : Tryz.f120.name ≠ "runtime.NumGoroutine" := by
    have h : (Tryz.f120.name == "runtime.NumGoroutine") = false := by kernel_rfl
    simpa using h
  simp [callFunc, hf, h1, hb]
theorem p_cut (l : List UInt8) (w : World) : Calls Tryz.prog 118 #[.string (S l), .string ⟨#[45]⟩] w fun e w' => e = .returned (.tuple #[.string (S (plain l)), .bool (decide (l.head? = some 45))]) ∧ w' = w := by
  refine (Tryz.strings_CutPrefix (S l) ⟨#[45]⟩ w).mono ?_
  rintro e w' ⟨rfl, rfl⟩
  refine ⟨?_, rfl⟩
  have h1 := cut_minus l
  rw [S_data]
  show Ending.returned (.tuple #[.string ⟨(Lib.trimPrefix l [45]).toArray⟩, .bool (Lib.hasPrefix l [45])]) = _
  rw [h1.1, h1.2]; rfl
theorem p_anyNoD (l : List UInt8) (w : World) : Calls Tryz.prog 119 #[.string (S l), .func (.func 120) #[] #[]] w fun e w' => e = .returned (.bool (!l.all isDig)) ∧ Below w.heap.size w w' := by
  refine (Tryz.strings_ContainsFunc_grows 120 #[] enter120 noD (S l) w (fun W x hx _ => p_noD x hx W)).mono ?_
  rintro e w' ⟨rfl, hb⟩
  exact ⟨by rw [idx_digs], hb⟩
theorem p_uint (l : List UInt8) (h : l.all isDig = true) (h0 : l ≠ []) (h9 : l.length ≤ 9) (w : World) : Calls Tryz.prog 121 #[.string (S l), .int .i64 10, .int .i64 32] w fun e w' => e = .returned (.tuple #[.int .u64 (dv l), .nilIface]) ∧ Below w.heap.size w w' := by
  refine (Tryz.strconv_ParseUint_10_at32_ok (S l) (by rw [S_size]; omega) (dv l).toNat (by rw [S_data]; exact uintB_digs h h0 h9) w).mono ?_
  rintro e w' ⟨rfl, hw⟩
  refine ⟨by rw [show ((dv l).toNat : Int) = dv l by have := (dv_range h).1; omega], ?_⟩
  rcases hw with rfl | rfl
  · exact Below.refl _ _
  · exact ⟨rfl, rfl, rfl, by rw [Lib.bytesWorld_size]; omega, fun k hk => Lib.bytesWorld_at_old w 5 (S l) k hk⟩
/-- The integer of a text, and its error. -/
def RetP (w : World) (l : List UInt8) (e : Ending) (w' : World) : Prop := ∃ v, e = .returned (.tuple #[v, .int .i64 (chkI l)]) ∧ RI w' v (if chkI l = 0 then vI l else 0) ∧ Below w.heap.size w w'
theorem RI.zero (w : World) : RI w (.agg #[.bool false, .slice none 0 0]) 0 := ⟨false, _, [], rfl, Mg.nil w, Dg_nil _, .inl rfl, (fun h => absurd h (by decide)), rfl⟩
theorem chk_steps (l : List UInt8) : (65536 < l.length → chkI l = 5) ∧ (¬ 65536 < l.length → plain l = [] → chkI l = 14) ∧ (¬ 65536 < l.length → (plain l).all isDig = false → chkI l = 14)
    ∧ (¬ 65536 < l.length → plain l ≠ [] → (plain l).all isDig = true → lead (plain l) = true → (1 < (plain l).length ∨ l.head? = some 45) → chkI l = 3)
    ∧ (¬ 65536 < l.length → plain l ≠ [] → (plain l).all isDig = true → ¬ (lead (plain l) = true ∧ (1 < (plain l).length ∨ l.head? = some 45)) → chkI l = 0) := by
  have hpl : l.head? = some 45 → l.length = (plain l).length + 1 := fun h => by
    cases l with
    | nil => cases h
    | cons b r => simp at h; subst h; rfl
  have hpl2 : ¬ l.head? = some 45 → plain l = l := fun h => by unfold plain; rw [if_neg h]
  have hd : ∀ h0 : plain l ≠ [], (plain l).all isDig = true → digs (plain l) = true := fun h0 h1 => by
    unfold digs; rw [h1]; cases h : plain l with
    | nil => exact absurd h h0
    | cons => rfl
  unfold chkI
  refine ⟨fun h => if_pos h, fun h h0 => by rw [if_neg h, h0]; rfl, fun h h0 => ?_, fun h h0 h1 h2 h3 => ?_, fun h h0 h1 h2 => ?_⟩
  · rw [if_neg h, if_pos (by unfold digs; rw [h0, Bool.and_false])]
  · rw [if_neg h, if_neg (by rw [hd h0 h1]; decide), if_pos]
    rw [h2, Bool.true_and, decide_eq_true]
    rcases h3 with h3 | h3
    · by_cases hm : l.head? = some 45
      · have := hpl hm; omega
      · rwa [hpl2 hm] at h3
    · have := hpl h3
      have : 0 < (plain l).length := by cases h : plain l with
        | nil => exact absurd h h0
        | cons => simp
      omega
  · rw [if_neg h, if_neg (by rw [hd h0 h1]; decide), if_neg]
    intro hc
    rw [Bool.and_eq_true, decide_eq_true_iff] at hc
    refine h2 ⟨hc.1, ?_⟩
    by_cases hm : l.head? = some 45
    · exact .inr hm
    · rw [hpl2 hm]; exact .inl hc.2
end Go.Proofs.YtapckjeedekphaaGreatDoor

namespace Go.Proofs.YtapckjeedekphaaGreatDoor
open Go.RowKit Go.Proofs.YtapckjeedekphaaGreatDoorW.PrintWords PR
theorem grp_count (L : Nat) (h0 : 0 < L) (h : L ≤ 65536) : ∃ L1 n9 nn : Nat, wrap64 ((L : Int) - 1) = (L1 : Int) ∧ Int.tmod (L1 : Int) 9 = (n9 : Int) ∧ wrap64 ((n9 : Int) + 1) = (nn : Int) ∧ nn ≤ L ∧ nn ≤ 9 ∧ 1 ≤ nn := by
  refine ⟨L - 1, (L - 1) % 9, (L - 1) % 9 + 1, ?_, ?_, ?_, ?_, ?_, ?_⟩
  · rw [w64 (by omega) (by omega)]; omega
  · rw [Int.tmod_eq_emod_of_nonneg (by omega)]; omega
  · rw [w64 (by omega) (by omega)]; omega
  · omega
  · omega
  · omega
structure PaRel (w0 w : World) (p rest : List UInt8) (m : List Int) (v : Value) : Prop where
  mg : Mg w v m
  dg : Dg B32 m
  tr : Tr m
  rd : Rd p rest (V B32 m)
  ln : m.length + rest.length ≤ p.length
  bl : Below w0.heap.size w0 w
theorem PaRel.below {w0 w w' : World} {p rest : List UInt8} {m : List Int} {v : Value} (h : PaRel w0 w p rest m v) (hb : Below w.heap.size w w') : PaRel w0 w' p rest m v := ⟨h.mg.below hb, h.dg, h.tr, h.rd, h.ln, bth h.bl hb⟩
theorem chk_digits {l : List UInt8} {b : UInt8} {r : List UInt8} {ng : Bool} (hl : ¬ 65536 < l.length) (hp : plain l = b :: r) (hn : decide (l.head? = some 45) = ng) (hd : (b :: r).all isDig = true) : chkI l = if b = 48 ∧ (0 < r.length ∨ ng = true) then 3 else 0 := by
  obtain ⟨_, _, _, h3, h4⟩ := chk_steps l
  rw [hp] at h3 h4
  have hx : (1 < (b :: r).length ∨ l.head? = some 45) ↔ (0 < r.length ∨ ng = true) := by
    rw [← hn, decide_eq_true_iff, List.length_cons, Nat.lt_add_left_iff_pos]
  have hy : lead (b :: r) = true ↔ b = 48 := by rw [lead_cons]; simp
  rw [hx, hy] at h3 h4
  split
  · rename_i h; exact h3 hl (by simp) hd h.1 h.2
  · rename_i h; exact h4 hl (by simp) hd h
set_option maxHeartbeats 1600000 in
theorem p_parse (l : List UInt8) (w : World) : Calls Tryz.prog 26 #[.string (S l)] w (RetP w l) := by
  have HS := Lib.hid (chk_steps l)
  have hsz := S_size l
  have HB := Lib.hid (Below.refl w.heap.size w)
  by_cases hl : 65536 < l.length
  · have HE := Lib.hid (HS.out.1 hl)
    go_enter Tryz.func26, Tryz.ntmps26
    go_wp2_with (first | ((with_reducible refine gate_dst (N := 2) rfl ?_); refine bx_event rfl (cs := #[.bool false, .slice none 0 0]) (t := 27) ?hr ?_; (case hr => first | (go_simp; done) | (go_simp; rfl)); intro g1 w1 hg bk hb; have HG1 := Lib.hid (Nat.le_trans HB.out.size hg); replace HB := Lib.hid (bth HB.out hb); have BK1 := Lib.hid bk; obtain ⟨c1_0, c1_1, f1_0, f1_1⟩ := BK1.out.all2; clear hb hg bk))
    refine bodyPost_ret (results_cell1 rfl _ _ g1 27 #[.bool false, .slice none 0 0] (0, 0) _ rfl ((BK1.out.set_ 0 _).set_ 1 _) Tryz.underlying27 rfl (by kernel_rfl)) rfl ?_
    exact ⟨_, by rw [HE.out]; rfl, by rw [HE.out]; exact RI.zero _, (HB.out.setCell HG1.out _).setCell HG1.out _⟩
  · have HL := Lib.hid hl
    have hl2 : decide ((65536 : Int) < (l.length : Int)) = false := decide_eq_false (by omega)
    clear hl
    go_enter Tryz.func26, Tryz.ntmps26
    go_wp2_with (first | ((with_reducible refine gate_dst (N := 2) rfl ?_); refine bx_event rfl (cs := #[.bool false, .slice none 0 0]) (t := 27) ?hr ?_; (case hr => first | (go_simp; done) | (go_simp; rfl)); intro g1 w1 hg bk hb; have HG1 := Lib.hid (Nat.le_trans HB.out.size hg); replace HB := Lib.hid (bth HB.out hb); have BK1 := Lib.hid bk; obtain ⟨c1_0, c1_1, f1_0, f1_1⟩ := BK1.out.all2; clear hb hg bk))
    refine (p_cut l w1).mono ?_
    rintro e w2 ⟨rfl, rfl⟩
    have HV := Lib.hid (vI_plain l)
    obtain ⟨p, hp⟩ : ∃ p, plain l = p := ⟨_, rfl⟩
    obtain ⟨ng, hng⟩ : ∃ ng, decide (l.head? = some 45) = ng := ⟨_, rfl⟩
    rw [hp, hng]
    have HP := Lib.hid hp
    have HNG := Lib.hid hng
    clear hp hng
    have HPT := Lib.hid (S_toList p)
    by_cases h0 : p = []
    · have HE := Lib.hid (HS.out.2.1 HL.out (by rw [HP.out]; exact h0))
      have e0 : ((S p).toList == []) = true := by rw [HPT.out, h0]; rfl
      clear h0
      go_wp2_with fail
      refine bodyPost_ret (results_cell1 rfl _ _ g1 27 #[.bool false, .slice none 0 0] (0, 0) _ rfl ((BK1.out.set_ 0 _).set_ 1 _) Tryz.underlying27 rfl (by kernel_rfl)) rfl ?_
      exact ⟨_, by rw [HE.out]; rfl, by rw [HE.out]; exact RI.zero _, (HB.out.setCell HG1.out _).setCell HG1.out _⟩
    · have h1 : 0 < p.length := by cases p with
        | nil => exact absurd rfl h0
        | cons => simp
      have e0 : ((S p).toList == []) = false := by rw [HPT.out]; exact beq_eq_false_iff_ne.2 h0
      have H0 := Lib.hid h0
      clear h0
      go_wp2_with fail
      refine (p_anyNoD p w2).mono ?_
      rintro e w3 ⟨rfl, hb⟩
      replace HB := Lib.hid (bth HB.out hb)
      replace BK1 := Lib.hid (BK1.out.below hb)
      clear c1_0 c1_1 f1_0 f1_1
      obtain ⟨c1_0, c1_1, f1_0, f1_1⟩ := BK1.out.all2
      clear hb
      cases hd : p.all isDig
      · have HE := Lib.hid (HS.out.2.2.1 HL.out (by rw [HP.out]; exact hd))
        clear hd
        go_wp2_with fail
        refine bodyPost_ret (results_cell1 rfl _ _ g1 27 #[.bool false, .slice none 0 0] (0, 0) _ rfl ((BK1.out.set_ 0 _).set_ 1 _) Tryz.underlying27 rfl (by kernel_rfl)) rfl ?_
        exact ⟨_, by rw [HE.out]; rfl, by rw [HE.out]; exact RI.zero _, (HB.out.setCell HG1.out _).setCell HG1.out _⟩
      · have HD := Lib.hid hd
        clear hd
        obtain ⟨b, r, rfl⟩ : ∃ b r, p = b :: r := by cases p with
          | nil => exact absurd rfl H0.out
          | cons b r => exact ⟨b, r, rfl⟩
        have q1 := S_cons_size b r
        have q2 := S_idx b r
        have HC := Lib.hid (byte_test b 48 48 rfl)
        have HLD := Lib.hid (lead_cons b r)
        clear e0 h1
        by_cases hc : b = 48 ∧ (0 < r.length ∨ ng = true)
        · have HE : Hid (chkI l = 3) := Lib.hid (by rw [chk_digits HL.out HP.out HNG.out HD.out, if_pos hc])
          have c2 : ((b.toNat : Int) == 48) = true := by rw [HC.out, hc.1]; rfl
          have hc2 := hc.2
          clear hc
          by_cases h2 : 0 < r.length
          · clear hc2
            go_wp2_with fail
            refine bodyPost_ret (results_cell1 rfl _ _ g1 27 #[.bool false, .slice none 0 0] (0, 0) _ rfl ((BK1.out.set_ 0 _).set_ 1 _) Tryz.underlying27 rfl (by kernel_rfl)) rfl ?_
            exact ⟨_, by rw [HE.out]; rfl, by rw [HE.out]; exact RI.zero _, (HB.out.setCell HG1.out _).setCell HG1.out _⟩
          · have h3 : ng = true := hc2.resolve_left h2
            subst h3
            clear hc2
            go_wp2_with fail
            refine bodyPost_ret (results_cell1 rfl _ _ g1 27 #[.bool false, .slice none 0 0] (0, 0) _ rfl ((BK1.out.set_ 0 _).set_ 1 _) Tryz.underlying27 rfl (by kernel_rfl)) rfl ?_
            exact ⟨_, by rw [HE.out]; rfl, by rw [HE.out]; exact RI.zero _, (HB.out.setCell HG1.out _).setCell HG1.out _⟩
        · have HE : Hid (chkI l = 0) := Lib.hid (by rw [chk_digits HL.out HP.out HNG.out HD.out, if_neg hc])
          by_cases hb48 : b = 48
          · have c2 : ((b.toNat : Int) == 48) = true := by rw [HC.out, hb48]; rfl
            obtain rfl : r = [] := by
              cases r with
              | nil => rfl
              | cons x y => exact absurd ⟨hb48, .inl (by simp)⟩ hc
            have hng : ng = false := by cases ng; rfl; exact absurd ⟨hb48, .inr rfl⟩ hc
            subst hng
            clear hb48

            go_wp2_with fail
            have BKx := BK1
            clear c1_0 c1_1 f1_0 f1_1 q1 q2 c2 HC HLD HS HPT H0
            obtain ⟨p, hp⟩ : ∃ p, b :: [] = p := ⟨_, rfl⟩
            rw [hp] at HP HD ⊢
            have HPL : Hid (p.length ≤ 65536) := by
              have h1 := HP.out
              have h2 : (plain l).length ≤ l.length := by unfold plain; split <;> simp
              rw [h1] at h2
              have := HL.out
              exact Lib.hid (by omega)
            clear hp hc
            go_loopg [4, 6] (p.length + 1) (fun gk v4 v6 w' => ∃ (rest : List UInt8) (m : List Int), rest.length < gk ∧ Hid (v4 = .string (S rest) ∧ PaRel w3 w' p rest m v6))
            case atStart => exact ⟨p, [], by omega, rfl, Mg.nil _, Dg_nil _, .inl rfl, Rd.start p, by simp, Below.refl _ _⟩
            case round =>
              obtain ⟨rest, m, hgk, HR0⟩ := hrel
              obtain ⟨rfl, hR⟩ := HR0.out
              have hsh := hR.mg.shape
              obtain ⟨A, c, rfl, _⟩ := hsh
              have HR := Lib.hid hR
              clear HR0 hR
              have hsr := S_size rest
              by_cases hr : rest = []
              · subst hr
                have hz : vI l = sgn false (V B32 m) := by
                  rw [HV.out, HP.out, HNG.out, HR.out.rd.end_]
                have HPS := Lib.hid (p_signed false _ m wr HR.out.mg HR.out.dg (vI l) hz)
                have HBL := Lib.hid HR.out.bl
                clear hz hgk HR
                go_wp2_with fail
                refine HPS.out.mono ?_
                rintro e y1 ⟨v1, rfl, hv, hb⟩
                have HB1 := Lib.hid (bth HB.out (bth HBL.out hb))
                have BK2 := Lib.hid (BK1.out.below (bth HBL.out hb))
                have HV1 := Lib.hid hv
                obtain ⟨n1, A1, k1, cc1, rfl⟩ := hv.shape
                clear hv hb
                have c1_0 := BK2.out.cell 0
                have c1_1 := BK2.out.cell 1
                have f1_0 := BK2.out.frozen 0
                have f1_1 := BK2.out.frozen 1
                go_wp2_with fail
                refine bodyPost_ret (results_cell1 rfl _ _ g1 27 #[.bool _, .slice A1 k1 cc1] (0, 0) _ rfl ((BK2.out.set_ 0 _).set_ 1 _) Tryz.underlying27 rfl (by kernel_rfl)) rfl ?_
                exact ⟨_, by rw [HE.out]; rfl, by rw [HE.out, if_pos rfl]; exact HV1.out.kp (((Kp.refl _).box BK2.out (by decide) 0 _).box (BK2.out.set_ 0 _) (by decide) 1 _), (HB1.out.setCell HG1.out _).setCell HG1.out _⟩
              · have hr0 : 0 < rest.length := by cases rest with
                  | nil => exact absurd rfl hr
                  | cons => simp
                have hln := HR.out.ln
                have hpl := HPL.out
                obtain ⟨L, hL⟩ : ∃ L, rest.length = L := ⟨_, rfl⟩
                rw [hL] at hsr hr0 hgk hln
                obtain ⟨L1, n9, nn, hw1, hw2, hw3, hb1, hb2, hb3⟩ := grp_count L hr0 (by have := hln; omega)
                have HN := Lib.hid (And.intro hL (And.intro hgk (And.intro hln hr)))
                obtain ⟨gz, hgz⟩ : ∃ gz, gk = gz := ⟨_, rfl⟩
                have HGZ := Lib.hid hgz
                clear hgz
                clear hL hgk hln hr hpl
                go_wp2_with fail
                rw [hw3]
                clear hw1 hw2 hw3
                go_loopg [8, 48] (nn + 1) (fun gj v8 v48 w' => ∃ (i d : Nat), i ≤ nn ∧ nn < gj + i ∧ v8 = .int .u32 (d : Int) ∧ v48 = .int .i64 (i : Int) ∧ Hid (d = 10 ^ i ∧ PaRel w3 w' p rest m (.slice A m.length c)))
                case atStart => exact ⟨0, 1, by omega, by omega, rfl, rfl, rfl, HR.out⟩
                case round =>
                  obtain ⟨i, d, hi, hgj, rfl, rfl, hR2⟩ := hrel
                  clear HR
                  by_cases hlt : i < nn
                  · obtain ⟨d2, hd2⟩ : ∃ d2, d * 10 = d2 := ⟨_, rfl⟩
                    have hwd : IntKind.u32.wrap ((d : Int) * 10) = (d2 : Int) := by
                      have h1 : (10 : Nat) ^ i ≤ 10 ^ 8 := Nat.pow_le_pow_right (by decide) (by omega)
                      rw [← hR2.out.1] at h1
                      rw [IntKind.wrap_u32]
                      omega
                    have hwi : wrap64 ((i : Int) + 1) = ((i + 1 : Nat) : Int) := by rw [w64 (by omega) (by omega)]; omega
                    have HD2 := Lib.hid hd2
                    have HJ := Lib.hid (And.intro hi hgj)
                    clear hd2 hi hgj
                    go_wp2_with fail
                    go_roundg (gk - 1)
                    case measure => have := HJ.out; omega
                    case rel => exact ⟨i + 1, d2, by omega, by have := HJ.out; omega, rfl, rfl, by rw [← HD2.out, hR2.out.1, Nat.pow_succ], hR2.out.2⟩
                  · obtain rfl : i = nn := by omega
                    have hdd := hR2.out.1
                    have HR := Lib.hid hR2.out.2
                    clear hR2 hgj hi hlt
                    have hx1 : (S rest).extract 0 i = S (rest.take i) := S_extract0 rest i
                    have hx2 : (S rest).extract i L = S (rest.drop i) := S_extract rest i L HN.out.1.symm
                    have hall := HR.out.rd.digs HD.out
                    have ht1 := all_take hall i
                    have ht2 : (rest.take i).length = i := by rw [List.length_take, HN.out.1]; omega
                    have hdr : (rest.drop i).length = L - i := by rw [List.length_drop, HN.out.1]
                    have HRS := Lib.hid (HR.out.rd.step HD.out i (by rw [HN.out.1]; exact hb1))
                    obtain ⟨tk, htk⟩ : ∃ tk, rest.take i = tk := ⟨_, rfl⟩
                    obtain ⟨dp, hdp⟩ : ∃ dp, rest.drop i = dp := ⟨_, rfl⟩
                    rw [htk] at hx1 ht1 ht2
                    rw [hdp] at hx2 hdr
                    have ht3 := dv_range ht1
                    obtain ⟨dn, hdn⟩ := Int.eq_ofNat_of_zero_le ht3.1
                    have h9 : (10 : Int) ^ tk.length ≤ 10 ^ 9 := pow_le' (by decide) (by omega)
                    have hwn : IntKind.u32.wrap (dn : Int) = (dn : Int) := by rw [IntKind.wrap_u32]; omega
                    have hd9 : d ≤ 10 ^ 9 := by rw [hdd]; exact Nat.pow_le_pow_right (by decide) hb2
                    have HT := Lib.hid (And.intro ht1 (And.intro ht2 (And.intro hdn (And.intro hdr (And.intro htk hdp)))))
                    have HDD := Lib.hid (And.intro hdd hd9)
                    have HX := Lib.hid (p_uint tk ht1 (by intro e; rw [e] at ht2; simp at ht2; omega) (by omega) wr)
                    have HDN := Lib.hid (show dn < 1000000000 by omega)
                    clear ht1 ht2 ht3 hdr htk hdp h9 hd9 hdd hall
                    go_wp2_with fail
                    refine HX.out.mono ?_
                    rintro e y1 ⟨rfl, hb⟩
                    rw [HT.out.2.2.1]
                    have HR1 := Lib.hid (HR.out.below hb)
                    clear hb HR
                    go_wp2_with fail
                    refine (p_scale _ m (d : Int) (dn : Int) y1 HR1.out.mg HR1.out.dg ⟨by omega, by have := HDD.out.2; omega⟩ ⟨by omega, by have := HDN.out; omega⟩ (by have := HN.out.2.2.1; have := HPL.out; omega)).mono ?_
                    rintro e y2 ⟨v2, r2, rfl, hm, hdg, htr, hV, hln, hb⟩
                    have HR2 := Lib.hid (And.intro hdg (And.intro htr (And.intro hV hln)))
                    have HB2 := Lib.hid (bth HR1.out.bl hb)
                    obtain ⟨A2, c2, rfl, hm⟩ := hm.shape
                    have HM2 := Lib.hid hm
                    clear hm hdg htr hV hln hb
                    go_wp2_with fail
                    go_roundg (gz - 1)
                    case measure => have := HGZ.out; have := HN.out.2.1; omega
                    case rel =>
                      have h1 := HT.out
                      have h2 := HN.out
                      have h3 := HGZ.out
                      refine ⟨dp, r2, by omega, rfl, ⟨HM2.out, HR2.out.1, HR2.out.2.1, ?_, ?_, HB2.out⟩⟩
                      · have h4 := HRS.out
                        rw [h1.2.2.2.2.1, h1.2.2.2.2.2, h1.2.2.1] at h4
                        rw [HR2.out.2.2.1, HDD.out.1]
                        rw [show ((10 ^ i : Nat) : Int) = (10 : Int) ^ i by simp]
                        exact h4
                      · have h5 := HR2.out.2.2.2
                        omega
          · have c2 : ((b.toNat : Int) == 48) = false := by rw [HC.out]; exact beq_eq_false_iff_ne.2 hb48
            clear hb48

            go_wp2_with fail
            have BKx := BK1
            clear c1_0 c1_1 f1_0 f1_1 q1 q2 c2 HC HLD HS HPT H0
            obtain ⟨p, hp⟩ : ∃ p, b :: r = p := ⟨_, rfl⟩
            rw [hp] at HP HD ⊢
            have HPL : Hid (p.length ≤ 65536) := by
              have h1 := HP.out
              have h2 : (plain l).length ≤ l.length := by unfold plain; split <;> simp
              rw [h1] at h2
              have := HL.out
              exact Lib.hid (by omega)
            clear hp hc
            go_loopg [4, 6] (p.length + 1) (fun gk v4 v6 w' => ∃ (rest : List UInt8) (m : List Int), rest.length < gk ∧ Hid (v4 = .string (S rest) ∧ PaRel w3 w' p rest m v6))
            case atStart => exact ⟨p, [], by omega, rfl, Mg.nil _, Dg_nil _, .inl rfl, Rd.start p, by simp, Below.refl _ _⟩
            case round =>
              obtain ⟨rest, m, hgk, HR0⟩ := hrel
              obtain ⟨rfl, hR⟩ := HR0.out
              have hsh := hR.mg.shape
              obtain ⟨A, c, rfl, _⟩ := hsh
              have HR := Lib.hid hR
              clear HR0 hR
              have hsr := S_size rest
              by_cases hr : rest = []
              · subst hr
                have hz : vI l = sgn ng (V B32 m) := by
                  rw [HV.out, HP.out, HNG.out, HR.out.rd.end_]
                have HPS := Lib.hid (p_signed ng _ m wr HR.out.mg HR.out.dg (vI l) hz)
                have HBL := Lib.hid HR.out.bl
                clear hz hgk HR
                go_wp2_with fail
                refine HPS.out.mono ?_
                rintro e y1 ⟨v1, rfl, hv, hb⟩
                have HB1 := Lib.hid (bth HB.out (bth HBL.out hb))
                have BK2 := Lib.hid (BK1.out.below (bth HBL.out hb))
                have HV1 := Lib.hid hv
                obtain ⟨n1, A1, k1, cc1, rfl⟩ := hv.shape
                clear hv hb
                have c1_0 := BK2.out.cell 0
                have c1_1 := BK2.out.cell 1
                have f1_0 := BK2.out.frozen 0
                have f1_1 := BK2.out.frozen 1
                go_wp2_with fail
                refine bodyPost_ret (results_cell1 rfl _ _ g1 27 #[.bool _, .slice A1 k1 cc1] (0, 0) _ rfl ((BK2.out.set_ 0 _).set_ 1 _) Tryz.underlying27 rfl (by kernel_rfl)) rfl ?_
                exact ⟨_, by rw [HE.out]; rfl, by rw [HE.out, if_pos rfl]; exact HV1.out.kp (((Kp.refl _).box BK2.out (by decide) 0 _).box (BK2.out.set_ 0 _) (by decide) 1 _), (HB1.out.setCell HG1.out _).setCell HG1.out _⟩
              · have hr0 : 0 < rest.length := by cases rest with
                  | nil => exact absurd rfl hr
                  | cons => simp
                have hln := HR.out.ln
                have hpl := HPL.out
                obtain ⟨L, hL⟩ : ∃ L, rest.length = L := ⟨_, rfl⟩
                rw [hL] at hsr hr0 hgk hln
                obtain ⟨L1, n9, nn, hw1, hw2, hw3, hb1, hb2, hb3⟩ := grp_count L hr0 (by have := hln; omega)
                have HN := Lib.hid (And.intro hL (And.intro hgk (And.intro hln hr)))
                obtain ⟨gz, hgz⟩ : ∃ gz, gk = gz := ⟨_, rfl⟩
                have HGZ := Lib.hid hgz
                clear hgz
                clear hL hgk hln hr hpl
                go_wp2_with fail
                rw [hw3]
                clear hw1 hw2 hw3
                go_loopg [8, 48] (nn + 1) (fun gj v8 v48 w' => ∃ (i d : Nat), i ≤ nn ∧ nn < gj + i ∧ v8 = .int .u32 (d : Int) ∧ v48 = .int .i64 (i : Int) ∧ Hid (d = 10 ^ i ∧ PaRel w3 w' p rest m (.slice A m.length c)))
                case atStart => exact ⟨0, 1, by omega, by omega, rfl, rfl, rfl, HR.out⟩
                case round =>
                  obtain ⟨i, d, hi, hgj, rfl, rfl, hR2⟩ := hrel
                  clear HR
                  by_cases hlt : i < nn
                  · obtain ⟨d2, hd2⟩ : ∃ d2, d * 10 = d2 := ⟨_, rfl⟩
                    have hwd : IntKind.u32.wrap ((d : Int) * 10) = (d2 : Int) := by
                      have h1 : (10 : Nat) ^ i ≤ 10 ^ 8 := Nat.pow_le_pow_right (by decide) (by omega)
                      rw [← hR2.out.1] at h1
                      rw [IntKind.wrap_u32]
                      omega
                    have hwi : wrap64 ((i : Int) + 1) = ((i + 1 : Nat) : Int) := by rw [w64 (by omega) (by omega)]; omega
                    have HD2 := Lib.hid hd2
                    have HJ := Lib.hid (And.intro hi hgj)
                    clear hd2 hi hgj
                    go_wp2_with fail
                    go_roundg (gk - 1)
                    case measure => have := HJ.out; omega
                    case rel => exact ⟨i + 1, d2, by omega, by have := HJ.out; omega, rfl, rfl, by rw [← HD2.out, hR2.out.1, Nat.pow_succ], hR2.out.2⟩
                  · obtain rfl : i = nn := by omega
                    have hdd := hR2.out.1
                    have HR := Lib.hid hR2.out.2
                    clear hR2 hgj hi hlt
                    have hx1 : (S rest).extract 0 i = S (rest.take i) := S_extract0 rest i
                    have hx2 : (S rest).extract i L = S (rest.drop i) := S_extract rest i L HN.out.1.symm
                    have hall := HR.out.rd.digs HD.out
                    have ht1 := all_take hall i
                    have ht2 : (rest.take i).length = i := by rw [List.length_take, HN.out.1]; omega
                    have hdr : (rest.drop i).length = L - i := by rw [List.length_drop, HN.out.1]
                    have HRS := Lib.hid (HR.out.rd.step HD.out i (by rw [HN.out.1]; exact hb1))
                    obtain ⟨tk, htk⟩ : ∃ tk, rest.take i = tk := ⟨_, rfl⟩
                    obtain ⟨dp, hdp⟩ : ∃ dp, rest.drop i = dp := ⟨_, rfl⟩
                    rw [htk] at hx1 ht1 ht2
                    rw [hdp] at hx2 hdr
                    have ht3 := dv_range ht1
                    obtain ⟨dn, hdn⟩ := Int.eq_ofNat_of_zero_le ht3.1
                    have h9 : (10 : Int) ^ tk.length ≤ 10 ^ 9 := pow_le' (by decide) (by omega)
                    have hwn : IntKind.u32.wrap (dn : Int) = (dn : Int) := by rw [IntKind.wrap_u32]; omega
                    have hd9 : d ≤ 10 ^ 9 := by rw [hdd]; exact Nat.pow_le_pow_right (by decide) hb2
                    have HT := Lib.hid (And.intro ht1 (And.intro ht2 (And.intro hdn (And.intro hdr (And.intro htk hdp)))))
                    have HDD := Lib.hid (And.intro hdd hd9)
                    have HX := Lib.hid (p_uint tk ht1 (by intro e; rw [e] at ht2; simp at ht2; omega) (by omega) wr)
                    have HDN := Lib.hid (show dn < 1000000000 by omega)
                    clear ht1 ht2 ht3 hdr htk hdp h9 hd9 hdd hall
                    go_wp2_with fail
                    refine HX.out.mono ?_
                    rintro e y1 ⟨rfl, hb⟩
                    rw [HT.out.2.2.1]
                    have HR1 := Lib.hid (HR.out.below hb)
                    clear hb HR
                    go_wp2_with fail
                    refine (p_scale _ m (d : Int) (dn : Int) y1 HR1.out.mg HR1.out.dg ⟨by omega, by have := HDD.out.2; omega⟩ ⟨by omega, by have := HDN.out; omega⟩ (by have := HN.out.2.2.1; have := HPL.out; omega)).mono ?_
                    rintro e y2 ⟨v2, r2, rfl, hm, hdg, htr, hV, hln, hb⟩
                    have HR2 := Lib.hid (And.intro hdg (And.intro htr (And.intro hV hln)))
                    have HB2 := Lib.hid (bth HR1.out.bl hb)
                    obtain ⟨A2, c2, rfl, hm⟩ := hm.shape
                    have HM2 := Lib.hid hm
                    clear hm hdg htr hV hln hb
                    go_wp2_with fail
                    go_roundg (gz - 1)
                    case measure => have := HGZ.out; have := HN.out.2.1; omega
                    case rel =>
                      have h1 := HT.out
                      have h2 := HN.out
                      have h3 := HGZ.out
                      refine ⟨dp, r2, by omega, rfl, ⟨HM2.out, HR2.out.1, HR2.out.2.1, ?_, ?_, HB2.out⟩⟩
                      · have h4 := HRS.out
                        rw [h1.2.2.2.2.1, h1.2.2.2.2.2, h1.2.2.1] at h4
                        rw [HR2.out.2.2.1, HDD.out.1]
                        rw [show ((10 ^ i : Nat) : Int) = (10 : Int) ^ i by simp]
                        exact h4
                      · have h5 := HR2.out.2.2.2
                        omega

end Go.Proofs.YtapckjeedekphaaGreatDoor

namespace Go.Proofs.YtapckjeedekphaaGreatDoor
open Go.RowKit Go.Proofs.YtapckjeedekphaaGreatDoorW.PrintWords PR
/-- Only the block g may differ, of the blocks that were there. -/
structure Far (g : Nat) (w w' : World) : Prop where
  os : w'.os = w.os
  tape : w'.tape = w.tape
  output : w'.output = w.output
  size : w.heap.size ≤ w'.heap.size
  block : ∀ k, k ≠ g → k < w.heap.size → w'.heap[k]? = w.heap[k]?
theorem Far.refl (g : Nat) (w : World) : Far g w w := ⟨rfl, rfl, rfl, Nat.le_refl _, fun _ _ _ => rfl⟩
theorem Far.trans {g : Nat} {a b c : World} (h : Far g a b) (k : Far g b c) : Far g a c := ⟨k.os.trans h.os, k.tape.trans h.tape, k.output.trans h.output, Nat.le_trans h.size k.size, fun i hi hs => (k.block i hi (Nat.lt_of_lt_of_le hs h.size)).trans (h.block i hi hs)⟩
theorem Far.drewN {g : Nat} {a b : World} (h : Far g a b) (n : Nat) : Far g a (b.drewN n) := ⟨h.os, h.tape, h.output, h.size, h.block⟩
theorem Far.below {g B : Nat} {a b : World} (h : Far g a b) (hB : B ≤ g) (hs : g < a.heap.size) : Below B a b := ⟨h.os, h.tape, h.output, h.size, fun k hk => h.block k (by omega) (by omega)⟩
theorem Far.setCell {g : Nat} {a b : World} (h : Far g a b) (i : Nat) (u : Value) : Far g a (b.setCell ⟨g, i, none⟩ u) := by
  have h2 := (Below.refl 0 b).setCell (p := ⟨g, i, none⟩) (Nat.zero_le _) u
  exact h.trans ⟨h2.os, h2.tape, h2.output, h2.size, fun k hk _ => Below.heap_setCell b ⟨g, i, none⟩ u k hk⟩
/-- The block of uint32s begins with these. -/
def WB (w : World) (g : Nat) (xs : List Int) : Prop := ∃ cs : Array Value, w.heap[g]? = some (.cells cs 140 (0, 0)) ∧ ∀ j, j < xs.length → cs[j]? = some (.int .u32 (rd xs j))
section
variable {w w' : World} {g : Nat} {xs : List Int}
theorem WB.lt (h : WB w g xs) : g < w.heap.size := by
  obtain ⟨cs, h, _⟩ := h
  rcases Nat.lt_or_ge g w.heap.size with hlt | hge
  · exact hlt
  · rw [Array.getElem?_eq_none hge] at h; cases h
theorem WB.cell (h : WB w g xs) (j : Nat) (hj : j < xs.length) : w.cell? ⟨g, j, none⟩ = some (.int .u32 (rd xs j)) := by
  obtain ⟨cs, h1, h2⟩ := h
  rw [cell_of_row w g j cs 140 (0, 0) h1]
  exact h2 j hj
theorem WB.frozen (h : WB w g xs) (j : Nat) : w.frozen? ⟨g, j, none⟩ = false := by
  obtain ⟨cs, h1, _⟩ := h
  simp [World.frozen?, h1]
theorem WB.set_ (h : WB w g xs) (i : Nat) (hi : i < xs.length) (u : Int) : WB (w.setCell ⟨g, i, none⟩ (.int .u32 u)) g (xs.set i u) := by
  obtain ⟨cs, h1, h2⟩ := h
  refine ⟨cs.setIfInBounds i (.int .u32 u), by simp [World.setCell, Array.getElem?_modify, h1], fun j hj => ?_⟩
  have hj' : j < xs.length := by simpa using hj
  by_cases e : i = j
  · subst e
    have hs : i < cs.size := by
      rcases Nat.lt_or_ge i cs.size with hlt | hge
      · exact hlt
      · have := h2 i hi; rw [Array.getElem?_eq_none hge] at this; cases this
    rw [Array.getElem?_setIfInBounds_self_of_lt hs, rd_set_self _ _ _ hi]
  · rw [Array.getElem?_setIfInBounds_ne e, h2 j hj', rd_set_ne _ _ _ _ e]
theorem WB.far {k : Nat} (h : WB w g xs) (hf : Far k w w') (hk : g ≠ k) : WB w' g xs := by
  have hl := h.lt
  obtain ⟨cs, h1, h2⟩ := h
  exact ⟨cs, (hf.block g hk hl).trans h1, h2⟩
theorem WB.below (h : WB w g xs) (hb : Below w.heap.size w w') : WB w' g xs := by
  have hl := h.lt
  obtain ⟨cs, h1, h2⟩ := h
  exact ⟨cs, (hb.block g hl).trans h1, h2⟩
theorem WB.take (h : WB w g xs) (m : Nat) : WB w g (xs.take m) := by
  obtain ⟨cs, h1, h2⟩ := h
  refine ⟨cs, h1, fun j hj => ?_⟩
  have hj' : j < xs.length := by rw [List.length_take] at hj; omega
  rw [h2 j hj', rd_nat xs j hj', rd_nat _ j hj]
  simp
theorem WB.Mg (h : WB w g xs) {c : Nat} (hc : xs.length ≤ c) (hl : xs.length ≤ 9223372036854775807) : Mg w (.slice (some ⟨g, 0, none⟩) xs.length c) xs := by
  refine ⟨_, c, rfl, hc, hl, fun _ => ?_⟩
  have hh := h
  obtain ⟨cs, h1, h2⟩ := hh
  exact ⟨⟨g, 0, none⟩, cs, rfl, h1, fun j hj => by rw [add_plain]; exact h.cell j hj⟩
end
theorem IB.WB {w : World} {g : Nat} {xs : List Int} (h : IB w g 140 .u32 xs) : WB w g xs :=
  ⟨_, h, fun j hj => by rw [← cell_of_row w g j _ 140 (0, 0) h]; exact h.cell j hj⟩
theorem WB.of_R {w : World} {v : Value} {l : List Int} {base : Nat} {ok : Nat → Prop} (h : Kd.R (Kd.int .u32) 140 w base ok v l) (hn : 0 < l.length) : ∃ g c, v = .slice (some ⟨g, 0, none⟩) l.length c ∧ l.length ≤ c ∧ base ≤ g ∧ WB w g l := by
  obtain ⟨inner, ho⟩ := Kd.R_own h
  obtain ⟨A, c, e, h1, h2⟩ := Kd.R_reads h
  subst e
  obtain ⟨g, cap, hv, hg, _⟩ := ho.form hn
  injection hv with e1 _ _
  subst e1
  obtain ⟨cells, hc⟩ := own_typed ho g rfl
  refine ⟨g, c, rfl, h1, hg, cells, hc, fun j hj => ?_⟩
  obtain ⟨ad, e2, h3⟩ := Kd.at_int h2 (j : Int) (by omega) (by omega)
  injection e2 with e2
  subst e2
  rw [← cell_of_row w g j cells 140 (0, 0) hc]
  have e : (⟨g, 0, none⟩ : Addr).add ((j : Int)).toNat = ⟨g, j, none⟩ := by rw [Int.toNat_natCast, add_plain]
  rw [← e]
  exact h3
/-- A window of a block. -/
theorem win_rd (pre mid post : List Int) (j : Nat) (h : j < mid.length) : rd (pre ++ mid ++ post) ((pre.length + j : Nat) : Int) = rd mid (j : Int) := by
  rw [rd_nat _ _ (by simp; omega), rd_nat _ _ h, List.getElem_append_left (by simp; omega), List.getElem_append_right (by omega)]
  simp
theorem win_set (pre mid post : List Int) (j : Nat) (h : j < mid.length) (v : Int) : (pre ++ mid ++ post).set (pre.length + j) v = pre ++ mid.set j v ++ post := by
  rw [List.set_append_left _ _ (by simp; omega), List.set_append_right _ _ (by omega)]
  simp
def Win (w : World) (g : Nat) (pre post mid : List Int) : Prop := WB w g (pre ++ mid ++ post)
theorem Win.cell {w : World} {g : Nat} {pre post mid : List Int} (h : Win w g pre post mid) (j : Nat) (hj : j < mid.length) : w.cell? ⟨g, pre.length + j, none⟩ = some (.int .u32 (rd mid j)) := by
  rw [WB.cell h (pre.length + j) (by simp; omega), win_rd _ _ _ _ hj]
theorem Win.set_ {w : World} {g : Nat} {pre post mid : List Int} (h : Win w g pre post mid) (j : Nat) (hj : j < mid.length) (v : Int) : Win (w.setCell ⟨g, pre.length + j, none⟩ (.int .u32 v)) g pre post (mid.set j v) := by
  have h2 := WB.set_ h (pre.length + j) (by simp; omega) v
  rw [win_set _ _ _ _ hj] at h2
  exact h2
/-- The result is a block of the call's own with the digits of a value. -/
def RetW (w : World) (x : Int) (n : Nat) (e : Ending) (w' : World) : Prop := ∃ g c r, e = .returned (.slice (some ⟨g, 0, none⟩) r.length c) ∧ r.length ≤ c ∧ w.heap.size ≤ g ∧ WB w' g r ∧ Dg B32 r ∧ V B32 r = x ∧ r.length = n ∧ Below w.heap.size w w'
theorem p_raised (v : Value) (l : List Int) (s : Nat) (w : World) (hv : Mg w v l) (hd : Dg B32 l) (hs : s ≤ 31) (hl : l.length ≤ 1000000000) : Calls Tryz.prog 209 #[v, .int .i64 s] w (RetW w (V B32 l * 2 ^ s) (l.length + 1)) := by
  obtain ⟨A, c, rfl, hv⟩ := hv.shape
  obtain ⟨r, h1, h2, h3, h4⟩ := raised_eq l hl hd s hs (l.length + 1) (by omega)
  refine (integer_raised.calls _ _ _ _ _ _ w hv.C.2.2 hv.C.2.1 h1).mono ?_
  rintro e w' ⟨v, rfl, hR, hb⟩
  obtain ⟨g, c2, rfl, h5, h6, h7⟩ := WB.of_R hR (by omega)
  exact ⟨g, c2, r, rfl, h5, h6, h7, h3, h4, h2, hb⟩
end Go.Proofs.YtapckjeedekphaaGreatDoor

namespace Go.Proofs.YtapckjeedekphaaGreatDoor
open Go.RowKit Go.Proofs.YtapckjeedekphaaGreatDoorW.PrintWords PR
theorem kd_end {P W qv t u c b M : Int} (ht : t = u - b - c) (hM : M = W - qv + P * (c + b)) : M + P * (t - u) = W - qv := by rw [hM, ht]; grind
theorem kd_neg {P low t D : Int} (hD : D = low + P * t) (hl : 0 ≤ low ∧ low < P) (h : -P < D) (ht : t < 0) : t = -1 := by
  rcases Int.lt_or_le t (-1) with h1 | h1
  · have : P * t ≤ P * (-2) := Int.mul_le_mul_of_nonneg_left (by omega) (by omega)
    omega
  · omega
theorem kd_one {P low c R : Int} (hD : low + P * (c - 1) = R) (hl : 0 ≤ low ∧ low < P) (hR : 0 ≤ R ∧ R < P) : c = 1 := by
  rcases Int.lt_or_le c 1 with h1 | h1
  · have : P * (c - 1) ≤ P * (-1) := Int.mul_le_mul_of_nonneg_left (by omega) (by omega)
    omega
  · rcases Int.lt_or_le 1 c with h2 | h2
    · have : P * 1 ≤ P * (c - 1) := Int.mul_le_mul_of_nonneg_left (by omega) (by omega)
      omega
    · omega
theorem q_small {h q v1 r : Int} (e : h = q * v1 + r) (hr : 4294967296 ≤ r) (hh : h ≤ v1 * 4294967296 + 4294967295) (hv : 0 < v1) : q < 4294967296 := by
  rcases Int.lt_or_le q 4294967296 with h1 | h1
  · exact h1
  · have : 4294967296 * v1 ≤ q * v1 := Int.mul_le_mul_of_nonneg_right h1 (by omega)
    omega
structure DigMem (w w' : World) (g gv : Nat) (pre post mid vs : List Int) (m : Nat) : Prop where
  win : Win w' g pre post mid
  wv : WB w' gv vs
  len : mid.length = m + 3
  dg : Dg B32 mid
  far : Far g w w'
theorem DigMem.set_ {w w' : World} {g gv : Nat} {pre post mid vs : List Int} {m : Nat} (h : DigMem w w' g gv pre post mid vs m) (hne : gv ≠ g) (j : Nat) (hj : j < m + 3) {v : Int} (hv : 0 ≤ v ∧ v < 4294967296) : DigMem w (w'.setCell ⟨g, pre.length + j, none⟩ (.int .u32 v)) g gv pre post (mid.set j v) vs m := by
  refine ⟨h.win.set_ j (by rw [h.len]; exact hj) v, h.wv.far ((Far.refl g w').setCell _ _) hne, by simpa using h.len, Dg_set32 h.dg _ hv, h.far.setCell _ _⟩
theorem DigMem.drewN {w w' : World} {g gv : Nat} {pre post mid vs : List Int} {m : Nat} (h : DigMem w w' g gv pre post mid vs m) (n : Nat) : DigMem w (w'.drewN n) g gv pre post mid vs m := ⟨h.win, h.wv, h.len, h.dg, h.far.drewN n⟩
theorem dig2_step {mid mid' vs : List Int} {q c b x d Q t X : Int} {j : Nat} (hj : j < mid'.length) (hjv : j < vs.length) (hx : rd mid' j = x) (hd : rd vs j = d) (hX : X = c + q * d) (ht : t = x - b - X % 4294967296) (hQ : (t < 0 ∧ Q = 1) ∨ (0 ≤ t ∧ Q = 0)) (hr : -4294967296 ≤ t ∧ t < 4294967296)
    (hV : V 4294967296 mid' = (V 4294967296 mid - q * V 4294967296 (vs.take j)) + 4294967296 ^ j * (c + b)) : V 4294967296 (mid'.set j (t % 4294967296)) = (V 4294967296 mid - q * V 4294967296 (vs.take (j + 1))) + 4294967296 ^ (j + 1) * (X / 4294967296 + Q) := by
  rw [V_set _ _ _ _ hj, V_take_succ _ _ _ hjv, hx, hd, kd_sub hX ht (Q := Q) (by omega) hV, Int.pow_succ, Int.mul_add q]
  omega
theorem dig3_step {mid mid' vs : List Int} {c x d s : Int} {j : Nat} (hj : j < mid'.length) (hjv : j < vs.length) (hx : rd mid' j = x) (hd : rd vs j = d) (hs : s = c + (x + d))
    (hV : V 4294967296 mid' + 4294967296 ^ j * c = V 4294967296 mid + V 4294967296 (vs.take j)) : V 4294967296 (mid'.set j (s % 4294967296)) + 4294967296 ^ (j + 1) * (s / 4294967296) = V 4294967296 mid + V 4294967296 (vs.take (j + 1)) := by
  rw [V_set _ _ _ _ hj, V_take_succ _ _ _ hjv, hx, hd, Int.pow_succ]
  have e : s % 4294967296 + 4294967296 * (s / 4294967296) = s := Int.emod_add_mul_ediv s _
  have e2 : (4294967296 : Int) ^ j * (s % 4294967296 + 4294967296 * (s / 4294967296)) = 4294967296 ^ j * s := by rw [e]
  rw [hs] at e2 ⊢
  grind
theorem dig_same {mid mid' : List Int} {j n : Nat} {v : Int} (h : ∀ i, j ≤ i → i < n → rd mid' (i : Int) = rd mid i) : ∀ i, j + 1 ≤ i → i < n → rd (mid'.set j v) (i : Int) = rd mid i := fun i h1 h2 => by
  rw [rd_set_ne _ _ _ _ (by omega)]
  exact h i (by omega) h2
theorem dig_top (l : List Int) (n : Nat) (h : l.length = n + 1) : V 4294967296 l = V 4294967296 (l.take n) + 4294967296 ^ n * rd l n := by
  rw [← V_take_over 4294967296 l (n + 1) (by omega), V_take_succ _ _ _ (by omega)]
theorem dig_neg {mid mid' vs : List Int} {q c b u2 : Int} {j : Nat} (hl : mid'.length = j + 1) (hlv : vs.length = j) (dm : Dg 4294967296 mid') (dv : Dg 4294967296 vs) (hu : rd mid' (j : Int) = u2) (hV : V 4294967296 mid' = (V 4294967296 mid - q * V 4294967296 (vs.take j)) + 4294967296 ^ j * (c + b))
    (hx : q * V 4294967296 vs < V 4294967296 mid + V 4294967296 vs) (ht : u2 - b - c < 0) (hm : 0 ≤ V 4294967296 mid) : u2 - b - c = -1 ∧ V 4294967296 (mid'.set j ((u2 - b - c) % 4294967296)) = (V 4294967296 mid - q * V 4294967296 vs) + 4294967296 ^ j * 4294967296 ∧ V 4294967296 mid - q * V 4294967296 vs < 0 ∧ rd (mid'.set j ((u2 - b - c) % 4294967296)) (j : Int) = 4294967295 ∧ 1 ≤ q := by
  rw [V_take_over _ vs j (by omega)] at hV
  have h1 := dig_top mid' j hl
  have h2 := V_take_range (B := 4294967296) (by decide) dm j (by omega)
  have h3 := V_lt (B := 4294967296) (by decide) dv
  have h4 := V_nonneg (B := 4294967296) (by decide) dv
  rw [hlv] at h3
  rw [hu] at h1
  generalize V 4294967296 (mid'.take j) = low at *
  generalize hP : (4294967296 : Int) ^ j = P at *
  have hD : V 4294967296 mid - q * V 4294967296 vs = low + P * (u2 - b - c) := by grind
  have e := kd_neg hD h2 (by omega) ht
  rw [e] at hD
  have hq : 1 ≤ q := by
    rcases Int.lt_or_le q 1 with h | h
    · have : q * V 4294967296 vs ≤ 0 := Int.mul_nonpos_of_nonpos_of_nonneg (by omega) h4
      omega
    · exact h
  refine ⟨e, ?_, by omega, ?_, hq⟩
  · rw [V_set _ _ _ _ (by omega), e, hu, hV, hP, show (-1 : Int) % 4294967296 = 4294967295 from rfl]
    have e2 : P * (c + b) + P * (4294967295 - u2) = P * 4294967296 := by rw [← Int.mul_add]; congr 1; omega
    omega
  · rw [rd_set_self _ _ _ (by omega), e]; rfl
theorem dig_back {mid2 mid3 vs : List Int} {D c : Int} {j : Nat} (hl : mid3.length = j + 1) (hlv : vs.length = j) (d3 : Dg 4294967296 mid3) (dv : Dg 4294967296 vs) (hu : rd mid3 (j : Int) = 4294967295) (hV : V 4294967296 mid3 + 4294967296 ^ j * c = V 4294967296 mid2 + V 4294967296 (vs.take j))
    (h2 : V 4294967296 mid2 = D + 4294967296 ^ j * 4294967296) (hD : D < 0) (hD2 : 0 ≤ D + V 4294967296 vs) : c = 1 ∧ V 4294967296 (mid3.set j 0) = D + V 4294967296 vs := by
  rw [V_take_over _ vs j (by omega)] at hV
  have h1 := dig_top mid3 j hl
  have h3 := V_take_range (B := 4294967296) (by decide) d3 j (by omega)
  have h4 := V_lt (B := 4294967296) (by decide) dv
  rw [hlv] at h4
  rw [hu] at h1
  generalize V 4294967296 (mid3.take j) = low at *
  have hs : V 4294967296 (mid3.set j 0) = V 4294967296 mid3 + 4294967296 ^ j * (0 - 4294967295) := by rw [V_set _ _ _ _ (by omega), hu]
  generalize hP : (4294967296 : Int) ^ j = P at *
  have hc : c = 1 := kd_one (P := P) (low := low) (R := D + V 4294967296 vs) (by grind) h3 ⟨hD2, by omega⟩
  subst hc
  exact ⟨rfl, by rw [hs]; omega⟩
def Dig1 (w w' : World) (g gv : Nat) (pre post mid vs : List Int) (m : Nat) (h v1 q r : Int) : Prop := DigMem w w' g gv pre post mid vs m ∧ h = q * v1 + r ∧ V B32 mid < (q + 1) * V B32 vs
def Dig2 (w w' : World) (g gv : Nat) (pre post mid vs : List Int) (m : Nat) (q : Int) (j : Nat) (cb : Int) : Prop := ∃ mid', DigMem w w' g gv pre post mid' vs m ∧ (∀ i, j ≤ i → i < m + 3 → rd mid' (i : Int) = rd mid i) ∧ V 4294967296 mid' = (V 4294967296 mid - q * V 4294967296 (vs.take j)) + 4294967296 ^ j * cb
def Dig3 (w w' : World) (g gv : Nat) (pre post mid vs : List Int) (m : Nat) (j : Nat) (c : Int) : Prop := ∃ mid', DigMem w w' g gv pre post mid' vs m ∧ (∀ i, j ≤ i → i < m + 3 → rd mid' (i : Int) = rd mid i) ∧ V 4294967296 mid' + 4294967296 ^ j * c = V 4294967296 mid + V 4294967296 (vs.take j)
/-- What the call of digit brings. -/
def RetG (w : World) (g : Nat) (pre post mid vs : List Int) (m : Nat) (e : Ending) (w' : World) : Prop := ∃ q mid', e = .returned (.int .u32 q) ∧ 0 ≤ q ∧ q < 4294967296 ∧ mid'.length = m + 3 ∧ Dg B32 mid' ∧ V B32 mid = q * V B32 vs + V B32 mid' ∧ V B32 mid' < V B32 vs ∧ Win w' g pre post mid' ∧ Far g w w'
set_option maxRecDepth 4000 in
set_option maxHeartbeats 1600000 in
theorem p_digit (g gv : Nat) (pre mid post vs : List Int) (cu cv m : Nat) (w : World) (hu : Win w g pre post mid) (hv : WB w gv vs) (hne : gv ≠ g) (lm : mid.length = m + 3) (lv : vs.length = m + 2)
    (hcu : m + 3 ≤ cu) (hcv : m + 2 ≤ cv) (hm : m ≤ 1000000000) (_ : pre.length ≤ 2000000000) (dm : Dg B32 mid) (dv : Dg B32 vs) (hlt : V B32 mid < B32 * V B32 vs) (htop : 2147483648 ≤ rd vs ((m + 1 : Nat) : Int)) :
    Calls Tryz.prog 210 #[.slice (some ⟨g, pre.length, none⟩) (m + 3) cu, .slice (some ⟨gv, 0, none⟩) (m + 2) cv] w (RetG w g pre post mid vs m) := by
  have hu0 := hu.cell m (by omega)
  have hu1 := hu.cell (m + 1) (by omega)
  have hu2 := hu.cell (m + 2) (by omega)
  have hv0 := hv.cell m (by omega)
  have hv1 := hv.cell (m + 1) (by omega)
  have ru0 : 0 ≤ rd mid m ∧ rd mid m < 4294967296 := Dg_rd dm m (by omega)
  have ru1 : 0 ≤ rd mid ((m + 1 : Nat) : Int) ∧ rd mid ((m + 1 : Nat) : Int) < 4294967296 := Dg_rd dm (m + 1) (by omega)
  have ru2 : 0 ≤ rd mid ((m + 2 : Nat) : Int) ∧ rd mid ((m + 2 : Nat) : Int) < 4294967296 := Dg_rd dm (m + 2) (by omega)
  have rv0 : 0 ≤ rd vs m ∧ rd vs m < 4294967296 := Dg_rd dv m (by omega)
  have rv1 : 0 ≤ rd vs ((m + 1 : Nat) : Int) ∧ rd vs ((m + 1 : Nat) : Int) < 4294967296 := Dg_rd dv (m + 1) (by omega)
  have eU := V_three mid m lm B32
  have eW := V_two vs m lv B32
  have bU := V_take_range (B := B32) (by decide) dm m (by omega)
  have bW := V_take_range (B := B32) (by decide) dv m (by omega)
  have hP : (0 : Int) < B32 ^ m := pow_pos' (by decide) m
  generalize hLU : V B32 (mid.take m) = LU at *
  generalize hLV : V B32 (vs.take m) = LV at *
  generalize hPP : (B32 : Int) ^ m = P at *
  generalize hx0 : rd mid (m : Int) = u0 at *
  generalize hx1 : rd mid ((m + 1 : Nat) : Int) = u1 at *
  generalize hx2 : rd mid ((m + 2 : Nat) : Int) = u2 at *
  generalize hy0 : rd vs (m : Int) = v2 at *
  generalize hy1 : rd vs ((m + 1 : Nat) : Int) = v1 at *
  have HX := Lib.hid (And.intro hx0 (And.intro hx2 (And.intro hy0 hy1)))
  clear hx0 hx1 hx2 hy0 hy1
  have h21 : u2 ≤ v1 := by
    have h1 : V B32 mid < B32 * V B32 vs := hlt
    rw [eU, eW] at h1
    have h2 : P * (v2 + B32 * v1) + P ≤ P * (B32 * (v1 + 1)) := by
      have : P * (v2 + B32 * v1 + 1) ≤ P * (B32 * (v1 + 1)) := Int.mul_le_mul_of_nonneg_left (by show _ ≤ 4294967296 * (v1 + 1); show v2 + 4294967296 * v1 + 1 ≤ _; omega) (by omega)
      rw [Int.mul_add, Int.mul_one] at this
      exact this
    have h3 : P * (B32 * B32 * u2) ≤ P * (u0 + B32 * (u1 + B32 * u2)) := Int.mul_le_mul_of_nonneg_left (by show 4294967296 * 4294967296 * u2 ≤ u0 + 4294967296 * (u1 + 4294967296 * u2); omega) (by omega)
    have h4 : P * (B32 * B32 * u2) < P * (B32 * B32 * (v1 + 1)) := by
      have : B32 * (LV + P * (v2 + B32 * v1)) < B32 * (P * (B32 * (v1 + 1))) := Int.mul_lt_mul_of_pos_left (by omega) (by decide)
      have e : B32 * (P * (B32 * (v1 + 1))) = P * (B32 * B32 * (v1 + 1)) := by grind
      omega
    have h5 := Int.lt_of_mul_lt_mul_left h4 (by omega)
    have h6 : (4294967296 * 4294967296 : Int) * u2 < 4294967296 * 4294967296 * (v1 + 1) := h5
    omega
  obtain ⟨h, hh⟩ : ∃ h, h = u2 * 4294967296 + u1 := ⟨_, rfl⟩
  have hor := or_digit ru2 ru1
  rw [← hh] at hor
  have hb0 : 0 ≤ h ∧ h ≤ 18446744073709551615 := by omega
  have e1 : h.tdiv v1 = h / v1 := Int.tdiv_eq_ediv_of_nonneg hb0.1
  have e2 : h.tmod v1 = h % v1 := Int.tmod_eq_emod_of_nonneg hb0.1
  have hqr : h = (h / v1) * v1 + h % v1 := by have := Int.emod_add_mul_ediv h v1; rw [Int.mul_comm v1] at this; omega
  have hr0 : 0 ≤ h % v1 := Int.emod_nonneg _ (by omega)
  have hr1 : h % v1 < v1 := Int.emod_lt_of_pos _ (by omega)
  have hq0 : 0 ≤ h / v1 := Int.ediv_nonneg hb0.1 (by omega)
  have hq1 : h / v1 < 4294967298 := by
    apply Int.ediv_lt_of_lt_mul (by omega)
    omega
  generalize hq : h / v1 = q0 at *
  generalize hr : h % v1 = r0 at *
  have HU := Lib.hid (And.intro hu (And.intro hv (And.intro dm (And.intro dv hlt))))
  have HE := Lib.hid (And.intro eU (And.intro eW (And.intro bU (And.intro bW hP))))
  have HQ := Lib.hid (And.intro hh (And.intro hqr (And.intro hLU (And.intro hLV hPP))))
  clear hu hv dm dv hlt eU eW bU bW hP hh hqr hLU hLV hPP hq hr
  obtain ⟨L, hL⟩ : ∃ L, L = m + 2 := ⟨_, rfl⟩
  have hm3 : m + 3 = L + 1 := by omega
  rw [← hL, hm3]
  rw [← hL] at hcv hu2
  rw [hm3] at hcu
  rw [show m + 1 = L - 1 by omega] at hu1 hv1
  have hL2 : 2 ≤ L := by omega
  have hL3 : L ≤ 1000000002 := by omega
  have hi1 : IntKind.i64.wrap ((L:Int) - 2) = (L:Int) - 2 := by rw [IntKind.wrap_i64]; omega
  have hi2 : (2:Int) ≤ (L:Int) := by omega
  have hw1 : IntKind.u64.wrap v2 = v2 := u64in rv0.1 (by omega)
  have hw2 : IntKind.u64.wrap u0 = u0 := u64in ru0.1 (by omega)
  have hi3 : (L:Int) - 2 < (L:Int) := by omega
  have hi4 : (L:Int) - 2 < (L:Int) + 1 := by omega
  have hi5 : ((L:Int) - 2).toNat = L - 2 := by omega
  have HLm : Hid (L = m + 2) := hL
  clear hL hm3 hu0 hv0
  go_enter Tryz.func210, Tryz.ntmps210
  go_wp2_with fail
  go_quiet (fail)
  go_wp2_with fail
  go_quiet (fail)
  go_wp2_with fail
  clear hu1 hu2 hv1 hor e1 e2
  go_loopg [7, 8] (4294967300) (fun gk x7 x8 w' => ∃ (q r : Int), 0 ≤ q ∧ q < 4294967298 ∧ q < (gk : Int) ∧ 0 ≤ r ∧ r < 4294967296 + v1 ∧ x7 = .int .u64 q ∧ x8 = .int .u64 r ∧ Hid (Dig1 w w' g gv pre post mid vs m h v1 q r))
  case atStart =>
    have hh := HQ.out.1
    refine ⟨q0, r0, hq0, hq1, by omega, hr0, by omega, rfl, rfl, ⟨HU.out.1, HU.out.2.1, lm, HU.out.2.2.1, ⟨rfl, rfl, rfl, Nat.le_refl _, fun _ _ _ => rfl⟩⟩, HQ.out.2.1, ?_⟩
    obtain ⟨eU, eW, bU, bW, hP⟩ := HE.out
    rw [eU, eW]
    refine kd_ge (by decide) hP bU.2 bW.1 hq0 rv0.1 ru0.2 ?_
    have h2 := HQ.out.2.1
    have e : (q0 + 1) * v1 = q0 * v1 + v1 := by grind
    show u1 + 4294967296 * u2 < _
    omega
  case round =>
    obtain ⟨q, r, hq0', hq1', hgk, hr0', hr1', rfl, rfl, HR⟩ := hrel
    clear hq0 hq1 hr0 hr1
    obtain ⟨hm1, hqr, hge⟩ := HR.out
    have hu0 := hm1.win.cell m (by rw [lm]; omega)
    have hv0 := hm1.wv.cell m (by omega)
    have hv1 := hm1.wv.cell (m + 1) (by omega)
    obtain ⟨hU2, hU1, hU0⟩ : rd mid ((m : Nat) : Int) = u0 ∧ rd vs ((m : Nat) : Int) = v2 ∧ rd vs ((m + 1 : Nat) : Int) = v1 := ⟨HX.out.1, HX.out.2.2.1, HX.out.2.2.2⟩
    rw [hU2, show m = L - 2 by have := HLm.out; omega] at hu0
    rw [hU1, show m = L - 2 by have := HLm.out; omega] at hv0
    rw [hU0, show m + 1 = L - 1 by have := HLm.out; omega] at hv1
    clear hU2 hU1 hU0
    by_cases hrb : r < 4294967296
    · obtain ⟨H, hH⟩ : ∃ H, H = r * 4294967296 + u0 := ⟨_, rfl⟩
      have hor := or_digit ⟨hr0', hrb⟩ ru0
      rw [← hH] at hor
      have bH : 0 ≤ H ∧ H ≤ 18446744073709551615 := by omega
      have hw3 : IntKind.u64.wrap (r * 4294967296) = r * 4294967296 := u64in (by omega) (by omega)
      by_cases hqb : 4294967296 ≤ q
      · have HH := Lib.hid (And.intro hm1 (And.intro hqr hge))
        clear hm1 hqr hge HR hH
        go_wp2_with fail
        go_quiet (fail)
        go_wp2_with fail
        go_roundg (gk - 1)
        case measure => omega
        case rel =>
          obtain ⟨hm1, hqr, hge⟩ := HH.out
          refine ⟨q - 1, r + v1, by omega, by omega, by omega, by omega, by omega, rfl, rfl, hm1.drewN nq, by rw [hqr]; grind, ?_⟩
          have h0 : 0 ≤ V B32 vs := V_nonneg (by decide) HU.out.2.2.2.1
          have h1 : B32 * V B32 vs ≤ q * V B32 vs := Int.mul_le_mul_of_nonneg_right hqb h0
          have h2 := HU.out.2.2.2.2
          rw [show q - 1 + 1 = q by omega]
          omega
      · have hp := mul_u32 (a := q) (b := v2) ⟨hq0', by omega⟩ rv0
        obtain ⟨p, hpe⟩ : ∃ p, p = q * v2 := ⟨_, rfl⟩
        rw [← hpe] at hp
        have hpe' := hpe.symm
        have hw4 : IntKind.u64.wrap p = p := u64in hp.1 (by omega)
        by_cases hgt : H < p
        · have HH := Lib.hid (And.intro hm1 (And.intro hqr (And.intro hge (And.intro hH hpe))))
          have hq1p : 1 ≤ q := by
            rcases Int.lt_or_le 0 q with h1 | h1
            · omega
            · have : q = 0 := by omega
              rw [this, Int.zero_mul] at hpe
              omega
          clear hm1 hqr hge HR hH hpe
          go_wp2_with fail
          go_quiet (fail)
          go_wp2_with fail
          go_roundg (gk - 1)
          case measure => omega
          case rel =>
            obtain ⟨hm1, hqr, hge, hH, hpe⟩ := HH.out
            refine ⟨q - 1, r + v1, by omega, by omega, by omega, by omega, by omega, rfl, rfl, hm1.drewN nq, by rw [hqr]; grind, ?_⟩
            obtain ⟨eU, eW, bU, bW, hP⟩ := HE.out
            rw [show q - 1 + 1 = q by omega, eU, eW]
            refine kd_gt hP bU.2 bW.1 hq0' (rest := r) ?_ (by show q * v2 > r * 4294967296 + u0; omega)
            have := HQ.out.1
            show u1 + 4294967296 * u2 = _
            omega
        · have hxt : q * V B32 vs < V B32 mid + V B32 vs := by
            obtain ⟨eU, eW, bU, bW, hP⟩ := HE.out
            rw [eU, eW]
            refine kd_exit (by decide) hP bU.1 bW ⟨hq0', by show q < 4294967296; omega⟩ (by omega) rv0.1 (rest := r) ?_ (by show q * v2 ≤ r * 4294967296 + u0; omega)
            have := HQ.out.1
            show u1 + 4294967296 * u2 = _
            omega
          have hqB : q < 4294967296 := by omega
          have HH := Lib.hid (And.intro hm1 (And.intro hqr (And.intro hge hxt)))
          clear hm1 hqr hge HR hH hpe hxt
          go_wp2_with fail
          go_quiet (fail)
          go_wp2_with fail
          have HM0 := Lib.hid (HH.out.1.drewN nq)
          have HX2 := Lib.hid HH.out.2.2
          clear HH hu0 hv0 hv1
          
          go_loopg [9, 10, 86] (L + 1) (fun gj v9 v10 v86 w' => ∃ (j : Nat) (c b : Int), j ≤ L ∧ L < gj + j ∧ 0 ≤ c ∧ c < 4294967296 ∧ 0 ≤ b ∧ b ≤ 1 ∧ v9 = .int .u64 c ∧ v10 = .int .i64 b ∧ v86 = .int .i64 j ∧ Hid (Dig2 w w' g gv pre post mid vs m q j (c + b)))
          case atStart => exact ⟨0, 0, 0, by omega, by omega, by omega, by omega, by omega, by omega, rfl, rfl, rfl, mid, HM0.out, fun _ _ _ => rfl, by simp [V]⟩
          case round =>
            clear HM0
            obtain ⟨j, c, b, hj, hgj, hc0, hc1, hb0', hb1', rfl, rfl, rfl, HI⟩ := hrel
            by_cases hjl : j < L
            · obtain ⟨mid', hm, hsame, hV⟩ := HI.out
              have hlen := hm.len
              have hLm := HLm.out
              have cu_ := hm.win.cell j (by omega)
              have hfr := WB.frozen hm.win (pre.length + j)
              have cv_ := hm.wv.cell j (by omega)
              have rx : 0 ≤ rd mid' (j : Int) ∧ rd mid' (j : Int) < 4294967296 := Dg_rd hm.dg j (by omega)
              have rv : 0 ≤ rd vs (j : Int) ∧ rd vs (j : Int) < 4294967296 := Dg_rd HU.out.2.2.2.1 j (by omega)
              have hpr := mul_u32 (a := q) ⟨hq0', hqB⟩ rv
              generalize hx : rd mid' (j : Int) = x at *
              generalize hd : rd vs (j : Int) = d at *
              have HH := Lib.hid (And.intro hx (And.intro hd (And.intro hm (And.intro hsame hV))))
              have HL := Lib.hid hlen
              clear hx hd hm hsame hV hlen HI hLm
              by_cases ht : x - b - (c + q * d) % 4294967296 < 0
              · go_wp2_with fail
                obtain ⟨hx, hd, hm, hsame, hV⟩ := HH.out
                have hlen := HL.out
                have hLm := HLm.out
                go_roundg (gk - 1)
                case measure => omega
                case rel =>
                  refine ⟨j + 1, (c + q * d) / 4294967296, 1, by omega, by omega, by omega, by omega, by omega, by omega, rfl, rfl, rfl, _, hm.set_ hne j (by omega) (v := (x - b - (c + q * d)) % 4294967296) (by omega), dig_same hsame, ?_⟩
                  rw [show (x - b - (c + q * d)) % 4294967296 = (x - b - (c + q * d) % 4294967296) % 4294967296 by omega]
                  exact dig2_step (by omega) (by omega) hx hd rfl rfl (Or.inl ⟨ht, rfl⟩) (by omega) hV
              · go_wp2_with fail
                obtain ⟨hx, hd, hm, hsame, hV⟩ := HH.out
                have hlen := HL.out
                have hLm := HLm.out
                go_roundg (gk - 1)
                case measure => omega
                case rel =>
                  refine ⟨j + 1, (c + q * d) / 4294967296, 0, by omega, by omega, by omega, by omega, by omega, by omega, rfl, rfl, rfl, _, hm.set_ hne j (by omega) (v := x - b - (c + q * d) % 4294967296) (by omega), dig_same hsame, ?_⟩
                  rw [show x - b - (c + q * d) % 4294967296 = (x - b - (c + q * d) % 4294967296) % 4294967296 by omega]
                  exact dig2_step (by omega) (by omega) hx hd rfl rfl (Or.inr ⟨by omega, rfl⟩) (by omega) hV
            · obtain rfl : j = L := by omega
              obtain ⟨mid', hm, hsame, hV⟩ := HI.out
              have hlen := hm.len
              have cu_ := hm.win.cell (m + 2) (by omega)
              rw [hsame (m + 2) (by have := HLm.out; omega) (by omega), HX.out.2.1, show m + 2 = j by have := HLm.out; omega] at cu_
              have hfr := WB.frozen hm.win (pre.length + j)
              have HH := Lib.hid (And.intro hm (And.intro hsame hV))
              have HL := Lib.hid hlen
              clear hm hsame hV hlen HI
              by_cases ht : u2 - b - c < 0
              · go_wp2_with fail
                obtain ⟨hm, hsame, hV⟩ := HH.out
                have hLm := HLm.out
                have hN := dig_neg (by rw [hm.len]; omega) (by omega) hm.dg HU.out.2.2.2.1 (by rw [hLm, hsame (m + 2) (by omega) (by omega)]; exact HX.out.2.1) hV HX2.out.2 ht (V_nonneg (by decide) HU.out.2.2.1)
                have hset := hm.set_ hne j (by omega) (v := (u2 - b - c) % 4294967296) (by omega)
                generalize mid'.set j ((u2 - b - c) % 4294967296) = mid2 at *
                have hq1p : 1 ≤ q := hN.2.2.2.2
                have HM2 := Lib.hid (And.intro hset hN)
                clear hm hsame hV hLm hN hset HH HL cu_ hfr
                go_loopg [9, 139] (j + 1) (fun gj v9 v139 w' => ∃ (i : Nat) (c : Int), i ≤ j ∧ j < gj + i ∧ 0 ≤ c ∧ c ≤ 1 ∧ v9 = .int .u64 c ∧ v139 = .int .i64 i ∧ Hid (Dig3 w w' g gv pre post mid2 vs m i c))
                case atStart => exact ⟨0, 0, by omega, by omega, by omega, by omega, rfl, rfl, mid2, HM2.out.1, fun _ _ _ => rfl, by simp [V]⟩
                case round =>
                  obtain ⟨i, c3, hi, hgi, hd0, hd1, rfl, rfl, HI⟩ := hrel
                  by_cases hil : i < j
                  · obtain ⟨mid3, hm, hsame, hV⟩ := HI.out
                    have hlen := hm.len
                    have hLm := HLm.out
                    have cu_ := hm.win.cell i (by omega)
                    have hfr := WB.frozen hm.win (pre.length + i)
                    have cv_ := hm.wv.cell i (by omega)
                    have rx : 0 ≤ rd mid3 (i : Int) ∧ rd mid3 (i : Int) < 4294967296 := Dg_rd hm.dg i (by omega)
                    have rv : 0 ≤ rd vs (i : Int) ∧ rd vs (i : Int) < 4294967296 := Dg_rd HU.out.2.2.2.1 i (by omega)
                    generalize hx : rd mid3 (i : Int) = x at *
                    generalize hd : rd vs (i : Int) = d at *
                    have HH := Lib.hid (And.intro hx (And.intro hd (And.intro hm (And.intro hsame hV))))
                    have HL := Lib.hid hlen
                    clear hx hd hm hsame hV hlen HI hLm
                    go_wp2_with fail
                    obtain ⟨hx, hd, hm, hsame, hV⟩ := HH.out
                    have hlen := HL.out
                    have hLm := HLm.out
                    go_roundg (gk - 1)
                    case measure => omega
                    case rel => exact ⟨i + 1, (c3 + (x + d)) / 4294967296, by omega, by omega, by omega, by omega, rfl, rfl, _, hm.set_ hne i (by omega) (v := (c3 + (x + d)) % 4294967296) (by omega), dig_same hsame, dig3_step (by omega) (by omega) hx hd rfl hV⟩
                  · obtain rfl : i = j := by omega
                    obtain ⟨mid3, hm, hsame, hV⟩ := HI.out
                    have hlen := hm.len
                    have hLm := HLm.out
                    have cu_ := hm.win.cell i (by omega)
                    have hfr := WB.frozen hm.win (pre.length + i)
                    have e3 : rd mid3 (i : Int) = 4294967295 := by rw [hsame i (Nat.le_refl _) (by omega)]; exact HM2.out.2.2.2.2.1
                    have hB := dig_back (by omega) (by omega) hm.dg HU.out.2.2.2.1 e3 hV HM2.out.2.2.1 HM2.out.2.2.2.1 (by have := HX2.out.2; show 0 ≤ V B32 mid - q * V B32 vs + V B32 vs; omega)
                    obtain ⟨rfl, hB⟩ := hB
                    rw [e3] at cu_
                    have HH := Lib.hid (And.intro hm hB)
                    clear hm hB hsame hV hlen hLm e3 HI
                    go_wp2_with fail
                    go_ret
                    obtain ⟨hm, hB⟩ := HH.out
                    have hLm := HLm.out
                    have hset := hm.set_ hne i (by omega) (v := 0) (by omega)
                    refine ⟨q - 1, mid3.set i 0, rfl, by omega, by omega, hset.len, hset.dg, ?_, ?_, hset.win, hset.far⟩
                    · show V 4294967296 mid = (q - 1) * V 4294967296 vs + V 4294967296 (mid3.set i 0)
                      rw [hB]; grind
                    · show V 4294967296 (mid3.set i 0) < V 4294967296 vs
                      rw [hB]
                      have := HM2.out.2.2.2.1
                      omega
              · have ht0 : 0 ≤ u2 - b - c := by omega
                go_wp2_with fail
                go_ret
                obtain ⟨hm, hsame, hV⟩ := HH.out
                have hLm := HLm.out
                have hset := hm.set_ hne j (by omega) (v := u2 - b - c) (by omega)
                have htop : rd mid' (j : Int) = u2 := by rw [hLm, hsame (m + 2) (by omega) (by omega)]; exact HX.out.2.1
                rw [V_take_over _ vs j (by omega)] at hV
                have hE : V 4294967296 (mid'.set j (u2 - b - c)) = V 4294967296 mid - q * V 4294967296 vs := by
                  rw [V_set _ _ _ _ (by have := hm.len; omega), htop]
                  exact kd_end rfl hV
                have h9 := HX2.out.1
                refine ⟨q, _, rfl, by omega, by omega, hset.len, hset.dg, ?_, ?_, hset.win, hset.far⟩
                · show V 4294967296 mid = q * V 4294967296 vs + V 4294967296 _
                  rw [hE]; omega
                · show V 4294967296 _ < V 4294967296 vs
                  rw [hE]
                  have h10 : (q + 1) * V 4294967296 vs = q * V 4294967296 vs + V 4294967296 vs := by grind
                  have h11 : V 4294967296 mid < (q + 1) * V 4294967296 vs := h9
                  omega
    · have hqB : q < 4294967296 := q_small (v1 := v1) hqr (by omega) (by have := HQ.out.1; omega) (by omega)
      have hxt : q * V B32 vs < V B32 mid + V B32 vs := by
        obtain ⟨eU, eW, bU, bW, hP⟩ := HE.out
        rw [eU, eW]
        have hp := mul_u32 (a := q) (b := v2) ⟨hq0', hqB⟩ rv0
        refine kd_exit (by decide) hP bU.1 bW ⟨hq0', hqB⟩ (by omega) rv0.1 (rest := r) ?_ (by show q * v2 ≤ r * 4294967296 + u0; omega)
        have := HQ.out.1
        show u1 + 4294967296 * u2 = _
        omega
      have HH := Lib.hid (And.intro hm1 (And.intro hqr (And.intro hge hxt)))
      clear hm1 hqr hge HR hxt
      have hrf : (r < 4294967296) = False := by simpa using hrb
      go_wp2_with fail
      go_quiet (fail)
      go_wp2_with fail
      have HM0 := Lib.hid (HH.out.1.drewN nq)
      have HX2 := Lib.hid HH.out.2.2
      clear HH hu0 hv0 hv1
      
      go_loopg [9, 10, 86] (L + 1) (fun gj v9 v10 v86 w' => ∃ (j : Nat) (c b : Int), j ≤ L ∧ L < gj + j ∧ 0 ≤ c ∧ c < 4294967296 ∧ 0 ≤ b ∧ b ≤ 1 ∧ v9 = .int .u64 c ∧ v10 = .int .i64 b ∧ v86 = .int .i64 j ∧ Hid (Dig2 w w' g gv pre post mid vs m q j (c + b)))
      case atStart => exact ⟨0, 0, 0, by omega, by omega, by omega, by omega, by omega, by omega, rfl, rfl, rfl, mid, HM0.out, fun _ _ _ => rfl, by simp [V]⟩
      case round =>
        clear HM0
        obtain ⟨j, c, b, hj, hgj, hc0, hc1, hb0', hb1', rfl, rfl, rfl, HI⟩ := hrel
        by_cases hjl : j < L
        · obtain ⟨mid', hm, hsame, hV⟩ := HI.out
          have hlen := hm.len
          have hLm := HLm.out
          have cu_ := hm.win.cell j (by omega)
          have hfr := WB.frozen hm.win (pre.length + j)
          have cv_ := hm.wv.cell j (by omega)
          have rx : 0 ≤ rd mid' (j : Int) ∧ rd mid' (j : Int) < 4294967296 := Dg_rd hm.dg j (by omega)
          have rv : 0 ≤ rd vs (j : Int) ∧ rd vs (j : Int) < 4294967296 := Dg_rd HU.out.2.2.2.1 j (by omega)
          have hpr := mul_u32 (a := q) ⟨hq0', hqB⟩ rv
          generalize hx : rd mid' (j : Int) = x at *
          generalize hd : rd vs (j : Int) = d at *
          have HH := Lib.hid (And.intro hx (And.intro hd (And.intro hm (And.intro hsame hV))))
          have HL := Lib.hid hlen
          clear hx hd hm hsame hV hlen HI hLm
          by_cases ht : x - b - (c + q * d) % 4294967296 < 0
          · go_wp2_with fail
            obtain ⟨hx, hd, hm, hsame, hV⟩ := HH.out
            have hlen := HL.out
            have hLm := HLm.out
            go_roundg (gk - 1)
            case measure => omega
            case rel =>
              refine ⟨j + 1, (c + q * d) / 4294967296, 1, by omega, by omega, by omega, by omega, by omega, by omega, rfl, rfl, rfl, _, hm.set_ hne j (by omega) (v := (x - b - (c + q * d)) % 4294967296) (by omega), dig_same hsame, ?_⟩
              rw [show (x - b - (c + q * d)) % 4294967296 = (x - b - (c + q * d) % 4294967296) % 4294967296 by omega]
              exact dig2_step (by omega) (by omega) hx hd rfl rfl (Or.inl ⟨ht, rfl⟩) (by omega) hV
          · go_wp2_with fail
            obtain ⟨hx, hd, hm, hsame, hV⟩ := HH.out
            have hlen := HL.out
            have hLm := HLm.out
            go_roundg (gk - 1)
            case measure => omega
            case rel =>
              refine ⟨j + 1, (c + q * d) / 4294967296, 0, by omega, by omega, by omega, by omega, by omega, by omega, rfl, rfl, rfl, _, hm.set_ hne j (by omega) (v := x - b - (c + q * d) % 4294967296) (by omega), dig_same hsame, ?_⟩
              rw [show x - b - (c + q * d) % 4294967296 = (x - b - (c + q * d) % 4294967296) % 4294967296 by omega]
              exact dig2_step (by omega) (by omega) hx hd rfl rfl (Or.inr ⟨by omega, rfl⟩) (by omega) hV
        · obtain rfl : j = L := by omega
          obtain ⟨mid', hm, hsame, hV⟩ := HI.out
          have hlen := hm.len
          have cu_ := hm.win.cell (m + 2) (by omega)
          rw [hsame (m + 2) (by have := HLm.out; omega) (by omega), HX.out.2.1, show m + 2 = j by have := HLm.out; omega] at cu_
          have hfr := WB.frozen hm.win (pre.length + j)
          have HH := Lib.hid (And.intro hm (And.intro hsame hV))
          have HL := Lib.hid hlen
          clear hm hsame hV hlen HI
          by_cases ht : u2 - b - c < 0
          · go_wp2_with fail
            obtain ⟨hm, hsame, hV⟩ := HH.out
            have hLm := HLm.out
            have hN := dig_neg (by rw [hm.len]; omega) (by omega) hm.dg HU.out.2.2.2.1 (by rw [hLm, hsame (m + 2) (by omega) (by omega)]; exact HX.out.2.1) hV HX2.out.2 ht (V_nonneg (by decide) HU.out.2.2.1)
            have hset := hm.set_ hne j (by omega) (v := (u2 - b - c) % 4294967296) (by omega)
            generalize mid'.set j ((u2 - b - c) % 4294967296) = mid2 at *
            have hq1p : 1 ≤ q := hN.2.2.2.2
            have HM2 := Lib.hid (And.intro hset hN)
            clear hm hsame hV hLm hN hset HH HL cu_ hfr
            go_loopg [9, 139] (j + 1) (fun gj v9 v139 w' => ∃ (i : Nat) (c : Int), i ≤ j ∧ j < gj + i ∧ 0 ≤ c ∧ c ≤ 1 ∧ v9 = .int .u64 c ∧ v139 = .int .i64 i ∧ Hid (Dig3 w w' g gv pre post mid2 vs m i c))
            case atStart => exact ⟨0, 0, by omega, by omega, by omega, by omega, rfl, rfl, mid2, HM2.out.1, fun _ _ _ => rfl, by simp [V]⟩
            case round =>
              obtain ⟨i, c3, hi, hgi, hd0, hd1, rfl, rfl, HI⟩ := hrel
              by_cases hil : i < j
              · obtain ⟨mid3, hm, hsame, hV⟩ := HI.out
                have hlen := hm.len
                have hLm := HLm.out
                have cu_ := hm.win.cell i (by omega)
                have hfr := WB.frozen hm.win (pre.length + i)
                have cv_ := hm.wv.cell i (by omega)
                have rx : 0 ≤ rd mid3 (i : Int) ∧ rd mid3 (i : Int) < 4294967296 := Dg_rd hm.dg i (by omega)
                have rv : 0 ≤ rd vs (i : Int) ∧ rd vs (i : Int) < 4294967296 := Dg_rd HU.out.2.2.2.1 i (by omega)
                generalize hx : rd mid3 (i : Int) = x at *
                generalize hd : rd vs (i : Int) = d at *
                have HH := Lib.hid (And.intro hx (And.intro hd (And.intro hm (And.intro hsame hV))))
                have HL := Lib.hid hlen
                clear hx hd hm hsame hV hlen HI hLm
                go_wp2_with fail
                obtain ⟨hx, hd, hm, hsame, hV⟩ := HH.out
                have hlen := HL.out
                have hLm := HLm.out
                go_roundg (gk - 1)
                case measure => omega
                case rel => exact ⟨i + 1, (c3 + (x + d)) / 4294967296, by omega, by omega, by omega, by omega, rfl, rfl, _, hm.set_ hne i (by omega) (v := (c3 + (x + d)) % 4294967296) (by omega), dig_same hsame, dig3_step (by omega) (by omega) hx hd rfl hV⟩
              · obtain rfl : i = j := by omega
                obtain ⟨mid3, hm, hsame, hV⟩ := HI.out
                have hlen := hm.len
                have hLm := HLm.out
                have cu_ := hm.win.cell i (by omega)
                have hfr := WB.frozen hm.win (pre.length + i)
                have e3 : rd mid3 (i : Int) = 4294967295 := by rw [hsame i (Nat.le_refl _) (by omega)]; exact HM2.out.2.2.2.2.1
                have hB := dig_back (by omega) (by omega) hm.dg HU.out.2.2.2.1 e3 hV HM2.out.2.2.1 HM2.out.2.2.2.1 (by have := HX2.out.2; show 0 ≤ V B32 mid - q * V B32 vs + V B32 vs; omega)
                obtain ⟨rfl, hB⟩ := hB
                rw [e3] at cu_
                have HH := Lib.hid (And.intro hm hB)
                clear hm hB hsame hV hlen hLm e3 HI
                go_wp2_with fail
                go_ret
                obtain ⟨hm, hB⟩ := HH.out
                have hLm := HLm.out
                have hset := hm.set_ hne i (by omega) (v := 0) (by omega)
                refine ⟨q - 1, mid3.set i 0, rfl, by omega, by omega, hset.len, hset.dg, ?_, ?_, hset.win, hset.far⟩
                · show V 4294967296 mid = (q - 1) * V 4294967296 vs + V 4294967296 (mid3.set i 0)
                  rw [hB]; grind
                · show V 4294967296 (mid3.set i 0) < V 4294967296 vs
                  rw [hB]
                  have := HM2.out.2.2.2.1
                  omega
          · have ht0 : 0 ≤ u2 - b - c := by omega
            go_wp2_with fail
            go_ret
            obtain ⟨hm, hsame, hV⟩ := HH.out
            have hLm := HLm.out
            have hset := hm.set_ hne j (by omega) (v := u2 - b - c) (by omega)
            have htop : rd mid' (j : Int) = u2 := by rw [hLm, hsame (m + 2) (by omega) (by omega)]; exact HX.out.2.1
            rw [V_take_over _ vs j (by omega)] at hV
            have hE : V 4294967296 (mid'.set j (u2 - b - c)) = V 4294967296 mid - q * V 4294967296 vs := by
              rw [V_set _ _ _ _ (by have := hm.len; omega), htop]
              exact kd_end rfl hV
            have h9 := HX2.out.1
            refine ⟨q, _, rfl, by omega, by omega, hset.len, hset.dg, ?_, ?_, hset.win, hset.far⟩
            · show V 4294967296 mid = q * V 4294967296 vs + V 4294967296 _
              rw [hE]; omega
            · show V 4294967296 _ < V 4294967296 vs
              rw [hE]
              have h10 : (q + 1) * V 4294967296 vs = q * V 4294967296 vs + V 4294967296 vs := by grind
              have h11 : V 4294967296 mid < (q + 1) * V 4294967296 vs := h9
              omega
end Go.Proofs.YtapckjeedekphaaGreatDoor

