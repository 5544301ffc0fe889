/- Part 5 of the walk: our own texts for this claim, in order. -/
import Derived.Test.YtapckjeedekphaaGreatDoorMb4
import Derived.Deep.RegionWith
set_option linter.unusedSimpArgs false
set_option linter.unusedVariables false
namespace Go.Proofs.YtapckjeedekphaaGreatDoor
open Go
/-! ### a region that draws its order, step by step: loads are taken first as long as the operation k (a store that waits for them) has not come up -/
section
variable {P : Program} {ops : Array Oper} {Q : Exit → Act → World → Prop} {md : Region.Mode} {S S1 S2 : World → Prop} {k k1 k2 : Nat}
/-- Each of two conditions holds until its operation has come up. -/
def cnd (k1 : Nat) (S1 : World → Prop) (k2 : Nat) (S2 : World → Prop) (listed : Array Bool) (w : World) : Prop := (listed.getD k1 false = true ∨ S1 w) ∧ (listed.getD k2 false = true ∨ S2 w)
/-- Whatever order; behind each operation the conditions hold. -/
def wpL (P : Program) (md : Region.Mode) (ops : Array Oper) (Q : Exit → Act → World → Prop) (k1 : Nat) (S1 : World → Prop) (k2 : Nat) (S2 : World → Prop) : Nat → Array Bool → Act → World → Prop
  | 0, listed, a, w => Region.ready md ops listed = [] ∧ Q .normal a w
  | fuel + 1, listed, a, w =>
    (Region.ready md ops listed = [] → Q .normal a w) ∧
    ∀ i ∈ Region.ready md ops listed, wpOp P ops Q i (fun a' w' => cnd k1 S1 k2 S2 (listed.setIfInBounds i true) w' ∧ wpL P md ops Q k1 S1 k2 S2 fuel (listed.setIfInBounds i true) a' w') a w
theorem wpAny_of_L : ∀ (fuel : Nat) (listed : Array Bool) (a : Act) (w : World), wpL P md ops Q k1 S1 k2 S2 fuel listed a w → wpAny P md ops Q fuel listed a w
  | 0, _, _, _, h => h
  | fuel + 1, _, _, _, h => ⟨h.1, fun i hi => wpOp_mono (fun a' w' h' => wpAny_of_L fuel _ a' w' h'.2) (h.2 i hi)⟩
/-- k waits for i. -/
def waits (md : Region.Mode) (ops : Array Oper) (k i : Nat) : Bool := match ops[k]? with
  | none => true
  | some o => o.after.any fun e => Region.binds md e && e.on == i
theorem not_ready_of_waits {i : Nat} {listed : Array Bool} (hk : waits md ops k i = true) (hu : listed.getD i false = false) : k ∉ Region.ready md ops listed := by
  intro h
  obtain ⟨_, o, ho, hall⟩ := mem_ready.1 h
  unfold waits at hk
  rw [ho] at hk
  simp only [Array.any_eq_true] at hk
  obtain ⟨x, hx, he⟩ := hk
  rw [Bool.and_eq_true] at he
  have h1 := hall _ (Array.getElem_mem hx) he.1
  have h2 : o.after[x].on = i := eq_of_beq he.2
  rw [h2, hu] at h1
  cases h1
theorem cnd_set {i : Nat} {listed : Array Bool} {w : World} (h1 : k1 ≠ i) (h2 : k2 ≠ i) (h : cnd k1 S1 k2 S2 listed w) : cnd k1 S1 k2 S2 (listed.setIfInBounds i true) w := by
  unfold cnd at h ⊢
  rwa [getD_set_ne false (Ne.symm h1), getD_set_ne false (Ne.symm h2)]
theorem wpL_first {i : Nat} {oi : Oper} {v : Value} (hi : ops[i]? = some oi) (hsel : ∀ (j : Nat) (o : Oper) cs b, ops[j]? = some o → o.op ≠ .select cs b)
    (hQ : ∀ c a w, Q (.panic c) (a.put oi.dst v) w → Q (.panic c) a w) (hex : ∀ listed w, cnd k1 S1 k2 S2 listed w → listed.getD k false = true ∨ S w) (hk1 : k1 ≠ i) (hk2 : k2 ≠ i) (hki : k ≠ i) (hk : waits md ops k i = true) :
    ∀ (fuel : Nat) (listed : Array Bool) (a : Act) (w : World),
      (∀ j oj, ops[j]? = some oj → j ≠ i → listed.getD j true = false → (∀ e ∈ oj.after, Region.binds md e = true → e.on ≠ i) → oi.apart ops oj = true) →
      i ∈ Region.ready md ops listed → listed.getD k false = false → YieldsIf P ops S oi v a → cnd k1 S1 k2 S2 listed w →
      wpL P md ops Q k1 S1 k2 S2 fuel (listed.setIfInBounds i true) (a.put oi.dst v) w → wpL P md ops Q k1 S1 k2 S2 (fuel + 1) listed a w := by
  intro fuel
  induction fuel with
  | zero =>
    intro listed a w _ hr hl hy hS H
    refine ⟨fun h => (by rw [h] at hr; cases hr), fun j hj => ?_⟩
    by_cases hji : j = i
    · subst hji; exact hy.wpOp hi ((hex _ _ hS).resolve_left (by rw [hl]; decide)) ⟨cnd_set hk1 hk2 hS, H⟩
    · have := ready_mono hj hji
      rw [H.1] at this
      cases this
  | succ fuel ih =>
    intro listed a w hfree hr hl hy hS H
    have hu : listed.getD i false = false := by
      have h0 := (mem_ready.1 hr).1
      rcases Nat.lt_or_ge i listed.size with h' | h'
      · simp [h'] at h0 ⊢; exact h0
      · simp [Array.getElem?_eq_none h'] at h0
    refine ⟨fun h => (by rw [h] at hr; cases hr), fun j hj => ?_⟩
    by_cases hji : j = i
    · subst hji; exact hy.wpOp hi ((hex _ _ hS).resolve_left (by rw [hl]; decide)) ⟨cnd_set hk1 hk2 hS, H⟩
    · have hjk : j ≠ k := fun e => not_ready_of_waits hk hu (e ▸ hj)
      have h1 := H.2 j (ready_mono hj hji)
      obtain ⟨hjun, oj, hoj, hall⟩ := mem_ready.1 hj
      have hnot : ∀ e ∈ oj.after, Region.binds md e = true → e.on ≠ i := fun e he hb heq => by
        have h1 := hall e he hb
        rw [heq, hu] at h1
        cases h1
      have h2 := wpOp_putIf hoj (hfree j oj hoj hji hjun hnot) (fun cs b => hsel i oi cs b hi) (fun cs b => hsel j oj cs b hoj) hQ hy h1
      have hfree' : ∀ k ok, ops[k]? = some ok → k ≠ i → (listed.setIfInBounds j true).getD k true = false →
          (∀ e ∈ ok.after, Region.binds md e = true → e.on ≠ i) → oi.apart ops ok = true := fun k ok hk hki hun hno => by
        refine hfree k ok hk hki ?_ hno
        by_cases hjk : j = k
        · subst hjk; exact hjun
        · rw [getD_set_ne true hjk] at hun; exact hun
      have hl' : (listed.setIfInBounds j true).getD k false = false := by
        rw [getD_set_ne false hjk]; exact hl
      refine wpOp_mono (fun a' w' h3 => ?_) h2
      have hC : cnd k1 S1 k2 S2 (listed.setIfInBounds j true) w' := by
        have h4 := h3.2.1
        rw [Array.setIfInBounds_comm _ _ (Ne.symm hji)] at h4
        unfold cnd at h4 ⊢
        rwa [getD_set_ne false (Ne.symm hk1), getD_set_ne false (Ne.symm hk2)] at h4
      refine ⟨hC, ih (listed.setIfInBounds j true) a' w' hfree' (ready_mono hr (Ne.symm hji)) hl' h3.1 hC ?_⟩
      rw [Array.setIfInBounds_comm _ _ hji]
      exact h3.2.2
/-- Take number i first, by the condition of number 1. -/
theorem wpL_take1 {i : Nat} {oi : Oper} {v : Value} {fuel : Nat} {listed : Array Bool} {a : Act} {w : World} (hi : ops[i]? = some oi)
    (hc : (Region.noSelect ops && Region.free md ops listed i && (Region.ready md ops listed).contains i && !(k1 == i) && !(k2 == i) && waits md ops k1 i && !listed.getD k1 false) = true)
    (hQ : ∀ c a w, Q (.panic c) (a.put oi.dst v) w → Q (.panic c) a w) (hS : cnd k1 S1 k2 S2 listed w) (hy : YieldsIf P ops S1 oi v a)
    (h : cnd k1 S1 k2 S2 (listed.setIfInBounds i true) w → wpL P md ops Q k1 S1 k2 S2 fuel (listed.setIfInBounds i true) (a.put oi.dst v) w) : wpL P md ops Q k1 S1 k2 S2 (fuel + 1) listed a w := by
  simp only [Bool.and_eq_true] at hc
  obtain ⟨⟨⟨⟨⟨⟨h1, h2⟩, h3⟩, h4⟩, h4'⟩, h5⟩, h6⟩ := hc
  have e1 : k1 ≠ i := by simpa using h4
  have e2 : k2 ≠ i := by simpa using h4'
  exact wpL_first hi (Region.noSelect_spec h1) hQ (fun _ _ h => h.1) e1 e2 e1 h5 fuel listed a w (Region.free_spec hi h2) (by simpa using h3) (by simpa using h6) hy hS (h (cnd_set e1 e2 hS))
/-- Take number i first, by the condition of number 2. -/
theorem wpL_take2 {i : Nat} {oi : Oper} {v : Value} {fuel : Nat} {listed : Array Bool} {a : Act} {w : World} (hi : ops[i]? = some oi)
    (hc : (Region.noSelect ops && Region.free md ops listed i && (Region.ready md ops listed).contains i && !(k1 == i) && !(k2 == i) && waits md ops k2 i && !listed.getD k2 false) = true)
    (hQ : ∀ c a w, Q (.panic c) (a.put oi.dst v) w → Q (.panic c) a w) (hS : cnd k1 S1 k2 S2 listed w) (hy : YieldsIf P ops S2 oi v a)
    (h : cnd k1 S1 k2 S2 (listed.setIfInBounds i true) w → wpL P md ops Q k1 S1 k2 S2 fuel (listed.setIfInBounds i true) (a.put oi.dst v) w) : wpL P md ops Q k1 S1 k2 S2 (fuel + 1) listed a w := by
  simp only [Bool.and_eq_true] at hc
  obtain ⟨⟨⟨⟨⟨⟨h1, h2⟩, h3⟩, h4⟩, h4'⟩, h5⟩, h6⟩ := hc
  have e1 : k1 ≠ i := by simpa using h4
  have e2 : k2 ≠ i := by simpa using h4'
  exact wpL_first hi (Region.noSelect_spec h1) hQ (fun _ _ h => h.2) e1 e2 e2 h5 fuel listed a w (Region.free_spec hi h2) (by simpa using h3) (by simpa using h6) hy hS (h (cnd_set e1 e2 hS))
/-- The one operation that may come up. -/
theorem wpL_one {i : Nat} {o : Oper} {fuel : Nat} {listed : Array Bool} {a : Act} {w : World} (hr : Region.ready md ops listed = [i]) (ho : ops[i]? = some o) (hw : Region.wanted o (yielded ops a.tmps) = true)
    (h : ∀ K' : Act → World → Prop, Shut (∀ a w, cnd k1 S1 k2 S2 (listed.setIfInBounds i true) w → (cnd k1 S1 k2 S2 (listed.setIfInBounds i true) w → wpL P md ops Q k1 S1 k2 S2 fuel (listed.setIfInBounds i true) a w) → K' a w) → Oper.wp P o a w K' Q) : wpL P md ops Q k1 S1 k2 S2 (fuel + 1) listed a w :=
  ⟨(fun h0 => by rw [hr] at h0; cases h0), fun j hj => by
    rw [hr] at hj
    have : j = i := by simpa using hj
    subst this
    exact wpOp_step ho (fun K' hK => by rw [if_pos hw]; exact h K' (fun a w hS hW => hK a w ⟨hS, hW hS⟩))⟩
theorem wpL_done {listed : Array Bool} {a : Act} {w : World} (hr : Region.ready md ops listed = []) (h : Q .normal a w) : ∀ fuel, wpL P md ops Q k1 S1 k2 S2 fuel listed a w
  | 0 => ⟨hr, h⟩
  | _ + 1 => ⟨fun _ => h, by rw [hr]; simp⟩
theorem wpL_start {id : Nat} {a : Act} {w : World} (k1 : Nat) (S1 : World → Prop) (k2 : Nat) (S2 : World → Prop) (hm : P.follows .mixedOrders = true)
    (h1 : S1 w.drew) (h2 : S2 w.drew) (h : cnd k1 S1 k2 S2 (Array.replicate ops.size false) w.drew → wpL P .any ops Q k1 S1 k2 S2 ops.size (Array.replicate ops.size false) a w.drew) : (Code.region id ops true).wp P Q a w :=
  wp_region_any hm (wpAny_of_L _ _ _ _ (h ⟨.inr h1, .inr h2⟩))
end
end Go.Proofs.YtapckjeedekphaaGreatDoor

namespace Go.Proofs.YtapckjeedekphaaGreatDoor
open Go.RowKit Go.Proofs.YtapckjeedekphaaGreatDoorW.PrintWords PR
/-- trim, its slice told. -/
theorem p_trimA (A : Option Addr) (c : Nat) (l : List Int) (w : World) (hv : Mg w (.slice A l.length c) l) : Calls Tryz.prog 165 #[.slice A l.length c] w fun e w' => e = .returned (.slice A (trD l).length c) ∧ Below w.heap.size w w' := by
  have hc := hv.C.2.1
  have HC := Lib.hid hv
  have hmax : l.length ≤ 9223372036854775807 := by
    obtain ⟨_, _, _, _, h, _⟩ := hv
    exact h
  clear hv
  go_enter Tryz.func165, Tryz.ntmps165
  go_wp2_with fail
  go_loopg [0] (l.length + 1) (fun gk v0 w' => ∃ n : Nat, n ≤ l.length ∧ n < gk ∧ v0 = .slice A n c ∧ Hid (TrimRel w w' l n))
  case atStart => exact ⟨l.length, Nat.le_refl _, by omega, rfl, Nat.le_refl _, by rw [List.take_length], Below.refl _ _⟩
  case round =>
    obtain ⟨n, hn, hgk, rfl, HR⟩ := hrel
    by_cases h0 : n = 0
    · subst h0
      go_wp2_with fail
      go_ret
      obtain ⟨_, h2, h3⟩ := HR.out
      have e : trD l = [] := by rw [h2]; rfl
      rw [e]
      exact ⟨rfl, h3⟩
    · obtain ⟨j, rfl⟩ : ∃ j, n = j + 1 := ⟨n - 1, by omega⟩
      obtain ⟨ad, rfl, hcell⟩ := (HC.out.below HR.out.2.2).at_ j (by omega)
      by_cases hx : rd l j = 0
      · rw [hx] at hcell
        have HX := Lib.hid hx
        clear hx
        go_wp2_with fail
        go_roundg (gk - 1)
        case measure => omega
        case rel =>
          obtain ⟨_, h2, h3⟩ := HR.out
          refine ⟨j, by omega, by omega, by simp, by omega, ?_, h3⟩
          rw [h2, take_rd l j (by omega), HX.out, trD_snoc_zero]
      · have hx0 : (rd l j == 0) = false := beq_eq_false_iff_ne.2 hx
        have HX := Lib.hid hx
        clear hx
        generalize hxv : rd l (j : Int) = xv at *
        have HXV := Lib.hid hxv
        clear hxv
        go_wp2_with fail
        go_ret
        obtain ⟨_, h2, h3⟩ := HR.out
        have e : trD l = l.take (j + 1) := by rw [h2, take_rd l j (by omega), trD_snoc _ _ (by rw [HXV.out]; exact HX.out)]
        have e2 : (trD l).length = j + 1 := by rw [e, List.length_take]; omega
        rw [e2]
        exact ⟨rfl, h3⟩
theorem WB.of_own {w : World} {base n : Nat} {v : Value} {xs : List Int} (h : w.ownsRow base 140 1 v n (xs.map (Value.int .u32))) (hne : v ≠ .slice none 0 0) (hx : xs.length = n) : ∃ g c, v = .slice (some ⟨g, 0, none⟩) n c ∧ n ≤ c ∧ base ≤ g ∧ WB w g xs := by
  rcases h.2 with ⟨e, _⟩ | ⟨g, cap, cur, hv, hb, hh, hc, _, hs, ht⟩
  · exact absurd e hne
  · refine ⟨g, cap, hv, hc, hb, cur, hh, fun j hj => ?_⟩
    have e : cur.toList[j]? = (xs.map (Value.int .u32))[j]? := by
      rw [← ht, List.getElem?_take_of_lt (by omega)]
    rw [← Array.getElem?_toList, e, List.getElem?_map, rd_nat _ _ hj, List.getElem?_eq_getElem hj]
    rfl
theorem p_clone (g c : Nat) (l : List Int) (w : World) (hv : WB w g l) (hl : l.length ≤ 1000000000) : Calls Tryz.prog 226 #[.slice (some ⟨g, 0, none⟩) l.length c] w fun e w' => ∃ g' c', e = .returned (.slice (some ⟨g', 0, none⟩) l.length c') ∧ l.length ≤ c' ∧ w.heap.size ≤ g' ∧ WB w' g' l ∧ Below w.heap.size w w' := by
  obtain ⟨i0, hi, hz, hs, hby⟩ := info140'
  refine (Tryz.slices_Clone i0 (.int .u32 0) 1 4 hi hz hs hby rfl (by decide) (fun _ => by kernel_rfl) g 0 l.length c (l.map (Value.int .u32)) w (by simp) (by show _ ≤ 2 ^ 63 - 1; omega) (by omega) (fun j u h => ?_) (fun u h => ?_)).mono ?_
  · have hj : j < l.length := by
      rcases Nat.lt_or_ge j l.length with h1 | h1
      · exact h1
      · rw [List.getElem?_eq_none (by simpa using h1)] at h; cases h
    rw [Nat.zero_add, WB.cell hv j hj, ← h, List.getElem?_map, rd_nat _ _ hj, List.getElem?_eq_getElem hj]
    rfl
  · obtain ⟨x, _, rfl⟩ := List.mem_map.1 h
    rfl
  · rintro e w' ⟨v, rfl, h1, h2, h3⟩
    obtain ⟨g', c', rfl, h4, h5, h6⟩ := WB.of_own h1 h2 rfl
    exact ⟨g', c', rfl, h4, h5, h6, h3⟩
structure LowMem (w w' : World) (g' : Nat) (l out : List Int) (i : Nat) (p : Int) : Prop where
  wb : WB w' g' out
  len : out.length = l.length
  dg : Dg B32 out
  bl : Below w.heap.size w w'
  same : ∀ j, i ≤ j → j < l.length → rd out (j : Int) = rd l j
  val : p * V 4294967296 (out.take i) = V 4294967296 (l.take i) - lowR l 0 p + 4294967296 ^ i * lowR l i p
set_option maxHeartbeats 800000 in
theorem p_lowered (g c s : Nat) (l : List Int) (w : World) (hv : WB w g l) (_ : l.length ≤ c) (hd : Dg B32 l) (hs : s ≤ 31) (hl : l.length ≤ 1000000000) (x : Int) (hx : V B32 l = x * 2 ^ s) :
    Calls Tryz.prog 211 #[.slice (some ⟨g, 0, none⟩) l.length c, .int .i64 s] w (RetN w x l.length) := by
  have HA := Lib.hid hv
  have DA := Lib.hid hd
  have HX := Lib.hid hx
  clear hd hv hx
  go_enter Tryz.func211, Tryz.ntmps211
  go_wp2_with fail
  refine (p_clone g c l w HA.out hl).mono ?_
  rintro e w1 ⟨g', c', rfl, hc', hg', hwb, hb⟩
  have HG := Lib.hid hg'
  have HW := Lib.hid (And.intro hwb hb)
  have h31 := pow31 hs
  clear hg' hwb hb
  go_wp2_with fail
  go_loopg [11] (l.length + 1) (fun gk v11 w' => ∃ (i : Nat), i ≤ l.length ∧ l.length < gk + i ∧ v11 = .int .i64 i ∧ Hid (∃ out, LowMem w w' g' l out i (2 ^ s)))
  case atStart => exact ⟨0, by omega, by omega, rfl, l, HW.out.1, rfl, DA.out, HW.out.2, fun _ _ _ => rfl, by simp [V]; omega⟩
  case round =>
    obtain ⟨i, hi, hgk, rfl, HR⟩ := hrel
    by_cases hlt : i < l.length
    · obtain ⟨out, hm⟩ := HR.out
      have hlen := hm.len
      have hfr := WB.frozen hm.wb i
      have hcell := hm.wb.cell i (by omega)
      rw [hm.same i (Nat.le_refl _) hlt] at hcell
      have ra : 0 ≤ rd l i ∧ rd l i < 4294967296 := Dg_rd DA.out i hlt
      generalize hx1 : rd l (i : Int) = a at *
      by_cases hlt2 : i + 1 < l.length
      · have hcell2 := (WB.below HA.out hm.bl).cell (i + 1) hlt2
        have rb : 0 ≤ rd l ((i + 1 : Nat) : Int) ∧ rd l ((i + 1 : Nat) : Int) < 4294967296 := Dg_rd DA.out (i + 1) hlt2
        generalize hx2 : rd l ((i + 1 : Nat) : Int) = b at *
        have HH := Lib.hid (And.intro hx1 (And.intro hx2 hm))
        clear hx1 hx2 hm hlen HR
        have hw1 : IntKind.u64.wrap b = b := u64in rb.1 (by omega)
        have hw2 : IntKind.u64.wrap (b * 4294967296) = b * 4294967296 := u64in (by omega) (by omega)
        obtain ⟨r, hr⟩ : ∃ r, r = b % 2 ^ s := ⟨_, rfl⟩
        have hl := low_digit (d := b) hs rfl hr
        have ho := or_high (a := a) (r := r) hs rfl ra hl.2
        have hl1 := hl.1
        obtain ⟨v, hv⟩ : ∃ v, v = a / 2 ^ s + 2 ^ (32 - s) * r := ⟨_, rfl⟩
        rw [← hv] at ho
        have ho1 := ho.1
        have ho2 := ho.2
        have HV := Lib.hid (And.intro hr hv)
        clear hl ho hr hv
        go_wp2_with fail
        obtain ⟨hx1, hx2, hm⟩ := HH.out
        have hlen := hm.len
        have hwb2 := hm.wb.set_ i (by omega) (a / 2 ^ s)
        have hbl2 := hm.bl.setCell (p := ⟨g', i, none⟩) HG.out (.int .u32 (a / 2 ^ s))
        generalize wr.setCell ⟨g', i, none⟩ (.int .u32 (a / 2 ^ s)) = w2 at *
        have hcella := hwb2.cell i (by simpa using (by omega : i < out.length))
        rw [rd_set_self _ _ _ (by omega)] at hcella
        have hcellb := (WB.below HA.out hbl2).cell (i + 1) hlt2
        rw [hx2] at hcellb
        have hfr2 := WB.frozen hwb2 i
        have HH2 := Lib.hid (And.intro hwb2 hbl2)
        have HL := Lib.hid hlen
        clear hx1 hx2 hm hwb2 hbl2 hlen hcell hcell2 hfr
        go_region
        go_wp2_with fail
        obtain ⟨hx1, hx2, hm⟩ := HH.out
        obtain ⟨hwb2, hbl2⟩ := HH2.out
        have hlen := HL.out
        go_roundg (gk - 1)
        case measure => omega
        case rel =>
          have hwb3 := hwb2.set_ i (by simpa using (by omega : i < out.length)) v
          rw [List.set_set] at hwb3
          refine ⟨i + 1, by omega, by omega, rfl, out.set i v, hwb3, by simpa using hlen, Dg_set32 hm.dg _ ⟨ho2.1, ho2.2.1⟩, (hbl2.setCell (p := ⟨g', i, none⟩) HG.out (.int .u32 v)).drew, fun j h1 h2 => ?_, ?_⟩
          · rw [rd_set_ne _ _ _ _ (by omega)]
            exact hm.same j (by omega) h2
          · refine lowered_step (pow_split hs) hlt hlen ?_ hm.val
            rw [hx1, HV.out.2, HV.out.1]
            unfold lowR at0
            rw [if_pos hlt2, hx2]
      · have hq : 0 ≤ a / 2 ^ s ∧ a / 2 ^ s < 4294967296 := (or_high (a := a) (r := 0) hs rfl ra ⟨Int.le_refl _, h31.1⟩).2.2.2
        have HH := Lib.hid (And.intro hx1 hm)
        clear hx1 hm hlen HR
        go_wp2_with fail
        obtain ⟨hx1, hm⟩ := HH.out
        have hlen := hm.len
        go_roundg (gk - 1)
        case measure => omega
        case rel =>
          refine ⟨i + 1, by omega, by omega, rfl, out.set i (a / 2 ^ s), hm.wb.set_ i (by omega) _, by simpa using hlen, Dg_set32 hm.dg _ hq, hm.bl.setCell (p := ⟨g', i, none⟩) HG.out _, fun j h1 h2 => ?_, ?_⟩
          · rw [rd_set_ne _ _ _ _ (by omega)]
            exact hm.same j (by omega) h2
          · refine lowered_step (pow_split hs) hlt hlen ?_ hm.val
            rw [hx1]
            unfold lowR at0
            rw [if_neg hlt2]
            simp
    · obtain rfl : i = l.length := by omega
      obtain ⟨out, hm⟩ := HR.out
      have hMg := hm.wb.Mg (c := c') (by rw [hm.len]; exact hc') (by have := hm.len; omega)
      have hv : V B32 out = x := lowered_end h31.1 (pow_split hs) hm.len HX.out hm.val
      rw [hm.len] at hMg
      have HH := Lib.hid (And.intro hMg (And.intro hv (And.intro hm.dg (And.intro hm.len hm.bl))))
      clear hMg hv hm HR
      go_wp2_with fail
      refine (p_trim _ out _ HH.out.1).mono ?_
      rintro e w2 ⟨v1, rfl, h1, hb⟩
      have H1 := Lib.hid (And.intro h1 hb)
      clear h1 hb
      go_wp2_with fail
      go_ret
      have := trD_len out
      have := HH.out.2.2.2.1
      exact ⟨_, _, rfl, H1.out.1, trD_Dg HH.out.2.2.1, trD_Tr out, by rw [trD_V]; exact HH.out.2.1, by omega, bth HH.out.2.2.2.2 H1.out.2⟩
end Go.Proofs.YtapckjeedekphaaGreatDoor

namespace Go.Proofs.YtapckjeedekphaaGreatDoor
open Go.RowKit Go.Proofs.YtapckjeedekphaaGreatDoorW.PrintWords PR
/-- The results are the digits of a quotient and of a rest. -/
def RetQ (w : World) (x y : Int) (n : Nat) (e : Ending) (w' : World) : Prop := ∃ vq vr q r, e = .returned (.tuple #[vq, vr]) ∧ Mg w' vq q ∧ Mg w' vr r ∧ Dg B32 q ∧ Dg B32 r ∧ Tr q ∧ Tr r ∧ V B32 q = x / y ∧ V B32 r = x % y ∧ q.length ≤ n ∧ r.length ≤ n ∧ Below w.heap.size w w'
structure DivMem (w w' : World) (gu gv gq : Nat) (vs us qs : List Int) (K L i : Nat) (U0 : Int) : Prop where
  wu : WB w' gu us
  lu : us.length = K + L
  du : Dg 4294967296 us
  wv : WB w' gv vs
  wq : WB w' gq qs
  lq : qs.length = K
  dq : Dg 4294967296 qs
  zq : ∀ j, j < i → rd qs (j : Int) = 0
  lt : V 4294967296 us < 4294967296 ^ i * V 4294967296 vs
  eq : U0 = V 4294967296 us + V 4294967296 vs * V 4294967296 qs
  bl : Below w.heap.size w w'
set_option maxRecDepth 4000 in
set_option maxHeartbeats 1600000 in
theorem p_divide (va vb : Value) (a b : List Int) (w : World) (ha : Mg w va a) (hb : Mg w vb b) (da : Dg B32 a) (db : Dg B32 b) (ta : Tr a) (tb : Tr b) (hb0 : b ≠ []) (la : a.length ≤ 100000000) (lb : b.length ≤ 100000000) :
    Calls Tryz.prog 183 #[va, vb] w (RetQ w (V B32 a) (V B32 b) (max a.length b.length)) := by
  obtain ⟨A, ca, rfl, ma⟩ := ha.shape
  obtain ⟨A', cb, rfl, mb⟩ := hb.shape
  have HA := Lib.hid ma
  have HC := Lib.hid mb
  have FA := Lib.hid (And.intro da ta)
  have FC := Lib.hid (And.intro db tb)
  have HB := Lib.hid (Below.refl w.heap.size w)
  have hn : 0 < b.length := by cases b with
    | nil => exact absurd rfl hb0
    | cons => simp
  have hva := V_nonneg (B := B32) (by decide) da
  have hvb : 0 < V B32 b := by
    have h1 := Tr_ne (B := B32) (by decide) db tb
    have h2 := V_nonneg (B := B32) (by decide) db
    have : V B32 b ≠ 0 := fun e => hb0 (h1.2 e)
    omega
  have HV := Lib.hid (And.intro hva hvb)
  clear ha hb ma mb da ta db tb hb0 hva hvb
  go_enter Tryz.func183, Tryz.ntmps183
  go_wp2_with fail
  refine (p_order _ _ a b w HA.out HC.out FA.out.1 FC.out.1 FA.out.2 FC.out.2 (by omega)).mono ?_
  rintro e w1 ⟨rfl, hb⟩
  have HA' := Lib.hid (HA.out.below hb)
  have HC' := Lib.hid (HC.out.below hb)
  have HB' := Lib.hid (bth HB.out hb)
  clear hb HA HC HB
  have HA := HA'; have HC := HC'; have HB := HB'
  clear HA' HC' HB'
  by_cases hlt : V B32 a < V B32 b
  · rw [cmp_lt hlt]
    have HL := Lib.hid hlt
    clear hlt
    go_wp2_with fail
    go_ret2
    refine ⟨_, _, [], a, rfl, Mg.nil _, HA.out, Dg_nil _, FA.out.1, Or.inl rfl, FA.out.2, ?_, ?_, by simp, by omega, HB.out⟩
    · rw [Int.ediv_eq_zero_of_lt HV.out.1 HL.out]; rfl
    · rw [Int.emod_eq_of_lt HV.out.1 HL.out]
  · have hge : 0 ≤ cmp (V B32 a) (V B32 b) := by
      have := (cmp_ge (V B32 a) (V B32 b)).2 (by omega)
      exact this
    have HL := Lib.hid hlt
    clear hlt
    generalize cmp (V B32 a) (V B32 b) = o at *
    by_cases h1 : b.length = 1
    · have h1' : ((b.length : Int) == 1) = true := by rw [h1]; rfl
      obtain ⟨ad, rfl, hcell⟩ := HC.out.at_ 0 (by omega)
      rw [Addr.add_zero'] at hcell
      have hy : 0 ≤ rd b ((0 : Nat) : Int) ∧ rd b ((0 : Nat) : Int) < 4294967296 := Dg_rd FC.out.1 0 (by omega)
      have hVb : V B32 b = rd b ((0 : Nat) : Int) := by
        rw [← V_take_over B32 b 1 (by omega), V_take_succ B32 b 0 (by omega)]
        simp [V]
      have hy0 : 0 < rd b ((0 : Nat) : Int) := by rw [← hVb]; exact HV.out.2
      generalize rd b ((0 : Nat) : Int) = y at *
      have HVb := Lib.hid hVb
      have H1 := Lib.hid h1
      clear hVb h1
      go_wp2_with fail
      refine (p_short _ a y _ HA.out FA.out.1 ⟨hy0, hy.2⟩ (by omega)).mono ?_
      rintro e w2 ⟨v2, r2, rfl, hm2, hd2, ht2, hv2, hl2, hb2⟩
      have HM2 := Lib.hid (And.intro hm2 (And.intro hd2 (And.intro ht2 (And.intro hv2 hl2))))
      have HB2 := Lib.hid (bth HB.out hb2)
      obtain ⟨A2, c2, rfl, _⟩ := hm2
      have hr0 : 0 ≤ V B32 a % y ∧ V B32 a % y < 4294967296 := ⟨Int.emod_nonneg _ (by omega), by have := Int.emod_lt_of_pos (V B32 a) hy0; omega⟩
      clear hd2 ht2 hv2 hl2 hb2 HB
      generalize hd : V B32 a % y = d at *
      have HD := Lib.hid hd
      clear hd
      go_wp2_with fail
      have hib : IB (w2.alloc (.cells #[.int .u32 d] 140)) w2.heap.size 140 .u32 [d] := blk_new w2 _
      refine (p_trim _ [d] _ (hib.Mg (by simp))).mono ?_
      rintro e w3 ⟨v3, rfl, h3, hb3⟩
      have HB3 := Lib.hid (bth (below_alloc (Below.refl w2.heap.size w2) (.cells #[.int .u32 d] 140)) hb3)
      have H3 := Lib.hid h3
      clear h3 hb3
      go_wp2_with fail
      go_ret2
      obtain ⟨q1, q2, q3, q4, q5⟩ := HM2.out
      have l1 := trD_len [d]
      refine ⟨_, _, r2, trD [d], rfl, q1.below HB3.out, H3.out, q2, trD_Dg (Dg_cons.2 ⟨hr0, Dg_nil _⟩), q3, trD_Tr _, ?_, ?_, by omega, ?_, bth HB2.out HB3.out⟩
      · rw [q4, HVb.out]
      · rw [trD_V, HVb.out, HD.out]; simp [V]
      · have : [d].length = 1 := rfl
        omega
    · obtain ⟨m, hm⟩ : ∃ m, b.length = m + 2 := ⟨b.length - 2, by omega⟩
      have HM := Lib.hid hm
      have hK : ∃ K, a.length = K + m + 1 ∧ 1 ≤ K := by
        rcases Nat.lt_or_ge a.length b.length with h | h
        · exact absurd (V_len_lt (B := B32) (by decide) FA.out.1 FC.out.1 FC.out.2 h) HL.out
        · exact ⟨a.length - m - 1, by omega, by omega⟩
      obtain ⟨K, hK, hK1⟩ := hK
      rw [hm] at HC ⊢
      obtain ⟨L, hL⟩ : ∃ L, L = m + 2 := ⟨_, rfl⟩
      have HLm := Lib.hid hL
      rw [← hL] at HC ⊢
      have h1'' : ((L : Int) == 1) = false := beq_eq_false_iff_ne.2 (by omega)
      have hL2 : 2 ≤ L := by omega
      obtain ⟨ad, rfl, hcell⟩ := HC.out.at_ (m + 1) (by omega)
      rw [show m + 1 = L - 1 by omega] at hcell
      have hy : 0 ≤ rd b ((L - 1 : Nat) : Int) ∧ rd b ((L - 1 : Nat) : Int) < 4294967296 := Dg_rd FC.out.1 (L - 1) (by omega)
      have hy0 : 0 < rd b ((L - 1 : Nat) : Int) := by
        have := Tr_top (l := b) (m := L - 1) (by omega) FC.out.2
        omega
      obtain ⟨s, hs31, hs, hn1, hn2⟩ := norm_shift hy0 hy.2
      have HS := Lib.hid (And.intro hs (And.intro hn1 hn2))
      generalize hyv : rd b ((L - 1 : Nat) : Int) = y at *
      have HY := Lib.hid hyv
      have lb' : m ≤ 100000000 := by omega
      have HK := Lib.hid hK
      have lbL : L ≤ 100000002 := by omega
      clear hs hn1 hn2 hyv hm h1 hn hK hL
      go_wp2_with fail
      refine (Tryz.bits_LeadingZeros32 y w1 hy.1 (by omega)).mono ?_
      rintro e w2 ⟨rfl, rfl⟩
      rw [HS.out.1]
      go_wp2_with fail
      refine (p_raised _ a s w2 HA.out FA.out.1 hs31 (by omega)).mono ?_
      rintro e w3 ⟨gu, cu, u, rfl, hcu, hgu, hwu, hdu, hvu, hlu, hb3⟩
      have HU := Lib.hid (And.intro hwu (And.intro hdu (And.intro hvu hlu)))
      have HB3 := Lib.hid (bth HB.out hb3)
      have HC3 := Lib.hid (HC.out.below hb3)
      have HGU := Lib.hid (Nat.le_trans HB.out.size hgu)
      have hul : u.length ≤ 1000000000 := by omega
      clear hwu hdu hvu hgu HB HC hlu
      clear hcell
      go_wp2_with fail
      have HC4 := HC3.out
      rw [show L = b.length by rw [HM.out, HLm.out]] at HC4
      rw [show Value.slice (some ad) L cb = Value.slice (some ad) b.length cb by rw [HM.out, HLm.out]]
      refine (p_raised _ b s w3 HC4 FC.out.1 hs31 (by omega)).mono ?_
      rintro e w4 ⟨gv, cv, v, rfl, hcv, hgv, hwv, hdv, hvv, hlv, hb4⟩
      have HU2 := Lib.hid (WB.below HU.out.1 hb4)
      have HB4 := Lib.hid (bth HB3.out hb4)
      have HGV := Lib.hid hgv
      have HNE := Lib.hid (Nat.ne_of_gt (Nat.lt_of_lt_of_le (WB.lt HU.out.1) hgv))
      have HLV := Lib.hid hlv
      have HWV := Lib.hid (And.intro hwv (And.intro hdv (And.intro hvv hlv)))
      have hvl : v.length ≤ 9223372036854775807 := by omega
      clear hwv hdv hvv hgv HB3 HC4 HC3 hb4 hb3 hlv
      go_wp2_with fail
      have hmg := WB.Mg HWV.out.1 hcv hvl
      refine (p_trimA (some ⟨gv, 0, none⟩) cv v w4 hmg).mono ?_
      rintro e w5 ⟨rfl, hb5⟩
      have HU3 := Lib.hid (WB.below HU2.out hb5)
      have HWV3 := Lib.hid (WB.below HWV.out.1 hb5)
      have HB5 := Lib.hid (bth HB4.out hb5)
      have hLm := HLm.out
      have hyv : rd b ((m + 1 : Nat) : Int) = y := by rw [show m + 1 = L - 1 by omega]; exact HY.out
      have hnv := norm_value (b := b) (m := m + 1) HM.out FC.out.1 (by rw [hyv]; exact HS.out.2.1) (by rw [hyv]; exact HS.out.2.2)
      have hnl := norm_len (r := trD v) (m := m + 1) (trD_Dg HWV.out.2.1) (trD_Tr v) (by rw [trD_V]; rw [show V 4294967296 v = V 4294967296 b * 2 ^ s from HWV.out.2.2.1]; exact hnv.1) (by rw [trD_V]; rw [show V 4294967296 v = V 4294967296 b * 2 ^ s from HWV.out.2.2.1]; exact hnv.2)
      rw [show (trD v).length = L by rw [hnl.1, hLm]]
      have HNL := Lib.hid hnl
      have HVS : Hid (WB w5 gv (trD v) ∧ Dg B32 (trD v) ∧ V B32 (trD v) = V B32 b * 2 ^ s) := ⟨by rw [trD_take]; exact HWV3.out.take _, trD_Dg HWV.out.2.1, by rw [trD_V]; exact HWV.out.2.2.1⟩
      clear hb5 hnv hnl hLm hyv HU2 HWV3 HB4 HWV hvl hmg
      generalize trD v = vs at *
      have hcvs : L ≤ cv := by have := HM.out; have := HLm.out; have := HLV.out; omega
      clear hcv
      have hKb : K ≤ 100000000 := by have := HK.out; omega
      have mk := mk140 K (by omega)
      have MK := Lib.hid mk
      clear mk
      have HW5 : Hid (gu < w5.heap.size ∧ gv < w5.heap.size) := ⟨WB.lt HU3.out, WB.lt HVS.out.1⟩
      have hKi : (a.length : Int) - (b.length : Int) + 1 = (K : Int) := by have := HK.out; have := HLm.out; have := HM.out; omega
      go_wp2_with ((with_reducible refine gate_dst (N := 52) rfl ?_); refine ib_event (n := K) (t := 140) (k := .u32) rfl ?hr ?_; (case hr => go_simp; rw [MK.out]; rfl); intro g6 w6 hg ib hb; have HG6 := Lib.hid hg; have IB6 := Lib.hid ib; have HW6 := Lib.hid hb; clear hg ib hb)
      clear hKi MK
      go_loopg [11] (K + 1) (fun gk v11 w' => ∃ (i : Nat), i ≤ K ∧ i < gk ∧ v11 = .int .i64 ((i : Int) - 1) ∧ Hid (∃ us qs, DivMem w w' gu gv g6 vs us qs K L i (V B32 a * 2 ^ s)))
      case atStart =>
        have hLm := HLm.out
        have hHK := HK.out
        have hlu := HU.out.2.2.2
        have hbm : (4294967296 : Int) ^ (m + 1) ≤ V 4294967296 b := by
          have h1 := V_ge (B := B32) (by decide) FC.out.1 FC.out.2 (by intro e; have hm0 := HM.out; rw [e] at hm0; simp at hm0)
          rw [HM.out] at h1
          exact h1
        refine ⟨K, Nat.le_refl _, by omega, rfl, u, List.replicate K 0, WB.below HU3.out HW6.out, by omega, HU.out.2.1, WB.below HVS.out.1 HW6.out, IB6.out.WB, by simp, Dg_replicate (by decide) _, fun j hj => Zr_replicate K 0 j (Nat.zero_le _) (by simpa using hj), ?_, ?_, bth HB5.out HW6.out⟩
        · rw [show V 4294967296 u = V 4294967296 a * 2 ^ s from HU.out.2.2.1, show V 4294967296 vs = V 4294967296 b * 2 ^ s from HVS.out.2.2]
          exact div_start (m := m + 1) (by omega) FA.out.1 hbm (pow31 hs31).1
        · rw [V_replicate, Int.mul_zero, Int.add_zero]
          exact HU.out.2.2.1.symm
      case round =>
        obtain ⟨i, hi, hgk, rfl, HR⟩ := hrel
        by_cases h0 : i = 0
        · subst h0
          obtain ⟨us, qs, hm⟩ := HR.out
          have hlu : u.length = us.length := by have := hm.lu; have := HK.out; have := HLm.out; have := HU.out.2.2.2; omega
          have hE := div_end (a := V 4294967296 a) (b := V 4294967296 b) (S := 2 ^ s) (u := V 4294967296 us) (Q := V 4294967296 qs) (pow31 hs31).1 (by have h := hm.eq; rw [show V 4294967296 vs = V 4294967296 b * 2 ^ s from HVS.out.2.2] at h; exact h) (V_nonneg (by decide) hm.du) (by have h := hm.lt; rw [show V 4294967296 vs = V 4294967296 b * 2 ^ s from HVS.out.2.2] at h; simpa using h)
          have hmq := hm.wq.Mg (c := K) (by rw [hm.lq]; exact Nat.le_refl _) (by rw [hm.lq]; omega)
          rw [hm.lq] at hmq
          have HQ1 := Lib.hid hmq
          have HM1 := Lib.hid (And.intro hm hE)
          have hus : us.length ≤ 1000000000 := by omega
          have hcu2 : us.length ≤ cu := by omega
          rw [hlu]
          clear hmq hm hE hlu HR hul hcu
          go_wp2_with fail
          refine (p_trim _ qs wr HQ1.out).mono ?_
          rintro e w7 ⟨vq, rfl, hq7, hb7⟩
          have HQ7 := Lib.hid hq7
          have HB7 := Lib.hid hb7
          have HU7 := Lib.hid (WB.below HM1.out.1.wu hb7)
          clear hq7 hb7
          go_wp2_with fail
          have hmg := WB.Mg HU7.out hcu2 (by omega)
          refine (p_trimA (some ⟨gu, 0, none⟩) cu us w7 hmg).mono ?_
          rintro e w8 ⟨rfl, hb8⟩
          have HU8 := Lib.hid (WB.below HU7.out hb8)
          have HQ8 := Lib.hid (HQ7.out.below hb8)
          have HB8 := Lib.hid (bth HB7.out hb8)
          have htl := trD_len us
          have hwt : WB w8 gu (trD us) := by rw [trD_take]; exact HU8.out.take _
          have HWT := Lib.hid hwt
          have hxv : V B32 (trD us) = (V 4294967296 a - V 4294967296 b * V 4294967296 qs) * 2 ^ s := by rw [trD_V]; exact HM1.out.2.1
          have HXV := Lib.hid hxv
          have hdt : Dg B32 (trD us) := trD_Dg HM1.out.1.du
          have HDT := Lib.hid hdt
          have HTL := Lib.hid htl
          clear hmg hb8 hwt hxv hdt htl HU7 HU8
          generalize trD us = ut at *
          go_wp2_with fail
          have htl := HTL.out
          refine (p_lowered gu cu s ut w8 HWT.out (by omega) HDT.out hs31 (by omega) _ HXV.out).mono ?_
          rintro e w9 ⟨vr, r, rfl, hr1, hr2, hr3, hr4, hr5, hb9⟩
          have HR9 := Lib.hid (And.intro hr1 (And.intro hr2 (And.intro hr3 (And.intro hr4 hr5))))
          have HB9 := Lib.hid hb9
          clear hr1 hr2 hr3 hr4 hr5 hb9 htl
          go_wp2_with fail
          go_ret2
          obtain ⟨hr1, hr2, hr3, hr4, hr5⟩ := HR9.out
          obtain ⟨hm, hE⟩ := HM1.out
          have l1 := trD_len qs
          have l2 := hm.lq
          have l3 := HK.out
          have l4 := HTL.out
          have l5 := hm.lu
          have l6 := HLm.out
          have hvr : V B32 r = V B32 a % V B32 b := by rw [hr4]; exact hE.2.2.symm
          have hrb : r.length ≤ b.length := by
            rcases Nat.lt_or_ge b.length r.length with h | h
            · have h1 := V_len_lt (B := B32) (by decide) FC.out.1 hr2 hr3 h
              have h2 := Int.emod_lt_of_pos (V B32 a) HV.out.2
              omega
            · exact h
          refine ⟨_, _, trD qs, r, rfl, HQ8.out.below HB9.out, hr1, trD_Dg hm.dq, hr2, trD_Tr qs, hr3, ?_, hvr, by omega, by omega, bth hm.bl (bth HB8.out HB9.out)⟩
          rw [trD_V]
          exact hE.2.1.symm
        · obtain ⟨j, rfl⟩ : ∃ j, i = j + 1 := ⟨i - 1, by omega⟩
          obtain ⟨us, qs, hm⟩ := HR.out
          rw [show ((j + 1 : Nat) : Int) - 1 = (j : Int) by omega]
          have hul2 : j + L + 1 ≤ cu := by have := hm.lu; have := HK.out; have := HLm.out; have := HU.out.2.2.2; omega
          have hsp : us = us.take j ++ (us.drop j).take (L + 1) ++ us.drop (j + L + 1) := by
            rw [List.append_assoc, show us.drop (j + L + 1) = (us.drop j).drop (L + 1) by rw [List.drop_drop]; congr 1, List.take_append_drop, List.take_append_drop]
          have hlp : (us.take j).length = j := by rw [List.length_take]; have := hm.lu; omega
          have hlmid : ((us.drop j).take (L + 1)).length = L + 1 := by rw [List.length_take, List.length_drop]; have := hm.lu; omega
          have hdp : Dg 4294967296 (us.take j) := Dg_take hm.du j
          have hdmid : Dg 4294967296 ((us.drop j).take (L + 1)) := Dg_take (Dg_drop hm.du j) _
          have hdpo : Dg 4294967296 (us.drop (j + L + 1)) := Dg_drop hm.du _
          generalize hpre : us.take j = pre at *
          generalize hmid : (us.drop j).take (L + 1) = mid at *
          generalize hpost : us.drop (j + L + 1) = post at *
          have hlv2 : vs.length = L := by have := HNL.out.1; have := HLm.out; omega
          have hdv := div_pre (n := L) hlmid hlv2 hdp hdmid hdpo HVS.out.2.1 (by rw [← hsp, hlp]; exact hm.lt)
          have hwin : Win wr gu pre post mid := by unfold Win; rw [← hsp]; exact hm.wu
          have c := p_digit gu gv pre mid post vs (cu - j) cv m wr hwin hm.wv HNE.out (by have := HLm.out; omega) (by have := HLm.out; omega) (by have := HLm.out; omega) (by have := HLm.out; omega) (by omega) (by omega) hdmid HVS.out.2.1 hdv.1 HNL.out.2
          rw [hlp, show m + 3 = j + L + 1 - j by have := HLm.out; omega, show m + 2 = L by have := HLm.out; omega] at c
          have HM1 := Lib.hid (And.intro hm (And.intro hsp (And.intro hlp (And.intro hlmid (And.intro hdp (And.intro hdpo (And.intro hlv2 hdv)))))))
          have HC1 := Lib.hid c
          clear hm hsp hlp hlmid hdp hdmid hdpo hlv2 hdv hwin c HR hpre hmid hpost
          go_wp2_with fail
          refine HC1.out.mono ?_
          rintro e w7 ⟨q, mid', rfl, hq0, hq1, hlm, hdm, hVm, hltm, hwin, hfar⟩
          have hne6 : g6 ≠ gu := Nat.ne_of_gt (Nat.lt_of_lt_of_le HW5.out.1 HG6.out)
          have hne7 : g6 ≠ gv := Nat.ne_of_gt (Nat.lt_of_lt_of_le HW5.out.2 HG6.out)
          have hwq := WB.far HM1.out.1.wq hfar hne6
          have hfr := WB.frozen hwq j
          have hcq := WB.cell hwq j (by have := HM1.out.1.lq; omega)
          have hwv := WB.far HM1.out.1.wv hfar HNE.out
          have HH := Lib.hid (And.intro hlm (And.intro hdm (And.intro hVm (And.intro hltm (And.intro hwin (And.intro hfar (And.intro hwq hwv)))))))
          have HN6 := Lib.hid (And.intro hne6 hne7)
          clear hlm hdm hVm hltm hwin hfar hwq hwv HC1 hne6 hne7
          go_wp2_with fail
          obtain ⟨hlm, hdm, hVm, hltm, hwin, hfar, hwq, hwv⟩ := HH.out
          obtain ⟨hm, hsp, hlp, hlmid, hdp, hdpo, hlv2, hdv⟩ := HM1.out
          have hP := div_post (pre := pre) (mid := mid) (mid' := mid') (post := post) (vs := vs) (q := q) (by have := HLm.out; omega) hdp hdv.2 hVm hltm
          rw [← hsp, hlp] at hP
          have f6 := (Far.refl g6 w7).setCell j (.int .u32 q)
          go_roundg (gk - 1)
          case measure => omega
          case rel =>
            refine ⟨j, by omega, by omega, rfl, pre ++ mid' ++ post, qs.set j q, WB.far hwin f6 HN6.out.1.symm, ?_, ?_, hwv.far f6 HN6.out.2.symm, hwq.set_ j (by have := hm.lq; omega) q, by simpa using hm.lq, Dg_set32 hm.dq _ ⟨hq0, hq1⟩, ?_, hP.2, ?_, ?_⟩
            · have := hm.lu
              rw [hsp] at this
              simp only [List.length_append] at this ⊢
              have := HLm.out
              omega
            · exact Dg_append.2 ⟨Dg_append.2 ⟨hdp, hdm⟩, hdpo⟩
            · intro k hk
              rw [rd_set_ne _ _ _ _ (by omega)]
              exact hm.zq k (by omega)
            · rw [hP.1, V_set _ _ _ _ (by have := hm.lq; omega), hm.zq j (by omega), hm.eq]
              grind
            · exact (hm.bl.trans (hfar.below HGU.out (WB.lt hm.wu))).setCell (p := ⟨g6, j, none⟩) (Nat.le_trans HB5.out.size HG6.out) _
end Go.Proofs.YtapckjeedekphaaGreatDoor

namespace Go.Proofs.YtapckjeedekphaaGreatDoor
open Go.RowKit Go.Proofs.YtapckjeedekphaaGreatDoorW.PrintWords PR
theorem V_pair (m : Int) (h : 0 ≤ m ∧ m < 18446744073709551616) : V B32 [m % 4294967296, m / 4294967296] = m ∧ Dg B32 [m % 4294967296, m / 4294967296] := by
  refine ⟨by show m % 4294967296 + 4294967296 * (m / 4294967296 + 4294967296 * 0) = m; omega, Dg_cons.2 ⟨by show 0 ≤ _ ∧ _ < (4294967296 : Int); omega, Dg_cons.2 ⟨by show 0 ≤ _ ∧ _ < (4294967296 : Int); omega, Dg_nil _⟩⟩⟩
set_option maxHeartbeats 800000 in
theorem p_from (n : Int) (w : World) (h0 : -9223372036854775808 ≤ n) (h1 : n ≤ 9223372036854775807) : Calls Tryz.prog 49 #[.int .i64 n] w (RetI w n) := by
  by_cases hn : n < 0
  · have hw : IntKind.u64.wrap n = n + 18446744073709551616 := by rw [IntKind.wrap_u64]; omega
    have hw2 : IntKind.u64.wrap (-(n + 18446744073709551616)) = -n := by rw [IntKind.wrap_u64]; omega
    have HB := Lib.hid (Below.refl w.heap.size w)
    go_enter Tryz.func49, Tryz.ntmps49
    go_wp2_with (first | ((with_reducible refine gate_dst (N := 2) rfl ?_); refine bx_event rfl (cs := #[.bool false, .slice none 0 0]) (t := 27) ?hr ?_; (case hr => first | (go_simp; done) | (go_simp; rfl)); intro g2 w2 hg bk hb; have HG2 := Lib.hid (Nat.le_trans HB.out.size hg); replace HB := Lib.hid (bth HB.out hb); have BK2 := Lib.hid bk; obtain ⟨c2_0, c2_1, f2_0, f2_1⟩ := BK2.out.all2; clear hb hg bk))
    have hp := V_pair (-n) (by omega)
    have hib : IB (w2.alloc (.cells #[.int .u32 ((-n) % 4294967296), .int .u32 ((-n) / 4294967296)] 140)) w2.heap.size 140 .u32 [(-n) % 4294967296, (-n) / 4294967296] := blk_new w2 _
    have hz : n = sgn true (V B32 [(-n) % 4294967296, (-n) / 4294967296]) := by rw [hp.1]; simp [sgn]
    refine (p_signed true _ _ _ (hib.Mg (by simp)) hp.2 n hz).mono ?_
    rintro e u1 ⟨v2, rfl, hv2, hb0⟩
    have hb := bth (below_alloc (Below.refl w2.heap.size w2) _) hb0
    replace HB := Lib.hid (bth HB.out hb)
    clear c2_0 c2_1 f2_0 f2_1
    replace BK2 := Lib.hid (BK2.out.below hb)
    obtain ⟨c2_0, c2_1, f2_0, f2_1⟩ := BK2.out.all2
    clear hb
    have HV2 := Lib.hid hv2
    obtain ⟨nr, Ar, kr, cr, rfl⟩ := hv2.shape
    clear hv2 hib hz hp
    go_wp2_with fail
    refine bodyPost_ret (results_cell_row rfl _ _ g2 27 #[.bool _, .slice Ar kr cr] (0, 0) _ rfl ((BK2.out.set_ 0 _).set_ 1 _) Tryz.underlying27 rfl (by kernel_rfl)) rfl ?_
    exact ⟨_, rfl, (HV2.out.kp (((Kp.refl _).box BK2.out (by decide) 0 _).box (BK2.out.set_ 0 _) (by decide) 1 _)), (HB.out.setCell HG2.out _).setCell HG2.out _⟩
  · have hw : IntKind.u64.wrap n = n := by rw [IntKind.wrap_u64]; omega
    have HB := Lib.hid (Below.refl w.heap.size w)
    go_enter Tryz.func49, Tryz.ntmps49
    go_wp2_with (first | ((with_reducible refine gate_dst (N := 2) rfl ?_); refine bx_event rfl (cs := #[.bool false, .slice none 0 0]) (t := 27) ?hr ?_; (case hr => first | (go_simp; done) | (go_simp; rfl)); intro g2 w2 hg bk hb; have HG2 := Lib.hid (Nat.le_trans HB.out.size hg); replace HB := Lib.hid (bth HB.out hb); have BK2 := Lib.hid bk; obtain ⟨c2_0, c2_1, f2_0, f2_1⟩ := BK2.out.all2; clear hb hg bk))
    have hp := V_pair n (by omega)
    have hib : IB (w2.alloc (.cells #[.int .u32 (n % 4294967296), .int .u32 (n / 4294967296)] 140)) w2.heap.size 140 .u32 [n % 4294967296, n / 4294967296] := blk_new w2 _
    have hz : n = sgn false (V B32 [n % 4294967296, n / 4294967296]) := by rw [hp.1]; simp [sgn]
    refine (p_signed false _ _ _ (hib.Mg (by simp)) hp.2 n hz).mono ?_
    rintro e u1 ⟨v2, rfl, hv2, hb0⟩
    have hb := bth (below_alloc (Below.refl w2.heap.size w2) _) hb0
    replace HB := Lib.hid (bth HB.out hb)
    clear c2_0 c2_1 f2_0 f2_1
    replace BK2 := Lib.hid (BK2.out.below hb)
    obtain ⟨c2_0, c2_1, f2_0, f2_1⟩ := BK2.out.all2
    clear hb
    have HV2 := Lib.hid hv2
    obtain ⟨nr, Ar, kr, cr, rfl⟩ := hv2.shape
    clear hv2 hib hz hp
    go_wp2_with fail
    refine bodyPost_ret (results_cell_row rfl _ _ g2 27 #[.bool _, .slice Ar kr cr] (0, 0) _ rfl ((BK2.out.set_ 0 _).set_ 1 _) Tryz.underlying27 rfl (by kernel_rfl)) rfl ?_
    exact ⟨_, rfl, (HV2.out.kp (((Kp.refl _).box BK2.out (by decide) 0 _).box (BK2.out.set_ 0 _) (by decide) 1 _)), (HB.out.setCell HG2.out _).setCell HG2.out _⟩
end Go.Proofs.YtapckjeedekphaaGreatDoor

namespace Go.Proofs.YtapckjeedekphaaGreatDoor
open Go.RowKit Go.Proofs.YtapckjeedekphaaGreatDoorW.PrintWords PR
theorem gcd_step {a b : Int} (ha : 0 ≤ a) (hb : 0 < b) : Int.gcd b (a % b) = Int.gcd a b := by
  obtain ⟨n, rfl⟩ := Int.eq_ofNat_of_zero_le ha
  obtain ⟨m, rfl⟩ := Int.eq_ofNat_of_zero_le (Int.le_of_lt hb)
  have e : ((n : Int) % (m : Int)) = ((n % m : Nat) : Int) := by simp
  rw [e, Int.gcd_natCast_natCast, Int.gcd_natCast_natCast, Nat.gcd_comm n m, Nat.gcd_rec m n, Nat.gcd_comm]
structure GcdMem (w w' : World) (v5 v6 : Value) (l1 l2 : List Int) (n g : Nat) : Prop where
  m1 : Mg w' v5 l1
  m2 : Mg w' v6 l2
  d1 : Dg B32 l1
  d2 : Dg B32 l2
  t1 : Tr l1
  t2 : Tr l2
  n1 : l1.length ≤ n
  n2 : l2.length ≤ n
  eq : Int.gcd (V B32 l1) (V B32 l2) = g
  bl : Below w.heap.size w w'
set_option maxHeartbeats 800000 in
theorem p_gcd (va vb : Value) (x y : Int) (w : World) (ha : RI w va x) (hb : RI w vb y) {n : Nat} (hx : Td n x) (hy : Td n y) (hn : n ≤ 1000000) : Calls Tryz.prog 160 #[va, vb] w (RetI w (Int.gcd x y)) := by
  obtain ⟨na, Aa, ca, a, rfl, ma, da, ta, ea, za⟩ := ha.parts
  obtain ⟨nb, Ab, cb, b, rfl, mb, db, tb, eb, zb⟩ := hb.parts
  have hla : a.length ≤ n := Td_len32 da ta (by rw [← za]; exact hx)
  have hlb : b.length ≤ n := Td_len32 db tb (by rw [← zb]; exact hy)
  have HA := Lib.hid ma
  have HC := Lib.hid mb
  have FA := Lib.hid (And.intro da (And.intro ta ea))
  have FC := Lib.hid (And.intro db (And.intro tb eb))
  have HZ := Lib.hid (And.intro za zb)
  clear ha hb hx hy da ta ea za db tb eb zb
  clear ma mb
  have HB := Lib.hid (Below.refl w.heap.size w)
  go_enter Tryz.func160, Tryz.ntmps160
  go_wp2_with (first | ((with_reducible refine gate_dst (N := 2) rfl ?_); refine bx_event rfl (cs := #[.bool na, .slice Aa a.length ca]) (t := 27) ?hr ?_; (case hr => first | (go_simp; done) | (go_simp; rfl)); intro g2 w2 hg bk hb; have HG2 := Lib.hid (Nat.le_trans HB.out.size hg); replace HB := Lib.hid (bth HB.out hb); replace HA := Lib.hid (HA.out.below hb); replace HC := Lib.hid (HC.out.below hb); have BK2 := Lib.hid bk; obtain ⟨c2_0, c2_1, f2_0, f2_1⟩ := BK2.out.all2; clear hb hg bk) | ((with_reducible refine gate_dst (N := 3) rfl ?_); refine bx_event rfl (cs := #[.bool nb, .slice Ab b.length cb]) (t := 27) ?hr ?_; (case hr => first | (go_simp; done) | (go_simp; rfl)); intro g3 w3 hg bk hb; have HG3 := Lib.hid (Nat.le_trans HB.out.size hg); replace HB := Lib.hid (bth HB.out hb); have HN2_3 := Lib.hid (Nat.ne_of_lt (Nat.lt_of_lt_of_le BK2.out.lt hg)); clear c2_0 c2_1 f2_0 f2_1; replace BK2 := Lib.hid (BK2.out.below hb); obtain ⟨c2_0, c2_1, f2_0, f2_1⟩ := BK2.out.all2; replace HA := Lib.hid (HA.out.below hb); replace HC := Lib.hid (HC.out.below hb); have BK3 := Lib.hid bk; obtain ⟨c3_0, c3_1, f3_0, f3_1⟩ := BK3.out.all2; clear hb hg bk) | ((with_reducible refine gate_dst (N := 4) rfl ?_); refine bx_event rfl (cs := #[.bool false, .slice none 0 0]) (t := 27) ?hr ?_; (case hr => first | (go_simp; done) | (go_simp; rfl)); intro g4 w4 hg bk hb; have HG4 := Lib.hid (Nat.le_trans HB.out.size hg); replace HB := Lib.hid (bth HB.out hb); have HN2_4 := Lib.hid (Nat.ne_of_lt (Nat.lt_of_lt_of_le BK2.out.lt hg)); have HN3_4 := Lib.hid (Nat.ne_of_lt (Nat.lt_of_lt_of_le BK3.out.lt hg)); clear c2_0 c2_1 f2_0 f2_1; replace BK2 := Lib.hid (BK2.out.below hb); obtain ⟨c2_0, c2_1, f2_0, f2_1⟩ := BK2.out.all2; clear c3_0 c3_1 f3_0 f3_1; replace BK3 := Lib.hid (BK3.out.below hb); obtain ⟨c3_0, c3_1, f3_0, f3_1⟩ := BK3.out.all2; replace HA := Lib.hid (HA.out.below hb); replace HC := Lib.hid (HC.out.below hb); have BK4 := Lib.hid bk; obtain ⟨c4_0, c4_1, f4_0, f4_1⟩ := BK4.out.all2; clear hb hg bk))
  go_quiet (fail)
  go_wp2_with fail
  clear c2_0 c2_1 f2_0 f2_1 c3_0 c3_1 f3_0 f3_1 c4_0 c4_1 f4_0 f4_1 BK2 BK3
  go_loopg [5, 6] ((V B32 b).toNat + 2) (fun gk v5 v6 w' => ∃ (A1 A2 : Option Addr) (n1 n2 c1 c2 : Nat), v5 = .slice A1 n1 c1 ∧ v6 = .slice A2 n2 c2 ∧ Hid (∃ l1 l2, n2 = l2.length ∧ (V B32 l2).toNat < gk ∧ GcdMem w4 w' v5 v6 l1 l2 n (Int.gcd x y)))
  case atStart =>
    refine ⟨_, _, _, _, _, _, rfl, rfl, a, b, rfl, by omega, HA.out.below (pw_below_drewN (Below.refl _ _) nq), HC.out.below (pw_below_drewN (Below.refl _ _) nq), FA.out.1, FC.out.1, FA.out.2.1, FC.out.2.1, hla, hlb, ?_, pw_below_drewN (Below.refl _ _) nq⟩
    rw [HZ.out.1, HZ.out.2]
    have h1 := V_nonneg (B := B32) (by decide) FA.out.1
    have h2 := V_nonneg (B := B32) (by decide) FC.out.1
    unfold sgn
    split <;> split <;> simp [Int.gcd]
  case round =>
    obtain ⟨A1, A2, n1, n2, c1, c2, rfl, rfl, HR⟩ := hrel
    by_cases h0 : 0 < n2
    · have h0' : decide (0 < (n2 : Int)) = true := decide_eq_true (by omega)
      obtain ⟨l1, l2, hl2, hgk, hm⟩ := HR.out
      have hne : l2 ≠ [] := by intro e; rw [e] at hl2; simp at hl2; omega
      have hd := p_divide _ _ l1 l2 wr hm.m1 hm.m2 hm.d1 hm.d2 hm.t1 hm.t2 hne (by have := hm.n1; omega) (by have := hm.n2; omega)
      have HM := Lib.hid (And.intro hm (And.intro hgk hne))
      have HD := Lib.hid hd
      clear hl2 hgk hm hne hd HR
      go_wp2_with fail
      refine HD.out.mono ?_
      rintro e u1 ⟨vq, vr, q, r, rfl, hq, hr, dq, dr, tq, tr, vq', vr', lq, lr, hb⟩
      have HR := Lib.hid (And.intro hr (And.intro dr (And.intro tr (And.intro vr' lr))))
      have HB2 := Lib.hid hb
      obtain ⟨A3, c3, rfl, _⟩ := hr
      obtain ⟨A4, c4, rfl, _⟩ := hq
      clear dq dr tq tr vq' vr' lq lr hb HD
      go_wp2_with fail
      obtain ⟨hm, hgk, hne⟩ := HM.out
      obtain ⟨hr, dr, tr, vr', lr⟩ := HR.out
      have h1 := V_nonneg (B := B32) (by decide) hm.d1
      have h2 := V_nonneg (B := B32) (by decide) hm.d2
      have h3 := mt (Tr_ne (B := B32) (by decide) hm.d2 hm.t2).2 hne
      have h4 := Int.emod_lt_of_pos (V B32 l1) (show 0 < V B32 l2 by omega)
      have h5 := Int.emod_nonneg (V B32 l1) (show V B32 l2 ≠ 0 by omega)
      go_roundg (gk - 1)
      case measure => omega
      case rel =>
        refine ⟨_, _, _, _, _, _, rfl, rfl, l2, r, rfl, by rw [vr']; omega, hm.m2.below HB2.out, hr, hm.d2, dr, hm.t2, tr, hm.n2, by have := hm.n1; have := hm.n2; omega, ?_, bth hm.bl HB2.out⟩
        rw [vr', gcd_step h1 (by omega)]
        exact hm.eq
    · have h0' : decide (0 < (n2 : Int)) = false := decide_eq_false (by omega)
      obtain ⟨l1, l2, hl2, hgk, hm⟩ := HR.out
      have hl : l2 = [] := List.eq_nil_of_length_eq_zero (by omega)
      have hRI : RI wr (.agg #[.bool false, .slice A1 n1 c1]) (Int.gcd x y : Int) := by
        refine (RI.mk (neg := false) hm.m1 hm.d1 hm.t1 (fun h => by cases h)).cast ?_
        have e := hm.eq
        have h1 := V_nonneg (B := B32) (by decide) hm.d1
        rw [hl] at e
        rw [← e]
        show sgn false (V B32 l1) = ((Int.gcd (V B32 l1) (V B32 [])) : Int)
        simp [sgn, V]
        omega
      have BKr := Lib.hid (BK4.out.below hm.bl)
      have c4_0 := BKr.out.cell 0
      have c4_1 := BKr.out.cell 1
      have f4_0 := BKr.out.frozen 0
      have f4_1 := BKr.out.frozen 1
      have HV2 := Lib.hid hRI
      have HB2 := Lib.hid (bth HB.out hm.bl)
      clear hl2 hgk hm hl hRI HR
      go_wp2_with fail
      refine bodyPost_ret (results_cell_row rfl _ _ g4 27 #[.bool _, .slice A1 n1 c1] (0, 0) _ rfl ((BKr.out.set_ 0 _).set_ 1 _) Tryz.underlying27 rfl (by kernel_rfl)) rfl ?_
      exact ⟨_, rfl, (HV2.out.kp (((Kp.refl _).box BKr.out (by decide) 0 _).box (BKr.out.set_ 0 _) (by decide) 1 _)), (HB2.out.setCell HG4.out _).setCell HG4.out _⟩
end Go.Proofs.YtapckjeedekphaaGreatDoor

namespace Go.Proofs.YtapckjeedekphaaGreatDoor
open Go.RowKit Go.Proofs.YtapckjeedekphaaGreatDoorW.PrintWords PR
def DvmI (w : World) (na : Bool) (nb : Bool) (Aa : Option Addr) (Ab : Option Addr) (a : List Int) (b : List Int) (ca : Nat) (cb : Nat) (Aq : Option Addr) (Ar : Option Addr) (q : List Int) (r : List Int) (cq : Nat) (cr : Nat) (g2 g3 : Nat) (w' : World) : Prop := Bx w' g2 27 #[.bool na, .slice Aa a.length ca] ∧ Bx w' g3 27 #[.bool nb, .slice Ab b.length cb] ∧ Below w.heap.size w w' ∧ Mg w' (.slice Aa a.length ca) a ∧ Mg w' (.slice Ab b.length cb) b ∧ Mg w' (.slice Aq q.length cq) q ∧ Mg w' (.slice Ar r.length cr) r
theorem DvmI.cells {w : World} {na : Bool} {nb : Bool} {Aa : Option Addr} {Ab : Option Addr} {a : List Int} {b : List Int} {ca : Nat} {cb : Nat} {Aq : Option Addr} {Ar : Option Addr} {q : List Int} {r : List Int} {cq : Nat} {cr : Nat} {g2 g3 : Nat} {W : World} (h : DvmI w na nb Aa Ab a b ca cb Aq Ar q r cq cr g2 g3 W) : W.cell? ⟨g2, 0, none⟩ = some (.bool na) ∧ W.cell? ⟨g2, 1, none⟩ = some (.slice Aa a.length ca) ∧ W.cell? ⟨g3, 0, none⟩ = some (.bool nb) ∧ W.cell? ⟨g3, 1, none⟩ = some (.slice Ab b.length cb) ∧ Hid (DvmI w na nb Aa Ab a b ca cb Aq Ar q r cq cr g2 g3 W) := by
  have h' := h
  obtain ⟨h2, h3, _⟩ := h
  exact ⟨h2.cell 0, h2.cell 1, h3.cell 0, h3.cell 1, h'⟩
theorem DvmI.below {w : World} {na : Bool} {nb : Bool} {Aa : Option Addr} {Ab : Option Addr} {a : List Int} {b : List Int} {ca : Nat} {cb : Nat} {Aq : Option Addr} {Ar : Option Addr} {q : List Int} {r : List Int} {cq : Nat} {cr : Nat} {g2 g3 : Nat} {W W1 : World} (h : DvmI w na nb Aa Ab a b ca cb Aq Ar q r cq cr g2 g3 W) (hb : Below W.heap.size W W1) : DvmI w na nb Aa Ab a b ca cb Aq Ar q r cq cr g2 g3 W1 := by
  obtain ⟨h2, h3, hB, k0, k1, k2, k3⟩ := h
  exact ⟨h2.below hb, h3.below hb, bth hB hb, k0.below hb, k1.below hb, k2.below hb, k3.below hb⟩
theorem DvmI.store {w : World} {na : Bool} {nb : Bool} {Aa : Option Addr} {Ab : Option Addr} {a : List Int} {b : List Int} {ca : Nat} {cb : Nat} {Aq : Option Addr} {Ar : Option Addr} {q : List Int} {r : List Int} {cq : Nat} {cr : Nat} {g2 g3 : Nat} {W : World} {gr : Nat} {cs : Array Value} (h : DvmI w na nb Aa Ab a b ca cb Aq Ar q r cq cr g2 g3 W) (hx : Bx W gr 27 cs) (hg : w.heap.size ≤ gr) (n2 : g2 ≠ gr) (n3 : g3 ≠ gr) (i : Nat) (u : Value) : DvmI w na nb Aa Ab a b ca cb Aq Ar q r cq cr g2 g3 (W.setCell ⟨gr, i, none⟩ u) := by
  obtain ⟨h2, h3, hB, k0, k1, k2, k3⟩ := h
  exact ⟨h2.far (p := ⟨gr, i, none⟩) n2 u, h3.far (p := ⟨gr, i, none⟩) n3 u, hB.setCell hg u, k0.kp ((Kp.refl _).box hx (by decide) i u), k1.kp ((Kp.refl _).box hx (by decide) i u), k2.kp ((Kp.refl _).box hx (by decide) i u), k3.kp ((Kp.refl _).box hx (by decide) i u)⟩
theorem RI.drew {w : World} {v : Value} {z : Int} (h : RI w v z) : RI w.drew v z := h
theorem RI.neg_iff {w : World} {n : Bool} {m : Value} {z : Int} (h : RI w (.agg #[.bool n, m]) z) : n = decide (z < 0) := by
  obtain ⟨neg, m', l, e, h1, h2, h3, h4, h5⟩ := h
  injection e with e
  injection e with e
  injection e with e1 e2
  injection e1 with e1
  subst e1
  have g := sgn_facts h2 h3 h4
  rw [h5]
  cases n with
  | true => have := g.2.1 (h4 rfl); simp [sgn]; omega
  | false => have := g.2.2; simp [sgn]; omega
theorem dvm_facts {x y : Int} {na nb : Bool} {a b q r : List Int} (hx : x = sgn na (V B32 a)) (hy : y = sgn nb (V B32 b)) (ha : 0 ≤ V B32 a) (hb : Dg B32 b ∧ Tr b ∧ (nb = true → b ≠ [])) (hb0 : b ≠ []) (hq : V B32 q = V B32 a / V B32 b) (hr : V B32 r = V B32 a % V B32 b) :
    x = sgn (!na == nb) (V B32 q) * y + sgn na (V B32 r) ∧ (nb = decide (y < 0)) ∧ y ≠ 0 ∧ (sgn na (V B32 r)).natAbs < y.natAbs := by
  have h1 := V_nonneg (B := B32) (by decide) hb.1
  have h2 := mt (Tr_ne (B := B32) (by decide) hb.1 hb.2.1).2 hb0
  have h3 := Int.emod_nonneg (V B32 a) h2
  have h4 := Int.emod_lt_of_pos (V B32 a) (show 0 < V B32 b by omega)
  have h5 : V B32 a = V B32 b * (V B32 a / V B32 b) + V B32 a % V B32 b := by have := Int.emod_add_mul_ediv (V B32 a) (V B32 b); omega
  rw [← hq, ← hr] at h5
  rw [← hr] at h3 h4
  refine ⟨?_, ?_, ?_, ?_⟩
  · rw [hx, hy]
    cases na <;> cases nb <;> simp [sgn] <;> grind
  · rw [hy]; cases nb <;> simp [sgn] <;> omega
  · rw [hy]; cases nb <;> simp [sgn] <;> omega
  · rw [hy]; cases na <;> cases nb <;> simp [sgn] <;> omega
theorem results_cells2 {P : Program} {fn : Func} {p p2 u : Tmp} {ty : TypeId} (h : fn.results = #[.cell p ty, .cell p2 ty, .tmp u]) (tmps : Array Value) (w : World) (g g2 : Nat) (t : TypeId) (cs cs2 : Array Value) (fr fr2 : Nat × Nat) (d : TypeDesc)
    (hp : tmps.getD p undef = .pointer (some ⟨g, 0, none⟩)) (hp2 : tmps.getD p2 undef = .pointer (some ⟨g2, 0, none⟩)) (hg : w.heap[g]? = some (.cells cs t fr)) (hg2 : w.heap[g2]? = some (.cells cs2 t fr2))
    (hu : P.underlying ty = some d) (hd : (match d with | .struct _ | .array _ _ => true | _ => false) = true) (hi : (P.info? ty).map (·.size) = some cs.size) (hi2 : (P.info? ty).map (·.size) = some cs2.size) :
    (results fn tmps).run P w = .ok (.tuple #[.agg cs, .agg cs2, tmps.getD u undef]) w := by
  have hp' : tmps[p]?.getD undef = .pointer (some ⟨g, 0, none⟩) := by simpa using hp
  have hp2' : tmps[p2]?.getD undef = .pointer (some ⟨g2, 0, none⟩) := by simpa using hp2
  simp [results, h, hp', hp2', asAddr, run_loadVar_row w g t ty cs fr d hg hu hd hi, run_loadVar_row w g2 t ty cs2 fr2 d hg2 hu hd hi2, Sem.run_bind, Result.andThen]
theorem dvm_A {x y z1 z2 : Int} (h : x = z1 * y + z2) (hl : z2.natAbs < y.natAbs) (hs : z2 = 0 ∨ (z2 < 0 ↔ y < 0)) : z1 = x.fdiv y ∧ z2 = x.fmod y := by
  have := fdivmod_eq h (by omega)
  exact ⟨this.1.symm, this.2.symm⟩
theorem dvm_C {x y z1 z2 : Int} (h : x = z1 * y + z2) (hl : z2.natAbs < y.natAbs) (h0 : z2 ≠ 0) (hs : ¬(z2 < 0 ↔ y < 0)) : z1 - 1 = x.fdiv y ∧ z2 + y = x.fmod y := by
  have := fdivmod_eq (x := x) (y := y) (q := z1 - 1) (r := z2 + y) (by rw [h]; grind) (by omega)
  exact ⟨this.1.symm, this.2.symm⟩
def EndI (w : World) (n1 n2 : Bool) (A1 A2 : Option Addr) (k1 k2 c1 c2 : Nat) (z1 z2 : Int) (g4 g5 : Nat) (w' : World) : Prop := Bx w' g4 27 #[.bool n1, .slice A1 k1 c1] ∧ Bx w' g5 27 #[.bool n2, .slice A2 k2 c2] ∧ Below w.heap.size w w' ∧ RI w' (.agg #[.bool n1, .slice A1 k1 c1]) z1 ∧ RI w' (.agg #[.bool n2, .slice A2 k2 c2]) z2
section
variable {w w' : World} {n1 n2 : Bool} {A1 A2 : Option Addr} {k1 k2 c1 c2 : Nat} {z1 z2 : Int} {g4 g5 : Nat}
theorem EndI.cells (h : EndI w n1 n2 A1 A2 k1 k2 c1 c2 z1 z2 g4 g5 w') : w'.cell? ⟨g4, 0, none⟩ = some (.bool n1) ∧ w'.cell? ⟨g4, 1, none⟩ = some (.slice A1 k1 c1) ∧ w'.cell? ⟨g5, 0, none⟩ = some (.bool n2) ∧ w'.cell? ⟨g5, 1, none⟩ = some (.slice A2 k2 c2) ∧ w'.frozen? ⟨g4, 0, none⟩ = false ∧ w'.frozen? ⟨g4, 1, none⟩ = false ∧ w'.frozen? ⟨g5, 0, none⟩ = false ∧ w'.frozen? ⟨g5, 1, none⟩ = false ∧ Hid (EndI w n1 n2 A1 A2 k1 k2 c1 c2 z1 z2 g4 g5 w') :=
  ⟨h.1.cell 0, h.1.cell 1, h.2.1.cell 0, h.2.1.cell 1, h.1.frozen 0, h.1.frozen 1, h.2.1.frozen 0, h.2.1.frozen 1, h⟩
theorem EndI.st4 (h : EndI w n1 n2 A1 A2 k1 k2 c1 c2 z1 z2 g4 g5 w') (hne : g5 ≠ g4) (hg : w.heap.size ≤ g4) : EndI w n1 n2 A1 A2 k1 k2 c1 c2 z1 z2 g4 g5 ((w'.setCell ⟨g4, 0, none⟩ (.bool n1)).setCell ⟨g4, 1, none⟩ (.slice A1 k1 c1)) := by
  have kp := ((Kp.refl w').box h.1 (by decide) 0 (.bool n1)).box (h.1.set_ 0 _) (by decide) 1 (.slice A1 k1 c1)
  exact ⟨(h.1.set_ 0 _).set_ 1 _, (h.2.1.far (p := ⟨g4, 0, none⟩) hne _).far (p := ⟨g4, 1, none⟩) hne _, (h.2.2.1.setCell hg _).setCell hg _, h.2.2.2.1.kp kp, h.2.2.2.2.kp kp⟩
theorem EndI.st5 (h : EndI w n1 n2 A1 A2 k1 k2 c1 c2 z1 z2 g4 g5 w') (hne : g4 ≠ g5) (hg : w.heap.size ≤ g5) : EndI w n1 n2 A1 A2 k1 k2 c1 c2 z1 z2 g4 g5 ((w'.setCell ⟨g5, 0, none⟩ (.bool n2)).setCell ⟨g5, 1, none⟩ (.slice A2 k2 c2)) := by
  have kp := ((Kp.refl w').box h.2.1 (by decide) 0 (.bool n2)).box (h.2.1.set_ 0 _) (by decide) 1 (.slice A2 k2 c2)
  exact ⟨(h.1.far (p := ⟨g5, 0, none⟩) hne _).far (p := ⟨g5, 1, none⟩) hne _, (h.2.1.set_ 0 _).set_ 1 _, (h.2.2.1.setCell hg _).setCell hg _, h.2.2.2.1.kp kp, h.2.2.2.2.kp kp⟩
theorem EndI.drew (h : EndI w n1 n2 A1 A2 k1 k2 c1 c2 z1 z2 g4 g5 w') : EndI w n1 n2 A1 A2 k1 k2 c1 c2 z1 z2 g4 g5 w'.drew := ⟨h.1, h.2.1, below_drew h.2.2.1, h.2.2.2.1, h.2.2.2.2⟩
end
theorem Td_one (n : Nat) : Td (n + 1) 1 := by
  have h : (0 : Int) < 10 ^ n := Int.pow_pos (by decide)
  unfold Td
  rw [Int.pow_succ]
  omega
theorem dvm_q {x : Int} {na nb : Bool} {a b q : List Int} (hx : x = sgn na (V B32 a)) (ha : 0 ≤ V B32 a) (hb : Dg B32 b) (hq : V B32 q = V B32 a / V B32 b) : (sgn (!na == nb) (V B32 q)).natAbs ≤ x.natAbs := by
  have h1 := V_nonneg (B := B32) (by decide) hb
  have h2 : V B32 a / V B32 b ≤ V B32 a := Int.ediv_le_self _ ha
  have h3 : 0 ≤ V B32 a / V B32 b := Int.ediv_nonneg ha h1
  rw [hx, hq]
  cases na <;> cases nb <;> simp [sgn] <;> omega
/-- The results are two integers, without an error. -/
def RetI2 (w : World) (x y : Int) (e : Ending) (w' : World) : Prop := ∃ v1 v2, e = .returned (.tuple #[v1, v2, .int .i64 0]) ∧ RI w' v1 x ∧ RI w' v2 y ∧ Below w.heap.size w w'
set_option maxRecDepth 8000 in
set_option maxHeartbeats 1600000 in
theorem p_divmod (va vb : Value) (x y : Int) (w : World) (ha : RI w va x) (hb : RI w vb y) {n : Nat} (hx : Td n x) (hy : Td n y) (hn : n ≤ 900000) (hy0 : y ≠ 0) : Calls Tryz.prog 147 #[va, vb] w (RetI2 w (x.fdiv y) (x.fmod y)) := by
  have HT := Lib.hid (And.intro hx (And.intro hy hy0))
  have HRB := Lib.hid hb
  have hsg : (cmp y 0 == 0) = false := by
    refine beq_eq_false_iff_ne.2 ?_
    rcases Int.lt_trichotomy y 0 with h | h | h
    · rw [cmp_lt h]; decide
    · exact absurd h hy0
    · rw [cmp_gt h]; decide
  obtain ⟨na, Aa, ca, a, rfl, ma, da, ta, ea, za⟩ := ha.parts
  obtain ⟨nb, Ab, cb, b, rfl, mb, db, tb, eb, zb⟩ := hb.parts
  have hla : a.length ≤ n := Td_len32 da ta (by rw [← za]; exact hx)
  have hlb : b.length ≤ n := Td_len32 db tb (by rw [← zb]; exact hy)
  have HA := Lib.hid ma
  have HC := Lib.hid mb
  have FA := Lib.hid (And.intro da (And.intro ta ea))
  have FC := Lib.hid (And.intro db (And.intro tb eb))
  have HZ := Lib.hid (And.intro za zb)
  clear ha hb hx hy da ta ea za db tb eb zb
  clear ma mb
  have hb0 : b ≠ [] := by
    intro e
    subst e
    apply HT.out.2.2
    rw [HZ.out.2]
    unfold sgn; split <;> simp [V]
  have HB0 := Lib.hid hb0
  clear hb0 hy0
  have HB := Lib.hid (Below.refl w.heap.size w)
  go_enter Tryz.func147, Tryz.ntmps147
  go_wp2_with (first | ((with_reducible refine gate_dst (N := 2) rfl ?_); refine bx_event rfl (cs := #[.bool na, .slice Aa a.length ca]) (t := 27) ?hr ?_; (case hr => first | (go_simp; done) | (go_simp; rfl)); intro g2 w2 hg bk hb; have HG2 := Lib.hid (Nat.le_trans HB.out.size hg); replace HB := Lib.hid (bth HB.out hb); replace HA := Lib.hid (HA.out.below hb); replace HC := Lib.hid (HC.out.below hb); replace HRB := Lib.hid (HRB.out.below hb); have BK2 := Lib.hid bk; obtain ⟨c2_0, c2_1, f2_0, f2_1⟩ := BK2.out.all2; clear hb hg bk) | ((with_reducible refine gate_dst (N := 3) rfl ?_); refine bx_event rfl (cs := #[.bool nb, .slice Ab b.length cb]) (t := 27) ?hr ?_; (case hr => first | (go_simp; done) | (go_simp; rfl)); intro g3 w3 hg bk hb; have HG3 := Lib.hid (Nat.le_trans HB.out.size hg); replace HB := Lib.hid (bth HB.out hb); have HN2_3 := Lib.hid (Nat.ne_of_lt (Nat.lt_of_lt_of_le BK2.out.lt hg)); clear c2_0 c2_1 f2_0 f2_1; replace BK2 := Lib.hid (BK2.out.below hb); obtain ⟨c2_0, c2_1, f2_0, f2_1⟩ := BK2.out.all2; replace HA := Lib.hid (HA.out.below hb); replace HC := Lib.hid (HC.out.below hb); replace HRB := Lib.hid (HRB.out.below hb); have BK3 := Lib.hid bk; obtain ⟨c3_0, c3_1, f3_0, f3_1⟩ := BK3.out.all2; clear hb hg bk) | ((with_reducible refine gate_dst (N := 4) rfl ?_); refine bx_event rfl (cs := #[.bool false, .slice none 0 0]) (t := 27) ?hr ?_; (case hr => first | (go_simp; done) | (go_simp; rfl)); intro g4 w4 hg bk hb; have HG4 := Lib.hid (Nat.le_trans HB.out.size hg); replace HB := Lib.hid (bth HB.out hb); have HN2_4 := Lib.hid (Nat.ne_of_lt (Nat.lt_of_lt_of_le BK2.out.lt hg)); have HN3_4 := Lib.hid (Nat.ne_of_lt (Nat.lt_of_lt_of_le BK3.out.lt hg)); clear c2_0 c2_1 f2_0 f2_1; replace BK2 := Lib.hid (BK2.out.below hb); obtain ⟨c2_0, c2_1, f2_0, f2_1⟩ := BK2.out.all2; clear c3_0 c3_1 f3_0 f3_1; replace BK3 := Lib.hid (BK3.out.below hb); obtain ⟨c3_0, c3_1, f3_0, f3_1⟩ := BK3.out.all2; replace HA := Lib.hid (HA.out.below hb); replace HC := Lib.hid (HC.out.below hb); replace HRB := Lib.hid (HRB.out.below hb); have BK4 := Lib.hid bk; obtain ⟨c4_0, c4_1, f4_0, f4_1⟩ := BK4.out.all2; clear hb hg bk) | ((with_reducible refine gate_dst (N := 5) rfl ?_); refine bx_event rfl (cs := #[.bool false, .slice none 0 0]) (t := 27) ?hr ?_; (case hr => first | (go_simp; done) | (go_simp; rfl)); intro g5 w5 hg bk hb; have HG5 := Lib.hid (Nat.le_trans HB.out.size hg); replace HB := Lib.hid (bth HB.out hb); have HN2_5 := Lib.hid (Nat.ne_of_lt (Nat.lt_of_lt_of_le BK2.out.lt hg)); have HN3_5 := Lib.hid (Nat.ne_of_lt (Nat.lt_of_lt_of_le BK3.out.lt hg)); have HN4_5 := Lib.hid (Nat.ne_of_lt (Nat.lt_of_lt_of_le BK4.out.lt hg)); clear c2_0 c2_1 f2_0 f2_1; replace BK2 := Lib.hid (BK2.out.below hb); obtain ⟨c2_0, c2_1, f2_0, f2_1⟩ := BK2.out.all2; clear c3_0 c3_1 f3_0 f3_1; replace BK3 := Lib.hid (BK3.out.below hb); obtain ⟨c3_0, c3_1, f3_0, f3_1⟩ := BK3.out.all2; clear c4_0 c4_1 f4_0 f4_1; replace BK4 := Lib.hid (BK4.out.below hb); obtain ⟨c4_0, c4_1, f4_0, f4_1⟩ := BK4.out.all2; replace HA := Lib.hid (HA.out.below hb); replace HC := Lib.hid (HC.out.below hb); replace HRB := Lib.hid (HRB.out.below hb); have BK5 := Lib.hid bk; obtain ⟨c5_0, c5_1, f5_0, f5_1⟩ := BK5.out.all2; clear hb hg bk))
  refine (p_sign _ y _ HRB.out).mono ?_
  rintro e u1 ⟨rfl, hb⟩
  replace HB := Lib.hid (bth HB.out hb)
  clear c2_0 c2_1 f2_0 f2_1
  replace BK2 := Lib.hid (BK2.out.below hb)
  obtain ⟨c2_0, c2_1, f2_0, f2_1⟩ := BK2.out.all2
  clear c3_0 c3_1 f3_0 f3_1
  replace BK3 := Lib.hid (BK3.out.below hb)
  obtain ⟨c3_0, c3_1, f3_0, f3_1⟩ := BK3.out.all2
  clear c4_0 c4_1 f4_0 f4_1
  replace BK4 := Lib.hid (BK4.out.below hb)
  obtain ⟨c4_0, c4_1, f4_0, f4_1⟩ := BK4.out.all2
  clear c5_0 c5_1 f5_0 f5_1
  replace BK5 := Lib.hid (BK5.out.below hb)
  obtain ⟨c5_0, c5_1, f5_0, f5_1⟩ := BK5.out.all2
  replace HA := Lib.hid (HA.out.below hb)
  replace HC := Lib.hid (HC.out.below hb)
  replace HRB := Lib.hid (HRB.out.below hb)
  clear hb
  go_wp2_with fail
  refine (p_divide _ _ a b _ HA.out HC.out FA.out.1 FC.out.1 FA.out.2.1 FC.out.2.1 HB0.out (by omega) (by omega)).mono ?_
  rintro e u2 ⟨vq, vr, q, r, rfl, hq, hr, dq, dr, tq, tr, vq2, vr2, lq, lr, hb⟩
  replace HB := Lib.hid (bth HB.out hb)
  clear c2_0 c2_1 f2_0 f2_1
  replace BK2 := Lib.hid (BK2.out.below hb)
  obtain ⟨c2_0, c2_1, f2_0, f2_1⟩ := BK2.out.all2
  clear c3_0 c3_1 f3_0 f3_1
  replace BK3 := Lib.hid (BK3.out.below hb)
  obtain ⟨c3_0, c3_1, f3_0, f3_1⟩ := BK3.out.all2
  clear c4_0 c4_1 f4_0 f4_1
  replace BK4 := Lib.hid (BK4.out.below hb)
  obtain ⟨c4_0, c4_1, f4_0, f4_1⟩ := BK4.out.all2
  clear c5_0 c5_1 f5_0 f5_1
  replace BK5 := Lib.hid (BK5.out.below hb)
  obtain ⟨c5_0, c5_1, f5_0, f5_1⟩ := BK5.out.all2
  replace HA := Lib.hid (HA.out.below hb)
  replace HC := Lib.hid (HC.out.below hb)
  replace HRB := Lib.hid (HRB.out.below hb)
  clear hb
  have HQR := Lib.hid (And.intro dq (And.intro dr (And.intro tq (And.intro tr (And.intro vq2 (And.intro vr2 (And.intro lq lr)))))))
  obtain ⟨Aq, cq, rfl, mq⟩ := hq.shape
  obtain ⟨Ar, cr, rfl, mr⟩ := hr.shape
  have HMQ := Lib.hid mq
  have HMR := Lib.hid mr
  clear dq dr tq tr vq2 vr2 lq lr hq hr mq mr
  go_wp2_with fail
  have HI : Hid (DvmI w na nb Aa Ab a b ca cb Aq Ar q r cq cr g2 g3 u2) := ⟨BK2.out, BK3.out, HB.out, HA.out, HC.out, HMQ.out, HMR.out⟩
  clear c2_0 c2_1 f2_0 f2_1 BK2
  clear c3_0 c3_1 f3_0 f3_1 BK3
  clear HB HA HC HRB HMQ HMR
  have BR4 := BK4
  clear BK4
  have BR5 := BK5
  clear BK5
  have hn1 := HN4_5.out
  have hn2 := HN4_5.out.symm
  first
  | (go_region_held3 (fun w' => w'.cell? ⟨g2, 0, none⟩ = some (.bool na) ∧ w'.cell? ⟨g2, 1, none⟩ = some (.slice Aa a.length ca) ∧ w'.cell? ⟨g3, 0, none⟩ = some (.bool nb) ∧ w'.cell? ⟨g3, 1, none⟩ = some (.slice Ab b.length cb) ∧ Hid (DvmI w na nb Aa Ab a b ca cb Aq Ar q r cq cr g2 g3 w')) (first | with_reducible exact (HI.out.below (below_drew (Below.refl _ _))).cells | with_reducible exact (HQ.out.below hb).cells | with_reducible exact (((HQ.out.below hb).store BR4.out HG4.out HN2_4.out HN3_4.out 0 _).store (BR4.out.set_ 0 _) HG4.out HN2_4.out HN3_4.out 1 _).cells | with_reducible exact (((((HQ.out.below hb).store BR4.out HG4.out HN2_4.out HN3_4.out 0 _).store (BR4.out.set_ 0 _) HG4.out HN2_4.out HN3_4.out 1 _).store ((BR5.out.far (p := ⟨g4, 0, none⟩) hn2 _).far (p := ⟨g4, 1, none⟩) hn2 _) HG5.out HN2_5.out HN3_5.out 0 _).store (((BR5.out.far (p := ⟨g4, 0, none⟩) hn2 _).far (p := ⟨g4, 1, none⟩) hn2 _).set_ 0 _) HG5.out HN2_5.out HN3_5.out 1 _).cells)
      (first | (go_at_call_of 123 Aq; have HQ0 := ‹_ ∧ _ ∧ _ ∧ _ ∧ Hid (DvmI w na nb Aa Ab a b ca cb Aq Ar q r cq cr g2 g3 _)›; have HQ := HQ0.2.2.2.2; clear HQ0; refine (p_signed (!(na == nb)) (.slice Aq q.length cq) q _ HQ.out.2.2.2.2.2.1 HQR.out.1 (sgn (!(na == nb)) (V B32 q)) (Eq.refl _)).mono ?_; rintro e u ⟨v1, rfl, hv1, hb⟩; have BR' : Hid (Bx u g4 27 #[.bool false, .slice none 0 0]) := (by first | exact BR4.out.below hb | exact BR4.out.drew.below hb); clear BR4; have BR4 := BR'; clear BR'; have cr4_0 := BR4.out.cell 0; have fr4_0 := BR4.out.frozen 0; have cr4_1 := BR4.out.cell 1; have fr4_1 := BR4.out.frozen 1; have BR' : Hid (Bx u g5 27 #[.bool false, .slice none 0 0]) := (by first | exact BR5.out.below hb | exact BR5.out.drew.below hb); clear BR5; have BR5 := BR'; clear BR'; have cr5_0 := BR5.out.cell 0; have fr5_0 := BR5.out.frozen 0; have cr5_1 := BR5.out.cell 1; have fr5_1 := BR5.out.frozen 1; have HV1 := Lib.hid hv1; (try ((first | with_reducible (replace HV2 := Lib.hid (RI.below HV2.out hb)) | with_reducible (have HV' := Lib.hid (RI.below (RI.drew HV2.out) hb))))); obtain ⟨n1, A1, k1, c1, rfl⟩ := hv1.shape; clear hv1) | (go_at_call_of 123 Ar; have HQ0 := ‹_ ∧ _ ∧ _ ∧ _ ∧ Hid (DvmI w na nb Aa Ab a b ca cb Aq Ar q r cq cr g2 g3 _)›; have HQ := HQ0.2.2.2.2; clear HQ0; refine (p_signed na (.slice Ar r.length cr) r _ HQ.out.2.2.2.2.2.2 HQR.out.2.1 (sgn na (V B32 r)) (Eq.refl _)).mono ?_; rintro e u ⟨v2, rfl, hv2, hb⟩; have BR' : Hid (Bx u g4 27 #[.bool false, .slice none 0 0]) := (by first | exact BR4.out.below hb | exact BR4.out.drew.below hb); clear BR4; have BR4 := BR'; clear BR'; have cr4_0 := BR4.out.cell 0; have fr4_0 := BR4.out.frozen 0; have cr4_1 := BR4.out.cell 1; have fr4_1 := BR4.out.frozen 1; have BR' : Hid (Bx u g5 27 #[.bool false, .slice none 0 0]) := (by first | exact BR5.out.below hb | exact BR5.out.drew.below hb); clear BR5; have BR5 := BR'; clear BR'; have cr5_0 := BR5.out.cell 0; have fr5_0 := BR5.out.frozen 0; have cr5_1 := BR5.out.cell 1; have fr5_1 := BR5.out.frozen 1; have HV2 := Lib.hid hv2; (try ((first | with_reducible (replace HV1 := Lib.hid (RI.below HV1.out hb)) | with_reducible (have HV' := Lib.hid (RI.below (RI.drew HV1.out) hb))))); obtain ⟨n2, A2, k2, c2, rfl⟩ := hv2.shape; clear hv2)))
  | fail
  have hB4 : Bx ((((u.setCell ⟨g4, 0, none⟩ (.bool n1)).setCell ⟨g4, 1, none⟩ (.slice A1 k1 c1)).setCell ⟨g5, 0, none⟩ (.bool n2)).setCell ⟨g5, 1, none⟩ (.slice A2 k2 c2)) g4 27 #[.bool n1, .slice A1 k1 c1] := (((BR4.out.set_ 0 (.bool n1)).set_ 1 (.slice A1 k1 c1)).far (p := ⟨g5, 0, none⟩) hn1 _).far (p := ⟨g5, 1, none⟩) hn1 _
  have hB5 : Bx ((((u.setCell ⟨g4, 0, none⟩ (.bool n1)).setCell ⟨g4, 1, none⟩ (.slice A1 k1 c1)).setCell ⟨g5, 0, none⟩ (.bool n2)).setCell ⟨g5, 1, none⟩ (.slice A2 k2 c2)) g5 27 #[.bool n2, .slice A2 k2 c2] := (((BR5.out.far (p := ⟨g4, 0, none⟩) hn2 _).far (p := ⟨g4, 1, none⟩) hn2 _).set_ 0 (.bool n2)).set_ 1 (.slice A2 k2 c2)
  have hI := (((((HQ.out.below hb).store BR4.out HG4.out HN2_4.out HN3_4.out 0 (.bool n1)).store (BR4.out.set_ 0 _) HG4.out HN2_4.out HN3_4.out 1 (.slice A1 k1 c1)).store ((BR5.out.far (p := ⟨g4, 0, none⟩) hn2 _).far (p := ⟨g4, 1, none⟩) hn2 _) HG5.out HN2_5.out HN3_5.out 0 (.bool n2)).store (((BR5.out.far (p := ⟨g4, 0, none⟩) hn2 _).far (p := ⟨g4, 1, none⟩) hn2 _).set_ 0 _) HG5.out HN2_5.out HN3_5.out 1 (.slice A2 k2 c2))
  have kp := ((((Kp.refl u).box BR4.out (by decide) 0 (.bool n1)).box (BR4.out.set_ 0 _) (by decide) 1 (.slice A1 k1 c1)).box ((BR5.out.far (p := ⟨g4, 0, none⟩) hn2 _).far (p := ⟨g4, 1, none⟩) hn2 _) (by decide) 0 (.bool n2)).box (((BR5.out.far (p := ⟨g4, 0, none⟩) hn2 _).far (p := ⟨g4, 1, none⟩) hn2 _).set_ 0 _) (by decide) 1 (.slice A2 k2 c2)
  have HV1' := Lib.hid (HV1.out.kp kp)
  have HV2' := Lib.hid (HV2.out.kp kp)
  clear kp HV1 HV2 BR4 BR5 HQ hb HI
  clear cr4_0 cr4_1 cr5_0 cr5_1 fr4_0 fr4_1 fr5_0 fr5_1
  clear c4_0 c4_1 c5_0 c5_1 f4_0 f4_1 f5_0 f5_1
  generalize ((((u.setCell ⟨g4, 0, none⟩ (.bool n1)).setCell ⟨g4, 1, none⟩ (.slice A1 k1 c1)).setCell ⟨g5, 0, none⟩ (.bool n2)).setCell ⟨g5, 1, none⟩ (.slice A2 k2 c2)) = w9 at *
  have BK4 := Lib.hid hB4
  have BK5 := Lib.hid hB5
  have BK2 := Lib.hid hI.1
  have BK3 := Lib.hid hI.2.1
  have HB := Lib.hid hI.2.2.1
  have HC := Lib.hid hI.2.2.2.2.1
  have HV1 := HV1'
  have HV2 := HV2'
  clear HV1' HV2' hB4 hB5 hI
  
  
  have hn2 := HV2.out.neg_iff
  have hz := dvm_facts HZ.out.1 HZ.out.2 (V_nonneg (B := B32) (by decide) FA.out.1) FC.out HB0.out HQR.out.2.2.2.2.1 HQR.out.2.2.2.2.2.1
  have hzq := dvm_q (nb := nb) HZ.out.1 (V_nonneg (B := B32) (by decide) FA.out.1) FC.out.1 HQR.out.2.2.2.2.1
  generalize hz1 : sgn (!na == nb) (V B32 q) = z1 at *
  generalize hz2 : sgn na (V B32 r) = z2 at *
  have HF := Lib.hid (And.intro hz hn2)
  have HZQ := Lib.hid hzq
  clear hzq hz hn2 hz1 hz2 hn1
  by_cases h0 : z2 = 0
  · have hs0 : (cmp z2 0 == 0) = true := by rw [h0, cmp_eq]; rfl
    have hs1 : cmp z2 0 = 0 := by rw [h0, cmp_eq]
    have HS0 : Hid ((x = z1 * y + z2 ∧ nb = decide (y < 0) ∧ y ≠ 0 ∧ z2.natAbs < y.natAbs) ∧ n2 = decide (z2 < 0) → z2 = 0 ∨ (z2 < 0 ↔ y < 0)) := fun _ => Or.inl h0
    clear h0
    obtain ⟨c2_0, c2_1, f2_0, f2_1⟩ := BK2.out.all2
    obtain ⟨c3_0, c3_1, f3_0, f3_1⟩ := BK3.out.all2
    obtain ⟨c4_0, c4_1, f4_0, f4_1⟩ := BK4.out.all2
    obtain ⟨c5_0, c5_1, f5_0, f5_1⟩ := BK5.out.all2
    go_wp2_with fail
    refine (p_sign _ z2 _ HV2.out).mono ?_
    rintro e u1 ⟨rfl, hb⟩
    replace HB := Lib.hid (bth HB.out hb)
    clear c2_0 c2_1 f2_0 f2_1
    replace BK2 := Lib.hid (BK2.out.below hb)
    obtain ⟨c2_0, c2_1, f2_0, f2_1⟩ := BK2.out.all2
    clear c3_0 c3_1 f3_0 f3_1
    replace BK3 := Lib.hid (BK3.out.below hb)
    obtain ⟨c3_0, c3_1, f3_0, f3_1⟩ := BK3.out.all2
    clear c4_0 c4_1 f4_0 f4_1
    replace BK4 := Lib.hid (BK4.out.below hb)
    obtain ⟨c4_0, c4_1, f4_0, f4_1⟩ := BK4.out.all2
    clear c5_0 c5_1 f5_0 f5_1
    replace BK5 := Lib.hid (BK5.out.below hb)
    obtain ⟨c5_0, c5_1, f5_0, f5_1⟩ := BK5.out.all2
    replace HC := Lib.hid (HC.out.below hb)
    replace HV1 := Lib.hid (HV1.out.below hb)
    replace HV2 := Lib.hid (HV2.out.below hb)
    clear hb
    rw [hs1]
    clear hs1 hs0
    go_wp2_with fail
    go_goals
    have HE : Hid (EndI w n1 n2 A1 A2 k1 k2 c1 c2 z1 z2 g4 g5 u1) := ⟨BK4.out, BK5.out, HB.out, HV1.out, HV2.out⟩
    have hn1 := HN4_5.out
    have hn2 := HN4_5.out.symm
    clear BK4 BK5 HB HV1 HV2
    have hs := HE.out.drew.cells
    go_region_held3 (fun w' => w'.cell? ⟨g4, 0, none⟩ = some (.bool n1) ∧ w'.cell? ⟨g4, 1, none⟩ = some (.slice A1 k1 c1) ∧ w'.cell? ⟨g5, 0, none⟩ = some (.bool n2) ∧ w'.cell? ⟨g5, 1, none⟩ = some (.slice A2 k2 c2) ∧ w'.frozen? ⟨g4, 0, none⟩ = false ∧ w'.frozen? ⟨g4, 1, none⟩ = false ∧ w'.frozen? ⟨g5, 0, none⟩ = false ∧ w'.frozen? ⟨g5, 1, none⟩ = false ∧ Hid (EndI w n1 n2 A1 A2 k1 k2 c1 c2 z1 z2 g4 g5 w')) (first | with_reducible exact HE.out.drew.cells | with_reducible exact HE.out.cells | with_reducible exact (EndI.st4 HE.out hn2 HG4.out).cells | with_reducible exact (EndI.st5 (EndI.st4 HE.out hn2 HG4.out) hn1 HG5.out).cells | with_reducible exact (EndI.st5 (EndI.st4 HE.out hn2 HG4.out) hn1 HG5.out).drew.cells | with_reducible exact (EndI.st5 HE.out hn1 HG5.out).cells | with_reducible exact (EndI.st4 HE.out hn2 HG4.out).drew.cells | with_reducible exact (EndI.st5 (EndI.st4 HE.out hn2 HG4.out).drew hn1 HG5.out).cells | with_reducible exact (EndI.st5 (EndI.st4 HE.out hn2 HG4.out).drew hn1 HG5.out).drew.cells | with_reducible exact (EndI.st5 HE.out hn1 HG5.out).drew.cells | with_reducible exact (EndI.st4 HE.out.drew hn2 HG4.out).cells | with_reducible exact (EndI.st5 (EndI.st4 HE.out.drew hn2 HG4.out) hn1 HG5.out).cells | with_reducible exact (EndI.st5 (EndI.st4 HE.out.drew hn2 HG4.out) hn1 HG5.out).drew.cells | with_reducible exact (EndI.st5 HE.out.drew hn1 HG5.out).cells | with_reducible exact (EndI.st4 HE.out.drew hn2 HG4.out).drew.cells | with_reducible exact (EndI.st5 (EndI.st4 HE.out.drew hn2 HG4.out).drew hn1 HG5.out).cells | with_reducible exact (EndI.st5 (EndI.st4 HE.out.drew hn2 HG4.out).drew hn1 HG5.out).drew.cells | with_reducible exact (EndI.st5 HE.out.drew hn1 HG5.out).drew.cells | (have HX := ‹_ ∧ _ ∧ _ ∧ _ ∧ _ ∧ _ ∧ _ ∧ _ ∧ Hid (EndI w n1 n2 A1 A2 k1 k2 c1 c2 z1 z2 g4 g5 _)›; first | with_reducible exact (EndI.st4 HX.2.2.2.2.2.2.2.2.out hn2 HG4.out).cells | with_reducible exact (EndI.st5 HX.2.2.2.2.2.2.2.2.out hn1 HG5.out).cells | with_reducible exact (EndI.st4 HX.2.2.2.2.2.2.2.2.out hn2 HG4.out).drew.cells | with_reducible exact (EndI.st5 HX.2.2.2.2.2.2.2.2.out hn1 HG5.out).drew.cells)) (fail)
    have hE := (EndI.st5 (EndI.st4 HE.out hn2 HG4.out) hn1 HG5.out).drew
    generalize ((((u1.setCell ⟨g4, 0, none⟩ (.bool n1)).setCell ⟨g4, 1, none⟩ (.slice A1 k1 c1)).setCell ⟨g5, 0, none⟩ (.bool n2)).setCell ⟨g5, 1, none⟩ (.slice A2 k2 c2)).drew = w10 at *
    have HE2 := Lib.hid hE
    clear hE
    go_wp2_with fail
    refine bodyPost_ret (results_cells2 rfl _ _ g4 g5 27 #[.bool n1, .slice A1 k1 c1] #[.bool n2, .slice A2 k2 c2] (0, 0) (0, 0) _ rfl rfl HE2.out.1 HE2.out.2.1 Tryz.underlying27 rfl (by kernel_rfl) (by kernel_rfl)) rfl ?_
    refine ⟨_, _, rfl, HE2.out.2.2.2.1.cast ?_, HE2.out.2.2.2.2.cast ?_, HE2.out.2.2.1⟩
    · exact (dvm_A HF.out.1.1 HF.out.1.2.2.2 (HS0.out HF.out)).1
    · exact (dvm_A HF.out.1.1 HF.out.1.2.2.2 (HS0.out HF.out)).2
  · have hs1 : ¬ (cmp z2 0 = 0) := by
      rcases Int.lt_trichotomy z2 0 with h | h | h
      · rw [cmp_lt h]; decide
      · exact absurd h h0
      · rw [cmp_gt h]; decide
    have H0 := Lib.hid h0
    clear h0
    by_cases hnn : (n2 == nb) = true
    · have HS0 : Hid ((x = z1 * y + z2 ∧ nb = decide (y < 0) ∧ y ≠ 0 ∧ z2.natAbs < y.natAbs) ∧ n2 = decide (z2 < 0) → z2 = 0 ∨ (z2 < 0 ↔ y < 0)) := fun h => Or.inr (by
        have e := eq_of_beq hnn
        rw [h.2, h.1.2.1] at e
        simpa using e)
      obtain ⟨c2_0, c2_1, f2_0, f2_1⟩ := BK2.out.all2
      obtain ⟨c3_0, c3_1, f3_0, f3_1⟩ := BK3.out.all2
      obtain ⟨c4_0, c4_1, f4_0, f4_1⟩ := BK4.out.all2
      obtain ⟨c5_0, c5_1, f5_0, f5_1⟩ := BK5.out.all2
      go_wp2_with fail
      refine (p_sign _ z2 _ HV2.out).mono ?_
      rintro e u1 ⟨rfl, hb⟩
      replace HB := Lib.hid (bth HB.out hb)
      clear c2_0 c2_1 f2_0 f2_1
      replace BK2 := Lib.hid (BK2.out.below hb)
      obtain ⟨c2_0, c2_1, f2_0, f2_1⟩ := BK2.out.all2
      clear c3_0 c3_1 f3_0 f3_1
      replace BK3 := Lib.hid (BK3.out.below hb)
      obtain ⟨c3_0, c3_1, f3_0, f3_1⟩ := BK3.out.all2
      clear c4_0 c4_1 f4_0 f4_1
      replace BK4 := Lib.hid (BK4.out.below hb)
      obtain ⟨c4_0, c4_1, f4_0, f4_1⟩ := BK4.out.all2
      clear c5_0 c5_1 f5_0 f5_1
      replace BK5 := Lib.hid (BK5.out.below hb)
      obtain ⟨c5_0, c5_1, f5_0, f5_1⟩ := BK5.out.all2
      replace HC := Lib.hid (HC.out.below hb)
      replace HV1 := Lib.hid (HV1.out.below hb)
      replace HV2 := Lib.hid (HV2.out.below hb)
      clear hb
      generalize cmp z2 0 = sv at *
      go_wp2_with fail
      go_goals
      have HE : Hid (EndI w n1 n2 A1 A2 k1 k2 c1 c2 z1 z2 g4 g5 u1) := ⟨BK4.out, BK5.out, HB.out, HV1.out, HV2.out⟩
      have hn1 := HN4_5.out
      have hn2 := HN4_5.out.symm
      clear BK4 BK5 HB HV1 HV2
      have hs := HE.out.drew.cells
      go_region_held3 (fun w' => w'.cell? ⟨g4, 0, none⟩ = some (.bool n1) ∧ w'.cell? ⟨g4, 1, none⟩ = some (.slice A1 k1 c1) ∧ w'.cell? ⟨g5, 0, none⟩ = some (.bool n2) ∧ w'.cell? ⟨g5, 1, none⟩ = some (.slice A2 k2 c2) ∧ w'.frozen? ⟨g4, 0, none⟩ = false ∧ w'.frozen? ⟨g4, 1, none⟩ = false ∧ w'.frozen? ⟨g5, 0, none⟩ = false ∧ w'.frozen? ⟨g5, 1, none⟩ = false ∧ Hid (EndI w n1 n2 A1 A2 k1 k2 c1 c2 z1 z2 g4 g5 w')) (first | with_reducible exact HE.out.drew.cells | with_reducible exact HE.out.cells | with_reducible exact (EndI.st4 HE.out hn2 HG4.out).cells | with_reducible exact (EndI.st5 (EndI.st4 HE.out hn2 HG4.out) hn1 HG5.out).cells | with_reducible exact (EndI.st5 (EndI.st4 HE.out hn2 HG4.out) hn1 HG5.out).drew.cells | with_reducible exact (EndI.st5 HE.out hn1 HG5.out).cells | with_reducible exact (EndI.st4 HE.out hn2 HG4.out).drew.cells | with_reducible exact (EndI.st5 (EndI.st4 HE.out hn2 HG4.out).drew hn1 HG5.out).cells | with_reducible exact (EndI.st5 (EndI.st4 HE.out hn2 HG4.out).drew hn1 HG5.out).drew.cells | with_reducible exact (EndI.st5 HE.out hn1 HG5.out).drew.cells | with_reducible exact (EndI.st4 HE.out.drew hn2 HG4.out).cells | with_reducible exact (EndI.st5 (EndI.st4 HE.out.drew hn2 HG4.out) hn1 HG5.out).cells | with_reducible exact (EndI.st5 (EndI.st4 HE.out.drew hn2 HG4.out) hn1 HG5.out).drew.cells | with_reducible exact (EndI.st5 HE.out.drew hn1 HG5.out).cells | with_reducible exact (EndI.st4 HE.out.drew hn2 HG4.out).drew.cells | with_reducible exact (EndI.st5 (EndI.st4 HE.out.drew hn2 HG4.out).drew hn1 HG5.out).cells | with_reducible exact (EndI.st5 (EndI.st4 HE.out.drew hn2 HG4.out).drew hn1 HG5.out).drew.cells | with_reducible exact (EndI.st5 HE.out.drew hn1 HG5.out).drew.cells | (have HX := ‹_ ∧ _ ∧ _ ∧ _ ∧ _ ∧ _ ∧ _ ∧ _ ∧ Hid (EndI w n1 n2 A1 A2 k1 k2 c1 c2 z1 z2 g4 g5 _)›; first | with_reducible exact (EndI.st4 HX.2.2.2.2.2.2.2.2.out hn2 HG4.out).cells | with_reducible exact (EndI.st5 HX.2.2.2.2.2.2.2.2.out hn1 HG5.out).cells | with_reducible exact (EndI.st4 HX.2.2.2.2.2.2.2.2.out hn2 HG4.out).drew.cells | with_reducible exact (EndI.st5 HX.2.2.2.2.2.2.2.2.out hn1 HG5.out).drew.cells)) (fail)
      have hE := (EndI.st5 (EndI.st4 HE.out hn2 HG4.out) hn1 HG5.out).drew
      generalize ((((u1.setCell ⟨g4, 0, none⟩ (.bool n1)).setCell ⟨g4, 1, none⟩ (.slice A1 k1 c1)).setCell ⟨g5, 0, none⟩ (.bool n2)).setCell ⟨g5, 1, none⟩ (.slice A2 k2 c2)).drew = w10 at *
      have HE2 := Lib.hid hE
      clear hE
      go_wp2_with fail
      refine bodyPost_ret (results_cells2 rfl _ _ g4 g5 27 #[.bool n1, .slice A1 k1 c1] #[.bool n2, .slice A2 k2 c2] (0, 0) (0, 0) _ rfl rfl HE2.out.1 HE2.out.2.1 Tryz.underlying27 rfl (by kernel_rfl) (by kernel_rfl)) rfl ?_
      refine ⟨_, _, rfl, HE2.out.2.2.2.1.cast ?_, HE2.out.2.2.2.2.cast ?_, HE2.out.2.2.1⟩
      · exact (dvm_A HF.out.1.1 HF.out.1.2.2.2 (HS0.out HF.out)).1
      · exact (dvm_A HF.out.1.1 HF.out.1.2.2.2 (HS0.out HF.out)).2
    · have hnn' : (n2 == nb) = false := by simpa using hnn
      have HVB : Hid (RI w9 (.agg #[.bool nb, .slice Ab b.length cb]) y) := (RI.mk HC.out FC.out.1 FC.out.2.1 FC.out.2.2).cast HZ.out.2.symm
      obtain ⟨c2_0, c2_1, f2_0, f2_1⟩ := BK2.out.all2
      obtain ⟨c3_0, c3_1, f3_0, f3_1⟩ := BK3.out.all2
      obtain ⟨c4_0, c4_1, f4_0, f4_1⟩ := BK4.out.all2
      obtain ⟨c5_0, c5_1, f5_0, f5_1⟩ := BK5.out.all2
      go_wp2_with fail
      refine (p_sign _ z2 _ HV2.out).mono ?_
      rintro e u1 ⟨rfl, hb⟩
      replace HB := Lib.hid (bth HB.out hb)
      clear c2_0 c2_1 f2_0 f2_1
      replace BK2 := Lib.hid (BK2.out.below hb)
      obtain ⟨c2_0, c2_1, f2_0, f2_1⟩ := BK2.out.all2
      clear c3_0 c3_1 f3_0 f3_1
      replace BK3 := Lib.hid (BK3.out.below hb)
      obtain ⟨c3_0, c3_1, f3_0, f3_1⟩ := BK3.out.all2
      clear c4_0 c4_1 f4_0 f4_1
      replace BK4 := Lib.hid (BK4.out.below hb)
      obtain ⟨c4_0, c4_1, f4_0, f4_1⟩ := BK4.out.all2
      clear c5_0 c5_1 f5_0 f5_1
      replace BK5 := Lib.hid (BK5.out.below hb)
      obtain ⟨c5_0, c5_1, f5_0, f5_1⟩ := BK5.out.all2
      replace HVB := Lib.hid (HVB.out.below hb)
      replace HV1 := Lib.hid (HV1.out.below hb)
      replace HV2 := Lib.hid (HV2.out.below hb)
      clear hb
      have HSC : Hid ((x = z1 * y + z2 ∧ nb = decide (y < 0) ∧ y ≠ 0 ∧ z2.natAbs < y.natAbs) ∧ n2 = decide (z2 < 0) → ¬(z2 < 0 ↔ y < 0)) := fun h e => by
        have e2 := h.2
        rw [show decide (z2 < 0) = decide (y < 0) by simp [e], ← h.1.2.1] at e2
        rw [e2] at hnn
        simp at hnn
      have HTX : Hid (Td (n + 1) x ∧ Td (n + 1) y ∧ Td (n + 1) 1) := ⟨Td_mono HT.out.1 (Nat.le_succ n), Td_mono HT.out.2.1 (Nat.le_succ n), Td_one n⟩
      generalize cmp z2 0 = sv at *
      clear HC
      go_wp2_with fail
      generalize b.length = kb at *
      have hb := below_drew (Below.refl u1.heap.size u1)
      replace HB := Lib.hid (bth HB.out hb)
      replace BK2 := Lib.hid (BK2.out.below hb)
      replace BK3 := Lib.hid (BK3.out.below hb)
      replace BK4 := Lib.hid (BK4.out.below hb)
      replace BK5 := Lib.hid (BK5.out.below hb)
      replace HVB := Lib.hid (HVB.out.below hb)
      replace HV1 := Lib.hid (HV1.out.below hb)
      replace HV2 := Lib.hid (HV2.out.below hb)
      clear hb
      clear c2_0 c2_1 f2_0 f2_1
      clear c3_0 c3_1 f3_0 f3_1
      clear c4_0 c4_1 f4_0 f4_1
      clear c5_0 c5_1 f5_0 f5_1
      refine wpL_start 6 (fun w' => w'.cell? ⟨g4, 0, none⟩ = some (.bool n1) ∧ w'.cell? ⟨g4, 1, none⟩ = some (.slice A1 k1 c1)) 7 (fun w' => w'.cell? ⟨g3, 0, none⟩ = some (.bool nb) ∧ w'.cell? ⟨g3, 1, none⟩ = some (.slice Ab kb cb) ∧ w'.cell? ⟨g5, 0, none⟩ = some (.bool n2) ∧ w'.cell? ⟨g5, 1, none⟩ = some (.slice A2 k2 c2)) (by kernel_rfl) (⟨BK4.out.cell 0, BK4.out.cell 1⟩) (⟨BK3.out.cell 0, BK3.out.cell 1, BK5.out.cell 0, BK5.out.cell 1⟩) (fun hS => ?_)
      refine wpL_take1 (i := 0) (v := .agg #[.bool n1, .slice A1 k1 c1]) rfl (by kernel_rfl) (fun _ _ _ h => h) hS (Or.inl ⟨by rfl, fun w hSw => ?_⟩) (fun hS' => ?_)
      · clear hS
        (try dsimp only at hSw)
        first | (go_simp; done) | (go_simp; with_reducible rfl)
      clear hS
      have hS := hS'
      clear hS'
      (try simp only [Act.put, List.setIfInBounds_toArray, List.set_cons_zero, List.set_cons_succ])
      refine wpL_take2 (i := 3) (v := .agg #[.bool n2, .slice A2 k2 c2]) rfl (by kernel_rfl) (fun _ _ _ h => h) hS (Or.inl ⟨by rfl, fun w hSw => ?_⟩) (fun hS' => ?_)
      · clear hS
        (try dsimp only at hSw)
        first | (go_simp; done) | (go_simp; with_reducible rfl)
      clear hS
      have hS := hS'
      clear hS'
      (try simp only [Act.put, List.setIfInBounds_toArray, List.set_cons_zero, List.set_cons_succ])
      refine wpL_take2 (i := 4) (v := .agg #[.bool nb, .slice Ab kb cb]) rfl (by kernel_rfl) (fun _ _ _ h => h) hS (Or.inl ⟨by rfl, fun w hSw => ?_⟩) (fun hS' => ?_)
      · clear hS
        (try dsimp only at hSw)
        first | (go_simp; done) | (go_simp; with_reducible rfl)
      clear hS
      have hS := hS'
      clear hS'
      (try simp only [Act.put, List.setIfInBounds_toArray, List.set_cons_zero, List.set_cons_succ])
      refine wpL_one (i := 1) (by kernel_rfl) rfl (by rfl) (fun K hK => ?_)
      clear hS
      go_simp
      refine (p_from 1 _ (by decide) (by decide)).mono ?_
      rintro e u ⟨v1, rfl, hv1, hb⟩
      replace HB := Lib.hid (bth HB.out hb)
      replace BK2 := Lib.hid (BK2.out.below hb)
      replace BK3 := Lib.hid (BK3.out.below hb)
      replace BK4 := Lib.hid (BK4.out.below hb)
      replace BK5 := Lib.hid (BK5.out.below hb)
      replace HVB := Lib.hid (HVB.out.below hb)
      replace HV1 := Lib.hid (HV1.out.below hb)
      replace HV2 := Lib.hid (HV2.out.below hb)
      clear hb
      have HW1 := Lib.hid hv1
      obtain ⟨m1, B1, j1, d1, rfl⟩ := hv1.shape
      clear hv1
      refine hK.out _ _ ⟨Or.inr (⟨BK4.out.cell 0, BK4.out.cell 1⟩), Or.inr (⟨BK3.out.cell 0, BK3.out.cell 1, BK5.out.cell 0, BK5.out.cell 1⟩)⟩ (fun hS => ?_)
      clear hK K
      (try simp only [Act.put, List.setIfInBounds_toArray, List.set_cons_zero, List.set_cons_succ])
      refine wpL_one (i := 2) (by kernel_rfl) rfl (by rfl) (fun K hK => ?_)
      clear hS
      go_simp
      refine (p_sub _ _ z1 1 _ HV1.out HW1.out (n := n + 1) (Td_of_le HTX.out.1 HZQ.out) HTX.out.2.2 (by omega)).mono ?_
      rintro e u ⟨v2, rfl, hv2, hb⟩
      replace HB := Lib.hid (bth HB.out hb)
      replace BK2 := Lib.hid (BK2.out.below hb)
      replace BK3 := Lib.hid (BK3.out.below hb)
      replace BK4 := Lib.hid (BK4.out.below hb)
      replace BK5 := Lib.hid (BK5.out.below hb)
      replace HVB := Lib.hid (HVB.out.below hb)
      replace HV1 := Lib.hid (HV1.out.below hb)
      replace HV2 := Lib.hid (HV2.out.below hb)
      clear hb
      clear HW1
      have HW2 := Lib.hid hv2
      obtain ⟨m2, B2, j2, d2, rfl⟩ := hv2.shape
      clear hv2
      refine hK.out _ _ ⟨Or.inr (⟨BK4.out.cell 0, BK4.out.cell 1⟩), Or.inr (⟨BK3.out.cell 0, BK3.out.cell 1, BK5.out.cell 0, BK5.out.cell 1⟩)⟩ (fun hS => ?_)
      clear hK K
      (try simp only [Act.put, List.setIfInBounds_toArray, List.set_cons_zero, List.set_cons_succ])
      refine wpL_one (i := 5) (by kernel_rfl) rfl (by rfl) (fun K hK => ?_)
      clear hS
      go_simp
      refine (p_add _ _ z2 y _ HV2.out HVB.out (n := n + 1) (Td_of_le HTX.out.2.1 (Nat.le_of_lt HF.out.1.2.2.2)) HTX.out.2.1 (by omega)).mono ?_
      rintro e u ⟨v3, rfl, hv3, hb⟩
      replace HB := Lib.hid (bth HB.out hb)
      replace BK2 := Lib.hid (BK2.out.below hb)
      replace BK3 := Lib.hid (BK3.out.below hb)
      replace BK4 := Lib.hid (BK4.out.below hb)
      replace BK5 := Lib.hid (BK5.out.below hb)
      replace HVB := Lib.hid (HVB.out.below hb)
      replace HV1 := Lib.hid (HV1.out.below hb)
      replace HV2 := Lib.hid (HV2.out.below hb)
      have K' := Lib.hid (HW2.out.below hb); clear HW2; have HW2 := K'; clear K'
      clear hb
      have HW3 := Lib.hid hv3
      obtain ⟨m3, B3, j3, d3, rfl⟩ := hv3.shape
      clear hv3
      refine hK.out _ _ ⟨Or.inr (⟨BK4.out.cell 0, BK4.out.cell 1⟩), Or.inr (⟨BK3.out.cell 0, BK3.out.cell 1, BK5.out.cell 0, BK5.out.cell 1⟩)⟩ (fun hS => ?_)
      clear hK K
      (try simp only [Act.put, List.setIfInBounds_toArray, List.set_cons_zero, List.set_cons_succ])
      have cr4_0 := BK4.out.cell 0
      have cr4_1 := BK4.out.cell 1
      have fr4_0 := BK4.out.frozen 0
      have fr4_1 := BK4.out.frozen 1
      have cr5_0 := BK5.out.cell 0
      have cr5_1 := BK5.out.cell 1
      have fr5_0 := BK5.out.frozen 0
      have fr5_1 := BK5.out.frozen 1
      have hn1 := HN4_5.out
      have hn2 := HN4_5.out.symm
      have hn3 := HN3_4.out
      have hn4 := HN3_4.out.symm
      have cr3_0 := BK3.out.cell 0
      have cr3_1 := BK3.out.cell 1
      refine wpL_one (i := 6) (by kernel_rfl) rfl (by rfl) (fun K hK => ?_)
      clear hS
      go_simp
      refine hK.out _ _ ⟨Or.inl (by kernel_rfl), Or.inr (by refine ⟨?_, ?_, ?_, ?_⟩ <;> go_simp)⟩ (fun hS => ?_)
      clear hK K
      (try simp only [Act.put, List.setIfInBounds_toArray, List.set_cons_zero, List.set_cons_succ])
      refine wpL_one (i := 7) (by kernel_rfl) rfl (by rfl) (fun K hK => ?_)
      clear hS
      go_simp
      refine hK.out _ _ ⟨Or.inl (by kernel_rfl), Or.inl (by kernel_rfl)⟩ (fun hS => ?_)
      clear hK K
      (try simp only [Act.put, List.setIfInBounds_toArray, List.set_cons_zero, List.set_cons_succ])
      refine wpL_done (by kernel_rfl) ?_ _
      clear hS
      have hB4 : Bx ((((u.setCell ⟨g4, 0, none⟩ (.bool m2)).setCell ⟨g4, 1, none⟩ (.slice B2 j2 d2)).setCell ⟨g5, 0, none⟩ (.bool m3)).setCell ⟨g5, 1, none⟩ (.slice B3 j3 d3)) g4 27 #[.bool m2, .slice B2 j2 d2] := (((BK4.out.set_ 0 (.bool m2)).set_ 1 (.slice B2 j2 d2)).far (p := ⟨g5, 0, none⟩) hn1 _).far (p := ⟨g5, 1, none⟩) hn1 _
      have hB5 : Bx ((((u.setCell ⟨g4, 0, none⟩ (.bool m2)).setCell ⟨g4, 1, none⟩ (.slice B2 j2 d2)).setCell ⟨g5, 0, none⟩ (.bool m3)).setCell ⟨g5, 1, none⟩ (.slice B3 j3 d3)) g5 27 #[.bool m3, .slice B3 j3 d3] := (((BK5.out.far (p := ⟨g4, 0, none⟩) hn2 _).far (p := ⟨g4, 1, none⟩) hn2 _).set_ 0 (.bool m3)).set_ 1 (.slice B3 j3 d3)
      have hBl := (((HB.out.setCell (p := ⟨g4, 0, none⟩) HG4.out (.bool m2)).setCell (p := ⟨g4, 1, none⟩) HG4.out (.slice B2 j2 d2)).setCell (p := ⟨g5, 0, none⟩) HG5.out (.bool m3)).setCell (p := ⟨g5, 1, none⟩) HG5.out (.slice B3 j3 d3)
      have kp := ((((Kp.refl u).box BK4.out (by decide) 0 (.bool m2)).box (BK4.out.set_ 0 _) (by decide) 1 (.slice B2 j2 d2)).box ((BK5.out.far (p := ⟨g4, 0, none⟩) hn2 _).far (p := ⟨g4, 1, none⟩) hn2 _) (by decide) 0 (.bool m3)).box (((BK5.out.far (p := ⟨g4, 0, none⟩) hn2 _).far (p := ⟨g4, 1, none⟩) hn2 _).set_ 0 _) (by decide) 1 (.slice B3 j3 d3)
      have HE : Hid (EndI w m2 m3 B2 B3 j2 j3 d2 d3 (z1 - 1) (z2 + y) g4 g5 ((((u.setCell ⟨g4, 0, none⟩ (.bool m2)).setCell ⟨g4, 1, none⟩ (.slice B2 j2 d2)).setCell ⟨g5, 0, none⟩ (.bool m3)).setCell ⟨g5, 1, none⟩ (.slice B3 j3 d3))) := ⟨hB4, hB5, hBl, HW2.out.kp kp, HW3.out.kp kp⟩
      clear kp HW2 HW3 BK2 BK3 BK4 BK5 HB HVB HV1 HV2 hB4 hB5 hBl
      clear cr3_0 cr3_1 hn3 hn4 cr4_0 cr4_1 cr5_0 cr5_1 fr4_0 fr4_1 fr5_0 fr5_1
      generalize ((((u.setCell ⟨g4, 0, none⟩ (.bool m2)).setCell ⟨g4, 1, none⟩ (.slice B2 j2 d2)).setCell ⟨g5, 0, none⟩ (.bool m3)).setCell ⟨g5, 1, none⟩ (.slice B3 j3 d3)) = u1 at *
      have c4_0 := HE.out.cells.1
      have c4_1 := HE.out.cells.2.1
      have c5_0 := HE.out.cells.2.2.1
      have c5_1 := HE.out.cells.2.2.2.1
      have f4_0 := HE.out.cells.2.2.2.2.1
      have f4_1 := HE.out.cells.2.2.2.2.2.1
      have f5_0 := HE.out.cells.2.2.2.2.2.2.1
      have f5_1 := HE.out.cells.2.2.2.2.2.2.2.1
      go_wp2_with fail
      have hs := HE.out.drew.cells
      go_region_held3 (fun w' => w'.cell? ⟨g4, 0, none⟩ = some (.bool m2) ∧ w'.cell? ⟨g4, 1, none⟩ = some (.slice B2 j2 d2) ∧ w'.cell? ⟨g5, 0, none⟩ = some (.bool m3) ∧ w'.cell? ⟨g5, 1, none⟩ = some (.slice B3 j3 d3) ∧ w'.frozen? ⟨g4, 0, none⟩ = false ∧ w'.frozen? ⟨g4, 1, none⟩ = false ∧ w'.frozen? ⟨g5, 0, none⟩ = false ∧ w'.frozen? ⟨g5, 1, none⟩ = false ∧ Hid (EndI w m2 m3 B2 B3 j2 j3 d2 d3 (z1 - 1) (z2 + y) g4 g5 w')) (first | with_reducible exact HE.out.drew.cells | with_reducible exact HE.out.cells | with_reducible exact (EndI.st4 HE.out hn2 HG4.out).cells | with_reducible exact (EndI.st5 (EndI.st4 HE.out hn2 HG4.out) hn1 HG5.out).cells | with_reducible exact (EndI.st5 (EndI.st4 HE.out hn2 HG4.out) hn1 HG5.out).drew.cells | with_reducible exact (EndI.st5 HE.out hn1 HG5.out).cells | with_reducible exact (EndI.st4 HE.out hn2 HG4.out).drew.cells | with_reducible exact (EndI.st5 (EndI.st4 HE.out hn2 HG4.out).drew hn1 HG5.out).cells | with_reducible exact (EndI.st5 (EndI.st4 HE.out hn2 HG4.out).drew hn1 HG5.out).drew.cells | with_reducible exact (EndI.st5 HE.out hn1 HG5.out).drew.cells | with_reducible exact (EndI.st4 HE.out.drew hn2 HG4.out).cells | with_reducible exact (EndI.st5 (EndI.st4 HE.out.drew hn2 HG4.out) hn1 HG5.out).cells | with_reducible exact (EndI.st5 (EndI.st4 HE.out.drew hn2 HG4.out) hn1 HG5.out).drew.cells | with_reducible exact (EndI.st5 HE.out.drew hn1 HG5.out).cells | with_reducible exact (EndI.st4 HE.out.drew hn2 HG4.out).drew.cells | with_reducible exact (EndI.st5 (EndI.st4 HE.out.drew hn2 HG4.out).drew hn1 HG5.out).cells | with_reducible exact (EndI.st5 (EndI.st4 HE.out.drew hn2 HG4.out).drew hn1 HG5.out).drew.cells | with_reducible exact (EndI.st5 HE.out.drew hn1 HG5.out).drew.cells | (have HX := ‹_ ∧ _ ∧ _ ∧ _ ∧ _ ∧ _ ∧ _ ∧ _ ∧ Hid (EndI w m2 m3 B2 B3 j2 j3 d2 d3 (z1 - 1) (z2 + y) g4 g5 _)›; first | with_reducible exact (EndI.st4 HX.2.2.2.2.2.2.2.2.out hn2 HG4.out).cells | with_reducible exact (EndI.st5 HX.2.2.2.2.2.2.2.2.out hn1 HG5.out).cells | with_reducible exact (EndI.st4 HX.2.2.2.2.2.2.2.2.out hn2 HG4.out).drew.cells | with_reducible exact (EndI.st5 HX.2.2.2.2.2.2.2.2.out hn1 HG5.out).drew.cells)) (fail)
      have hE := (EndI.st5 (EndI.st4 HE.out hn2 HG4.out) hn1 HG5.out).drew
      generalize ((((u1.setCell ⟨g4, 0, none⟩ (.bool m2)).setCell ⟨g4, 1, none⟩ (.slice B2 j2 d2)).setCell ⟨g5, 0, none⟩ (.bool m3)).setCell ⟨g5, 1, none⟩ (.slice B3 j3 d3)).drew = w10 at *
      have HE2 := Lib.hid hE
      clear hE
      go_wp2_with fail
      refine bodyPost_ret (results_cells2 rfl _ _ g4 g5 27 #[.bool m2, .slice B2 j2 d2] #[.bool m3, .slice B3 j3 d3] (0, 0) (0, 0) _ rfl rfl HE2.out.1 HE2.out.2.1 Tryz.underlying27 rfl (by kernel_rfl) (by kernel_rfl)) rfl ?_
      refine ⟨_, _, rfl, HE2.out.2.2.2.1.cast ?_, HE2.out.2.2.2.2.cast ?_, HE2.out.2.2.1⟩
      · exact (dvm_C HF.out.1.1 HF.out.1.2.2.2 H0.out (HSC.out HF.out)).1
      · exact (dvm_C HF.out.1.1 HF.out.1.2.2.2 H0.out (HSC.out HF.out)).2
end Go.Proofs.YtapckjeedekphaaGreatDoor

namespace Go.Proofs.YtapckjeedekphaaGreatDoor
open Go.RowKit Go.Proofs.YtapckjeedekphaaGreatDoorW.PrintWords PR
/-! ### rationals in memory -/
/-- What a denominator may hold: 0 counts as 1. -/
def DenIs (q : Rat) (z : Int) : Prop := z = (q.den : Int) ∨ (z = 0 ∧ q.den = 1)
/-- The value is the rational q. -/
def RR (w : World) (v : Value) (q : Rat) : Prop := ∃ (n1 : Bool) (A1 : Option Addr) (k1 c1 : Nat) (n2 : Bool) (A2 : Option Addr) (k2 c2 : Nat) (z : Int), v = .agg #[.bool n1, .slice A1 k1 c1, .bool n2, .slice A2 k2 c2] ∧ RI w (.agg #[.bool n1, .slice A1 k1 c1]) q.num ∧ RI w (.agg #[.bool n2, .slice A2 k2 c2]) z ∧ DenIs q z
theorem RR.kp {w w' : World} {v : Value} {q : Rat} (h : RR w v q) (hk : Kp w w') : RR w' v q := by
  obtain ⟨n1, A1, k1, c1, n2, A2, k2, c2, z, e, h1, h2, h3⟩ := h
  exact ⟨n1, A1, k1, c1, n2, A2, k2, c2, z, e, h1.kp hk, h2.kp hk, h3⟩
theorem RR.below {w w' : World} {v : Value} {q : Rat} (h : RR w v q) (hb : Below w.heap.size w w') : RR w' v q := h.kp (.below hb)
theorem RR.cast {w : World} {v : Value} {q r : Rat} (h : RR w v q) (e : q = r) : RR w v r := e ▸ h
theorem RR.shape {w : World} {v : Value} {q : Rat} (h : RR w v q) : ∃ (n1 : Bool) (A1 : Option Addr) (k1 c1 : Nat) (n2 : Bool) (A2 : Option Addr) (k2 c2 : Nat), v = .agg #[.bool n1, .slice A1 k1 c1, .bool n2, .slice A2 k2 c2] := by
  obtain ⟨n1, A1, k1, c1, n2, A2, k2, c2, z, e, _⟩ := h
  exact ⟨n1, A1, k1, c1, n2, A2, k2, c2, e⟩
def RetR (w : World) (q : Rat) (e : Ending) (w' : World) : Prop := ∃ v, e = .returned v ∧ RR w' v q ∧ Below w.heap.size w w'
def RetRE (w : World) (q : Rat) (er : Int) (e : Ending) (w' : World) : Prop := ∃ v, e = .returned (.tuple #[v, .int .i64 er]) ∧ RR w' v q ∧ Below w.heap.size w w'
theorem RR.zero (w : World) : RR w (.agg #[.bool false, .slice none 0 0, .bool false, .slice none 0 0]) 0 := ⟨false, none, 0, 0, false, none, 0, 0, 0, rfl, RI.zero w, RI.zero w, .inr ⟨rfl, rfl⟩⟩
theorem DenIs.td {q : Rat} {z : Int} {n : Nat} (h : DenIs q z) (hq : TQ n q) : Td n z := by
  rcases h with rfl | ⟨rfl, _⟩
  · exact hq.2
  · have := hq.2; unfold Td at *; omega
theorem DenIs.one {q : Rat} {z : Int} (h : DenIs q z) (h0 : z ≠ 0) : (cmp z 1 == 0) = decide (q.den = 1) := by
  rcases h with rfl | ⟨rfl, _⟩
  · rcases Nat.lt_trichotomy q.den 1 with h | h | h
    · exact absurd q.den_nz (by omega)
    · rw [h]; rfl
    · rw [cmp_gt (by omega), decide_eq_false (by omega)]; rfl
  · exact absurd rfl h0
theorem DenIs.zero {q : Rat} {z : Int} (h : DenIs q z) (h0 : z = 0) : q.den = 1 := by
  rcases h with h | ⟨_, h⟩
  · exact absurd q.den_nz (by omega)
  · exact h
theorem DenIs.ne {q : Rat} {z : Int} (h : DenIs q z) (h0 : z ≠ 0) : z = (q.den : Int) := by
  rcases h with h | ⟨h, _⟩
  · exact h
  · exact absurd h h0
theorem cmp_zero (z : Int) : (cmp z 0 == 0) = decide (z = 0) := by
  rcases Int.lt_trichotomy z 0 with h | h | h
  · rw [cmp_lt h, decide_eq_false (by omega)]; rfl
  · rw [h]; rfl
  · rw [cmp_gt h, decide_eq_false (by omega)]; rfl
set_option maxHeartbeats 400000 in
theorem p_one (w : World) : Calls Tryz.prog 136 #[] w (RetI w 1) := by
  have HB := Lib.hid (Below.refl w.heap.size w)
  go_enter Tryz.func136, Tryz.ntmps136
  go_wp2_with (first | ((with_reducible refine gate_dst (N := 0) rfl ?_); refine bx_event rfl (cs := #[.bool false, .slice none 0 0]) (t := 27) ?hr ?_; (case hr => first | (go_simp; done) | (go_simp; rfl)); intro g0 w0 hg bk hb; have HG0 := Lib.hid (Nat.le_trans HB.out.size hg); replace HB := Lib.hid (bth HB.out hb); have BK0 := Lib.hid bk; obtain ⟨c0_0, c0_1, f0_0, f0_1⟩ := BK0.out.all2; clear hb hg bk))
  refine (p_from 1 _ (by decide) (by decide)).mono ?_
  rintro e u1 ⟨v2, rfl, hv2, hb⟩
  replace HB := Lib.hid (bth HB.out hb)
  clear c0_0 c0_1 f0_0 f0_1
  replace BK0 := Lib.hid (BK0.out.below hb)
  obtain ⟨c0_0, c0_1, f0_0, f0_1⟩ := BK0.out.all2
  clear hb
  have HV2 := Lib.hid hv2
  obtain ⟨nr, Ar, kr, cr, rfl⟩ := hv2.shape
  clear hv2
  go_wp2_with fail
  refine bodyPost_ret (results_cell_row rfl _ _ g0 27 #[.bool _, .slice Ar kr cr] (0, 0) _ rfl ((BK0.out.set_ 0 _).set_ 1 _) Tryz.underlying27 rfl (by kernel_rfl)) rfl ?_
  exact ⟨_, rfl, (HV2.out.kp (((Kp.refl _).box BK0.out (by decide) 0 _).box (BK0.out.set_ 0 _) (by decide) 1 _)), (HB.out.setCell HG0.out _).setCell HG0.out _⟩
def WhoI (w : World) (na1 : Bool) (Aa1 : Option Addr) (ka1 : Nat) (ca1 : Nat) (na2 : Bool) (Aa2 : Option Addr) (ka2 : Nat) (ca2 : Nat) (z : Int) (g1 : Nat) (w' : World) : Prop := Bx w' g1 31 #[.bool na1, .slice Aa1 ka1 ca1, .bool na2, .slice Aa2 ka2 ca2] ∧ Below w.heap.size w w' ∧ RI w' (.agg #[.bool na2, .slice Aa2 ka2 ca2]) z
theorem WhoI.cells {w : World} {na1 : Bool} {Aa1 : Option Addr} {ka1 : Nat} {ca1 : Nat} {na2 : Bool} {Aa2 : Option Addr} {ka2 : Nat} {ca2 : Nat} {z : Int} {g1 : Nat} {W : World} (h : WhoI w na1 Aa1 ka1 ca1 na2 Aa2 ka2 ca2 z g1 W) : W.cell? ⟨g1, 0, none⟩ = some (.bool na1) ∧ W.cell? ⟨g1, 1, none⟩ = some (.slice Aa1 ka1 ca1) ∧ W.cell? ⟨g1, 2, none⟩ = some (.bool na2) ∧ W.cell? ⟨g1, 3, none⟩ = some (.slice Aa2 ka2 ca2) ∧ Hid (WhoI w na1 Aa1 ka1 ca1 na2 Aa2 ka2 ca2 z g1 W) := by
  have h' := h
  obtain ⟨h1, _⟩ := h
  exact ⟨h1.cell 0, h1.cell 1, h1.cell 2, h1.cell 3, h'⟩
theorem WhoI.below {w : World} {na1 : Bool} {Aa1 : Option Addr} {ka1 : Nat} {ca1 : Nat} {na2 : Bool} {Aa2 : Option Addr} {ka2 : Nat} {ca2 : Nat} {z : Int} {g1 : Nat} {W W1 : World} (h : WhoI w na1 Aa1 ka1 ca1 na2 Aa2 ka2 ca2 z g1 W) (hb : Below W.heap.size W W1) : WhoI w na1 Aa1 ka1 ca1 na2 Aa2 ka2 ca2 z g1 W1 := by
  obtain ⟨h1, hB, k0⟩ := h
  exact ⟨h1.below hb, bth hB hb, k0.below hb⟩
theorem RetI.shape_ {u : World} {v : Value} {z : Int} (h : RI u v z) : ∃ n A k c, v = .agg #[.bool n, .slice A k c] ∧ Hid (RI u (.agg #[.bool n, .slice A k c]) z) := by
  obtain ⟨n, A, k, c, rfl⟩ := h.shape
  exact ⟨n, A, k, c, rfl, h⟩
set_option maxHeartbeats 800000 in
theorem p_whole (v : Value) (q : Rat) (w : World) (hv : RR w v q) {n : Nat} (hq : TQ n q) (hn : n ≤ 1000000) (hn1 : 1 ≤ n) : Calls Tryz.prog 140 #[v] w fun e w' => e = .returned (.bool (decide (q.den = 1))) ∧ Below w.heap.size w w' := by
  obtain ⟨na1, Aa1, ka1, ca1, na2, Aa2, ka2, ca2, za, rfl, hna, hza, hda⟩ := hv
  have HNa := Lib.hid hna
  have HZa := Lib.hid hza
  have HDa := Lib.hid hda
  clear hna hza hda
  have HQ1 := Lib.hid (And.intro (HDa.out.td hq) (And.intro hn (Td_mono (Td_one 0) hn1)))
  clear hq hn hn1
  by_cases h0 : za = 0
  · have e1 : (cmp za 0 == 0) = true := by rw [h0]; rfl
    have e2 : decide (q.den = 1) = true := decide_eq_true (HDa.out.zero h0)
    have H0 := Lib.hid e2
    clear h0 e2
    have HB := Lib.hid (Below.refl w.heap.size w)
    go_enter Tryz.func140, Tryz.ntmps140
    go_wp2_with (first | ((with_reducible refine gate_dst (N := 1) rfl ?_); refine bx_event rfl (cs := #[.bool na1, .slice Aa1 ka1 ca1, .bool na2, .slice Aa2 ka2 ca2]) (t := 31) ?hr ?_; (case hr => first | (go_simp; done) | (go_simp; rfl)); intro g1 w1 hg bk hb; have HG1 := Lib.hid (Nat.le_trans HB.out.size hg); replace HB := Lib.hid (bth HB.out hb); replace HZa := Lib.hid (HZa.out.below hb); have BK1 := Lib.hid bk; obtain ⟨c1_0, c1_1, c1_2, c1_3, f1_0, f1_1, f1_2, f1_3⟩ := BK1.out.all4; clear hb hg bk))
    have hb := below_drew (Below.refl w1.heap.size w1)
    replace HB := Lib.hid (bth HB.out hb)
    replace BK1 := Lib.hid (BK1.out.below hb)
    replace HZa := Lib.hid (HZa.out.below hb)
    clear hb
    first
    | (go_region_with (first | (go_at_call 124; refine (p_sign _ za _ HZa.out).mono ?_; rintro e u ⟨rfl, hb⟩; replace HB := Lib.hid (bth HB.out hb); clear c1_0 c1_1 c1_2 c1_3 f1_0 f1_1 f1_2 f1_3; replace BK1 := Lib.hid (BK1.out.below hb); obtain ⟨c1_0, c1_1, c1_2, c1_3, f1_0, f1_1, f1_2, f1_3⟩ := BK1.out.all4; replace HZa := Lib.hid (HZa.out.below hb); clear hb)))
    | fail
    all_goals
      go_wp2_with fail
      go_ret
      exact ⟨by rw [H0.out]; rfl, HB.out⟩
  · have e1 : (cmp za 0 == 0) = false := by rw [cmp_zero]; exact decide_eq_false h0
    have H0 := Lib.hid (HDa.out.one h0)
    clear h0
    have HB := Lib.hid (Below.refl w.heap.size w)
    go_enter Tryz.func140, Tryz.ntmps140
    go_wp2_with (first | ((with_reducible refine gate_dst (N := 1) rfl ?_); refine bx_event rfl (cs := #[.bool na1, .slice Aa1 ka1 ca1, .bool na2, .slice Aa2 ka2 ca2]) (t := 31) ?hr ?_; (case hr => first | (go_simp; done) | (go_simp; rfl)); intro g1 w1 hg bk hb; have HG1 := Lib.hid (Nat.le_trans HB.out.size hg); replace HB := Lib.hid (bth HB.out hb); replace HZa := Lib.hid (HZa.out.below hb); have BK1 := Lib.hid bk; obtain ⟨c1_0, c1_1, c1_2, c1_3, f1_0, f1_1, f1_2, f1_3⟩ := BK1.out.all4; clear hb hg bk))
    have HI : Hid (WhoI w na1 Aa1 ka1 ca1 na2 Aa2 ka2 ca2 za g1 w1) := ⟨BK1.out, HB.out, HZa.out⟩
    clear c1_0 c1_1 c1_2 c1_3 f1_0 f1_1 f1_2 f1_3 BK1
    clear HB HZa
    first
    | (go_region_held3 (fun w' => w'.cell? ⟨g1, 0, none⟩ = some (.bool na1) ∧ w'.cell? ⟨g1, 1, none⟩ = some (.slice Aa1 ka1 ca1) ∧ w'.cell? ⟨g1, 2, none⟩ = some (.bool na2) ∧ w'.cell? ⟨g1, 3, none⟩ = some (.slice Aa2 ka2 ca2) ∧ Hid (WhoI w na1 Aa1 ka1 ca1 na2 Aa2 ka2 ca2 za g1 w')) (first | exact (HI.out.below (below_drew (Below.refl _ _))).cells | exact (HQ.out.below hb).cells)
        (first | (go_at_call 124; have HQ0 := ‹_ ∧ _ ∧ _ ∧ _ ∧ Hid (WhoI w na1 Aa1 ka1 ca1 na2 Aa2 ka2 ca2 za g1 _)›; have HQ := HQ0.2.2.2.2; clear HQ0; refine (p_sign _ za _ HQ.out.2.2).mono ?_; rintro e u ⟨rfl, hb⟩; skip) | (go_at_call 136; have HQ0 := ‹_ ∧ _ ∧ _ ∧ _ ∧ Hid (WhoI w na1 Aa1 ka1 ca1 na2 Aa2 ka2 ca2 za g1 _)›; have HQ := HQ0.2.2.2.2; clear HQ0; refine (p_one _).mono ?_; rintro e u ⟨v1, rfl, hv1, hb⟩; obtain ⟨m1, B1, j1, d1, rfl, HV1⟩ := RetI.shape_ hv1; clear hv1) | (go_at_call 54; have HQ0 := ‹_ ∧ _ ∧ _ ∧ _ ∧ Hid (WhoI w na1 Aa1 ka1 ca1 na2 Aa2 ka2 ca2 za g1 _)›; have HQ := HQ0.2.2.2.2; clear HQ0; refine (p_cmp _ _ za 1 _ HQ.out.2.2 HV1.out (n := n) HQ1.out.1 HQ1.out.2.2 HQ1.out.2.1).mono ?_; rintro e u ⟨rfl, hb⟩; skip)))
    | fail
    all_goals
      go_wp2_with fail
      go_ret
      exact ⟨by rw [H0.out]; rfl, bth HQ.out.2.1 hb⟩
end Go.Proofs.YtapckjeedekphaaGreatDoor

namespace Go.Proofs.YtapckjeedekphaaGreatDoor
open Go.RowKit Go.Proofs.YtapckjeedekphaaGreatDoorW.PrintWords PR
set_option maxHeartbeats 800000 in
theorem p_den (v : Value) (q : Rat) (w : World) (hv : RR w v q) : Calls Tryz.prog 33 #[v] w (RetI w (q.den : Int)) := by
  obtain ⟨na1, Aa1, ka1, ca1, na2, Aa2, ka2, ca2, za, rfl, hna, hza, hda⟩ := hv
  have HNa := Lib.hid hna
  have HZa := Lib.hid hza
  have HDa := Lib.hid hda
  clear hna hza hda
  by_cases h0 : za = 0
  · have e1 : (cmp za 0 == 0) = true := by rw [h0]; rfl
    have H0 := Lib.hid (HDa.out.zero h0)
    clear h0
    have HB := Lib.hid (Below.refl w.heap.size w)
    go_enter Tryz.func33, Tryz.ntmps33
    go_wp2_with (first | ((with_reducible refine gate_dst (N := 1) rfl ?_); refine bx_event rfl (cs := #[.bool na1, .slice Aa1 ka1 ca1, .bool na2, .slice Aa2 ka2 ca2]) (t := 31) ?hr ?_; (case hr => first | (go_simp; done) | (go_simp; rfl)); intro g1 w1 hg bk hb; have HG1 := Lib.hid (Nat.le_trans HB.out.size hg); replace HB := Lib.hid (bth HB.out hb); replace HZa := Lib.hid (HZa.out.below hb); have BK1 := Lib.hid bk; obtain ⟨c1_0, c1_1, c1_2, c1_3, f1_0, f1_1, f1_2, f1_3⟩ := BK1.out.all4; clear hb hg bk) | ((with_reducible refine gate_dst (N := 2) rfl ?_); refine bx_event rfl (cs := #[.bool false, .slice none 0 0]) (t := 27) ?hr ?_; (case hr => first | (go_simp; done) | (go_simp; rfl)); intro g2 w2 hg bk hb; have HG2 := Lib.hid (Nat.le_trans HB.out.size hg); replace HB := Lib.hid (bth HB.out hb); have HN1_2 := Lib.hid (Nat.ne_of_lt (Nat.lt_of_lt_of_le BK1.out.lt hg)); clear c1_0 c1_1 c1_2 c1_3 f1_0 f1_1 f1_2 f1_3; replace BK1 := Lib.hid (BK1.out.below hb); obtain ⟨c1_0, c1_1, c1_2, c1_3, f1_0, f1_1, f1_2, f1_3⟩ := BK1.out.all4; replace HZa := Lib.hid (HZa.out.below hb); have BK2 := Lib.hid bk; obtain ⟨c2_0, c2_1, f2_0, f2_1⟩ := BK2.out.all2; clear hb hg bk))
    refine (p_sign _ za _ HZa.out).mono ?_
    rintro e u1 ⟨rfl, hb⟩
    replace HB := Lib.hid (bth HB.out hb)
    clear c1_0 c1_1 c1_2 c1_3 f1_0 f1_1 f1_2 f1_3
    replace BK1 := Lib.hid (BK1.out.below hb)
    obtain ⟨c1_0, c1_1, c1_2, c1_3, f1_0, f1_1, f1_2, f1_3⟩ := BK1.out.all4
    clear c2_0 c2_1 f2_0 f2_1
    replace BK2 := Lib.hid (BK2.out.below hb)
    obtain ⟨c2_0, c2_1, f2_0, f2_1⟩ := BK2.out.all2
    replace HZa := Lib.hid (HZa.out.below hb)
    clear hb
    go_wp2_with fail
    refine (p_one _).mono ?_
    rintro e u2 ⟨v2, rfl, hv2, hb⟩
    replace HB := Lib.hid (bth HB.out hb)
    clear c1_0 c1_1 c1_2 c1_3 f1_0 f1_1 f1_2 f1_3
    replace BK1 := Lib.hid (BK1.out.below hb)
    obtain ⟨c1_0, c1_1, c1_2, c1_3, f1_0, f1_1, f1_2, f1_3⟩ := BK1.out.all4
    clear c2_0 c2_1 f2_0 f2_1
    replace BK2 := Lib.hid (BK2.out.below hb)
    obtain ⟨c2_0, c2_1, f2_0, f2_1⟩ := BK2.out.all2
    replace HZa := Lib.hid (HZa.out.below hb)
    clear hb
    have HV2 := Lib.hid hv2
    obtain ⟨nr, Ar, kr, cr, rfl⟩ := hv2.shape
    clear hv2
    go_wp2_with fail
    refine bodyPost_ret (results_cell_row rfl _ _ g2 27 #[.bool _, .slice Ar kr cr] (0, 0) _ rfl ((BK2.out.set_ 0 _).set_ 1 _) Tryz.underlying27 rfl (by kernel_rfl)) rfl ?_
    exact ⟨_, rfl, ((HV2.out.cast (show (1 : Int) = (q.den : Int) by rw [H0.out]; rfl)).kp (((Kp.refl _).box BK2.out (by decide) 0 _).box (BK2.out.set_ 0 _) (by decide) 1 _)), (HB.out.setCell HG2.out _).setCell HG2.out _⟩
  · have e1 : (cmp za 0 == 0) = false := by rw [cmp_zero]; exact decide_eq_false h0
    have H0 := Lib.hid (HDa.out.ne h0)
    clear h0
    have HB := Lib.hid (Below.refl w.heap.size w)
    go_enter Tryz.func33, Tryz.ntmps33
    go_wp2_with (first | ((with_reducible refine gate_dst (N := 1) rfl ?_); refine bx_event rfl (cs := #[.bool na1, .slice Aa1 ka1 ca1, .bool na2, .slice Aa2 ka2 ca2]) (t := 31) ?hr ?_; (case hr => first | (go_simp; done) | (go_simp; rfl)); intro g1 w1 hg bk hb; have HG1 := Lib.hid (Nat.le_trans HB.out.size hg); replace HB := Lib.hid (bth HB.out hb); replace HZa := Lib.hid (HZa.out.below hb); have BK1 := Lib.hid bk; obtain ⟨c1_0, c1_1, c1_2, c1_3, f1_0, f1_1, f1_2, f1_3⟩ := BK1.out.all4; clear hb hg bk) | ((with_reducible refine gate_dst (N := 2) rfl ?_); refine bx_event rfl (cs := #[.bool false, .slice none 0 0]) (t := 27) ?hr ?_; (case hr => first | (go_simp; done) | (go_simp; rfl)); intro g2 w2 hg bk hb; have HG2 := Lib.hid (Nat.le_trans HB.out.size hg); replace HB := Lib.hid (bth HB.out hb); have HN1_2 := Lib.hid (Nat.ne_of_lt (Nat.lt_of_lt_of_le BK1.out.lt hg)); clear c1_0 c1_1 c1_2 c1_3 f1_0 f1_1 f1_2 f1_3; replace BK1 := Lib.hid (BK1.out.below hb); obtain ⟨c1_0, c1_1, c1_2, c1_3, f1_0, f1_1, f1_2, f1_3⟩ := BK1.out.all4; replace HZa := Lib.hid (HZa.out.below hb); have BK2 := Lib.hid bk; obtain ⟨c2_0, c2_1, f2_0, f2_1⟩ := BK2.out.all2; clear hb hg bk))
    refine (p_sign _ za _ HZa.out).mono ?_
    rintro e u1 ⟨rfl, hb⟩
    replace HB := Lib.hid (bth HB.out hb)
    clear c1_0 c1_1 c1_2 c1_3 f1_0 f1_1 f1_2 f1_3
    replace BK1 := Lib.hid (BK1.out.below hb)
    obtain ⟨c1_0, c1_1, c1_2, c1_3, f1_0, f1_1, f1_2, f1_3⟩ := BK1.out.all4
    clear c2_0 c2_1 f2_0 f2_1
    replace BK2 := Lib.hid (BK2.out.below hb)
    obtain ⟨c2_0, c2_1, f2_0, f2_1⟩ := BK2.out.all2
    replace HZa := Lib.hid (HZa.out.below hb)
    clear hb
    go_wp2_with fail
    refine bodyPost_ret (results_cell_row rfl _ _ g2 27 #[.bool _, .slice Aa2 ka2 ca2] (0, 0) _ rfl ((BK2.out.set_ 0 _).set_ 1 _) Tryz.underlying27 rfl (by kernel_rfl)) rfl ?_
    exact ⟨_, rfl, ((HZa.out.cast H0.out).kp (((Kp.refl _).box BK2.out (by decide) 0 _).box (BK2.out.set_ 0 _) (by decide) 1 _)), (HB.out.setCell HG2.out _).setCell HG2.out _⟩
set_option maxHeartbeats 400000 in
theorem p_num (v : Value) (q : Rat) (w : World) (hv : RR w v q) : Calls Tryz.prog 31 #[v] w (RetI w q.num) := by
  obtain ⟨na1, Aa1, ka1, ca1, na2, Aa2, ka2, ca2, za, rfl, hna, hza, hda⟩ := hv
  have HNa := Lib.hid hna
  have HZa := Lib.hid hza
  have HDa := Lib.hid hda
  clear hna hza hda
  have HB := Lib.hid (Below.refl w.heap.size w)
  go_enter Tryz.func31, Tryz.ntmps31
  go_wp2_with (first | ((with_reducible refine gate_dst (N := 1) rfl ?_); refine bx_event rfl (cs := #[.bool na1, .slice Aa1 ka1 ca1, .bool na2, .slice Aa2 ka2 ca2]) (t := 31) ?hr ?_; (case hr => first | (go_simp; done) | (go_simp; rfl)); intro g1 w1 hg bk hb; have HG1 := Lib.hid (Nat.le_trans HB.out.size hg); replace HB := Lib.hid (bth HB.out hb); replace HNa := Lib.hid (HNa.out.below hb); have BK1 := Lib.hid bk; obtain ⟨c1_0, c1_1, c1_2, c1_3, f1_0, f1_1, f1_2, f1_3⟩ := BK1.out.all4; clear hb hg bk) | ((with_reducible refine gate_dst (N := 2) rfl ?_); refine bx_event rfl (cs := #[.bool false, .slice none 0 0]) (t := 27) ?hr ?_; (case hr => first | (go_simp; done) | (go_simp; rfl)); intro g2 w2 hg bk hb; have HG2 := Lib.hid (Nat.le_trans HB.out.size hg); replace HB := Lib.hid (bth HB.out hb); have HN1_2 := Lib.hid (Nat.ne_of_lt (Nat.lt_of_lt_of_le BK1.out.lt hg)); clear c1_0 c1_1 c1_2 c1_3 f1_0 f1_1 f1_2 f1_3; replace BK1 := Lib.hid (BK1.out.below hb); obtain ⟨c1_0, c1_1, c1_2, c1_3, f1_0, f1_1, f1_2, f1_3⟩ := BK1.out.all4; replace HNa := Lib.hid (HNa.out.below hb); have BK2 := Lib.hid bk; obtain ⟨c2_0, c2_1, f2_0, f2_1⟩ := BK2.out.all2; clear hb hg bk))
  refine bodyPost_ret (results_cell_row rfl _ _ g2 27 #[.bool _, .slice Aa1 ka1 ca1] (0, 0) _ rfl ((BK2.out.set_ 0 _).set_ 1 _) Tryz.underlying27 rfl (by kernel_rfl)) rfl ?_
  exact ⟨_, rfl, (HNa.out.kp (((Kp.refl _).box BK2.out (by decide) 0 _).box (BK2.out.set_ 0 _) (by decide) 1 _)), (HB.out.setCell HG2.out _).setCell HG2.out _⟩
def NbrI (w : World) (na1 : Bool) (Aa1 : Option Addr) (ka1 : Nat) (ca1 : Nat) (na2 : Bool) (Aa2 : Option Addr) (ka2 : Nat) (ca2 : Nat) (x : Int) (z : Int) (g1 : Nat) (w' : World) : Prop := Bx w' g1 31 #[.bool na1, .slice Aa1 ka1 ca1, .bool na2, .slice Aa2 ka2 ca2] ∧ Below w.heap.size w w' ∧ RI w' (.agg #[.bool na1, .slice Aa1 ka1 ca1]) x ∧ RI w' (.agg #[.bool na2, .slice Aa2 ka2 ca2]) z ∧ tab10 w'
theorem NbrI.cells {w : World} {na1 : Bool} {Aa1 : Option Addr} {ka1 : Nat} {ca1 : Nat} {na2 : Bool} {Aa2 : Option Addr} {ka2 : Nat} {ca2 : Nat} {x : Int} {z : Int} {g1 : Nat} {W : World} (h : NbrI w na1 Aa1 ka1 ca1 na2 Aa2 ka2 ca2 x z g1 W) : W.cell? ⟨g1, 0, none⟩ = some (.bool na1) ∧ W.cell? ⟨g1, 1, none⟩ = some (.slice Aa1 ka1 ca1) ∧ W.cell? ⟨g1, 2, none⟩ = some (.bool na2) ∧ W.cell? ⟨g1, 3, none⟩ = some (.slice Aa2 ka2 ca2) ∧ Hid (NbrI w na1 Aa1 ka1 ca1 na2 Aa2 ka2 ca2 x z g1 W) := by
  have h' := h
  obtain ⟨h1, _⟩ := h
  exact ⟨h1.cell 0, h1.cell 1, h1.cell 2, h1.cell 3, h'⟩
theorem NbrI.below {w : World} {na1 : Bool} {Aa1 : Option Addr} {ka1 : Nat} {ca1 : Nat} {na2 : Bool} {Aa2 : Option Addr} {ka2 : Nat} {ca2 : Nat} {x : Int} {z : Int} {g1 : Nat} {W W1 : World} (h : NbrI w na1 Aa1 ka1 ca1 na2 Aa2 ka2 ca2 x z g1 W) (hb : Below W.heap.size W W1) : NbrI w na1 Aa1 ka1 ca1 na2 Aa2 ka2 ca2 x z g1 W1 := by
  obtain ⟨h1, hB, k0, k1, k2⟩ := h
  exact ⟨h1.below hb, bth hB hb, k0.below hb, k1.below hb, k2.below hb⟩
set_option maxHeartbeats 1600000 in
theorem p_number (v : Value) (q : Rat) (w : World) (hv : RR w v q) {n : Nat} (hq : TQ n q) (hn : n ≤ 1000000) (hn1 : 1 ≤ n) (ht : tab10 w) : Calls Tryz.prog 88 #[v] w (RetStr w (qtx q)) := by
  have HV := Lib.hid hv
  obtain ⟨na1, Aa1, ka1, ca1, na2, Aa2, ka2, ca2, za, rfl, hna, hza, hda⟩ := hv
  have HNa := Lib.hid hna
  have HZa := Lib.hid hza
  have HDa := Lib.hid hda
  clear hna hza hda
  have HQ1 := Lib.hid (And.intro (HDa.out.td hq) (And.intro hn (And.intro hn1 hq)))
  have HTb := Lib.hid ht
  have hl1 := itx_len_le hq.1
  have hl2 := itx_len_le hq.2
  by_cases h0 : q.den = 1
  · have H0 := Lib.hid h0
    have e1 : decide (q.den = 1) = true := decide_eq_true h0
    clear hq hn hn1 ht h0 hl1 hl2
    have HE := Lib.hid e1
    clear e1
    have HB := Lib.hid (Below.refl w.heap.size w)
    go_enter Tryz.func88, Tryz.ntmps88
    go_wp2_with (first | ((with_reducible refine gate_dst (N := 1) rfl ?_); refine bx_event rfl (cs := #[.bool na1, .slice Aa1 ka1 ca1, .bool na2, .slice Aa2 ka2 ca2]) (t := 31) ?hr ?_; (case hr => first | (go_simp; done) | (go_simp; rfl)); intro g1 w1 hg bk hb; have HG1 := Lib.hid (Nat.le_trans HB.out.size hg); replace HB := Lib.hid (bth HB.out hb); replace HNa := Lib.hid (HNa.out.below hb); replace HZa := Lib.hid (HZa.out.below hb); replace HTb := Lib.hid (HTb.out.below hb); replace HV := Lib.hid (HV.out.below hb); have BK1 := Lib.hid bk; obtain ⟨c1_0, c1_1, c1_2, c1_3, f1_0, f1_1, f1_2, f1_3⟩ := BK1.out.all4; clear hb hg bk))
    refine (p_whole _ q _ HV.out (n := n) HQ1.out.2.2.2 HQ1.out.2.1 HQ1.out.2.2.1).mono ?_
    rintro e u1 ⟨rfl, hb⟩
    replace HB := Lib.hid (bth HB.out hb)
    clear c1_0 c1_1 c1_2 c1_3 f1_0 f1_1 f1_2 f1_3
    replace BK1 := Lib.hid (BK1.out.below hb)
    obtain ⟨c1_0, c1_1, c1_2, c1_3, f1_0, f1_1, f1_2, f1_3⟩ := BK1.out.all4
    replace HNa := Lib.hid (HNa.out.below hb)
    replace HZa := Lib.hid (HZa.out.below hb)
    replace HTb := Lib.hid (HTb.out.below hb)
    replace HV := Lib.hid (HV.out.below hb)
    clear hb
    rw [HE.out]
    go_wp2_with fail
    refine (p_text _ q.num n _ HNa.out HQ1.out.2.2.2.1 HQ1.out.2.1 HTb.out).mono ?_
    rintro e u2 ⟨rfl, hb⟩
    replace HB := Lib.hid (bth HB.out hb)
    clear c1_0 c1_1 c1_2 c1_3 f1_0 f1_1 f1_2 f1_3
    replace BK1 := Lib.hid (BK1.out.below hb)
    obtain ⟨c1_0, c1_1, c1_2, c1_3, f1_0, f1_1, f1_2, f1_3⟩ := BK1.out.all4
    replace HNa := Lib.hid (HNa.out.below hb)
    replace HZa := Lib.hid (HZa.out.below hb)
    replace HTb := Lib.hid (HTb.out.below hb)
    replace HV := Lib.hid (HV.out.below hb)
    clear hb
    go_wp2_with fail
    go_ret
    exact ⟨by unfold qtx; rw [if_pos H0.out]; rfl, HB.out⟩
  · have H0 := Lib.hid h0
    have e1 : decide (q.den = 1) = false := decide_eq_false h0
    have hz : za ≠ 0 := fun h => h0 (HDa.out.zero h)
    have hz2 := HDa.out.ne hz
    rw [← hz2] at hl2
    have hadd1 : ∀ W, Sem.run Tryz.prog (Op.stringOp .add (S (itx q.num)) ⟨#[47]⟩) W = .ok (.string (S (itx q.num ++ [47]))) W := fun W => add_strc (itx q.num) 47 (by omega) W
    have hadd2 : ∀ W, Sem.run Tryz.prog (Op.stringOp .add (S (itx q.num ++ [47])) (S (itx za))) W = .ok (.string (S (itx q.num ++ 47 :: itx za))) W := fun W => by
      have h := add_str (itx q.num ++ [47]) (itx za) (by simp only [List.length_append, List.length_cons, List.length_nil]; omega) W
      rw [List.append_assoc] at h
      exact h
    have HZ2 : Hid (itx q.num ++ 47 :: itx za = itx q.num ++ 47 :: itx q.den) := Lib.hid (by rw [hz2])
    clear hq hn hn1 ht h0 hl1 hl2 hz hz2
    have HE := Lib.hid e1
    clear e1
    have HB := Lib.hid (Below.refl w.heap.size w)
    go_enter Tryz.func88, Tryz.ntmps88
    go_wp2_with (first | ((with_reducible refine gate_dst (N := 1) rfl ?_); refine bx_event rfl (cs := #[.bool na1, .slice Aa1 ka1 ca1, .bool na2, .slice Aa2 ka2 ca2]) (t := 31) ?hr ?_; (case hr => first | (go_simp; done) | (go_simp; rfl)); intro g1 w1 hg bk hb; have HG1 := Lib.hid (Nat.le_trans HB.out.size hg); replace HB := Lib.hid (bth HB.out hb); replace HNa := Lib.hid (HNa.out.below hb); replace HZa := Lib.hid (HZa.out.below hb); replace HTb := Lib.hid (HTb.out.below hb); replace HV := Lib.hid (HV.out.below hb); have BK1 := Lib.hid bk; obtain ⟨c1_0, c1_1, c1_2, c1_3, f1_0, f1_1, f1_2, f1_3⟩ := BK1.out.all4; clear hb hg bk))
    refine (p_whole _ q _ HV.out (n := n) HQ1.out.2.2.2 HQ1.out.2.1 HQ1.out.2.2.1).mono ?_
    rintro e u1 ⟨rfl, hb⟩
    replace HB := Lib.hid (bth HB.out hb)
    clear c1_0 c1_1 c1_2 c1_3 f1_0 f1_1 f1_2 f1_3
    replace BK1 := Lib.hid (BK1.out.below hb)
    obtain ⟨c1_0, c1_1, c1_2, c1_3, f1_0, f1_1, f1_2, f1_3⟩ := BK1.out.all4
    replace HNa := Lib.hid (HNa.out.below hb)
    replace HZa := Lib.hid (HZa.out.below hb)
    replace HTb := Lib.hid (HTb.out.below hb)
    replace HV := Lib.hid (HV.out.below hb)
    clear hb
    rw [HE.out]
    go_wp2_with fail
    have HI : Hid (NbrI w na1 Aa1 ka1 ca1 na2 Aa2 ka2 ca2 q.num za g1 u1) := ⟨BK1.out, HB.out, HNa.out, HZa.out, HTb.out⟩
    clear c1_0 c1_1 c1_2 c1_3 f1_0 f1_1 f1_2 f1_3 BK1
    clear HB HNa HZa HTb HV
    first
    | (go_region_held3 (fun w' => w'.cell? ⟨g1, 0, none⟩ = some (.bool na1) ∧ w'.cell? ⟨g1, 1, none⟩ = some (.slice Aa1 ka1 ca1) ∧ w'.cell? ⟨g1, 2, none⟩ = some (.bool na2) ∧ w'.cell? ⟨g1, 3, none⟩ = some (.slice Aa2 ka2 ca2) ∧ Hid (NbrI w na1 Aa1 ka1 ca1 na2 Aa2 ka2 ca2 q.num za g1 w')) (first | exact (HI.out.below (below_drew (Below.refl _ _))).cells | exact (HQ.out.below hb).cells)
        (first | (go_at_call_of 32 Aa1; have HQ0 := ‹_ ∧ _ ∧ _ ∧ _ ∧ Hid (NbrI w na1 Aa1 ka1 ca1 na2 Aa2 ka2 ca2 q.num za g1 _)›; have HQ := HQ0.2.2.2.2; clear HQ0; refine (p_text _ q.num n _ HQ.out.2.2.1 HQ1.out.2.2.2.1 HQ1.out.2.1 HQ.out.2.2.2.2).mono ?_; rintro e u ⟨rfl, hb⟩; skip) | (go_at_call_of 32 Aa2; have HQ0 := ‹_ ∧ _ ∧ _ ∧ _ ∧ Hid (NbrI w na1 Aa1 ka1 ca1 na2 Aa2 ka2 ca2 q.num za g1 _)›; have HQ := HQ0.2.2.2.2; clear HQ0; refine (p_text _ za n _ HQ.out.2.2.2.1 HQ1.out.1 HQ1.out.2.1 HQ.out.2.2.2.2).mono ?_; rintro e u ⟨rfl, hb⟩; skip)))
    | fail
    all_goals
      go_wp2_with fail
      go_ret
      exact ⟨by unfold qtx; rw [if_neg H0.out, ← HZ2.out]; rfl, bth HQ.out.2.1 hb⟩
end Go.Proofs.YtapckjeedekphaaGreatDoor

namespace Go.Proofs.YtapckjeedekphaaGreatDoor
open Go.RowKit Go.Proofs.YtapckjeedekphaaGreatDoorW.PrintWords PR
theorem Bx.put2 {w : World} {g t : Nat} {a b : Value} (h : Bx w g t #[a, b]) (x y : Value) : Bx ((w.setCell ⟨g, 0, none⟩ x).setCell ⟨g, 1, none⟩ y) g t #[x, y] := (h.set_ 0 x).set_ 1 y
theorem Bx.far2 {w : World} {g g2 t : Nat} {cs : Array Value} (h : Bx w g t cs) (hne : g ≠ g2) (x y : Value) : Bx ((w.setCell ⟨g2, 0, none⟩ x).setCell ⟨g2, 1, none⟩ y) g t cs := (h.far (p := ⟨g2, 0, none⟩) hne x).far (p := ⟨g2, 1, none⟩) hne y
theorem Bx.kp2 {w : World} {g t : Nat} {a b : Value} (h : Bx w g t #[a, b]) (ht : t ≠ 140) (x y : Value) : Kp w ((w.setCell ⟨g, 0, none⟩ x).setCell ⟨g, 1, none⟩ y) := ((Kp.refl w).box h ht 0 x).box (h.set_ 0 x) ht 1 y
def set4 (w : World) (g : Nat) (x y z u : Value) : World := (((w.setCell ⟨g, 0, none⟩ x).setCell ⟨g, 1, none⟩ y).setCell ⟨g, 2, none⟩ z).setCell ⟨g, 3, none⟩ u
theorem Bx.put4 {w : World} {g t : Nat} {a b c d : Value} (h : Bx w g t #[a, b, c, d]) (x y z u : Value) : Bx (set4 w g x y z u) g t #[x, y, z, u] := (((h.set_ 0 x).set_ 1 y).set_ 2 z).set_ 3 u
theorem Bx.kp4 {w : World} {g t : Nat} {a b c d : Value} (h : Bx w g t #[a, b, c, d]) (ht : t ≠ 140) (x y z u : Value) : Kp w (set4 w g x y z u) := ((((Kp.refl w).box h ht 0 x).box (h.set_ 0 x) ht 1 y).box ((h.set_ 0 x).set_ 1 y) ht 2 z).box (((h.set_ 0 x).set_ 1 y).set_ 2 z) ht 3 u
theorem Bx.far4 {w : World} {g g2 t : Nat} {cs : Array Value} (h : Bx w g t cs) (hne : g ≠ g2) (x y z u : Value) : Bx (set4 w g2 x y z u) g t cs := (((h.far (p := ⟨g2, 0, none⟩) hne x).far (p := ⟨g2, 1, none⟩) hne y).far (p := ⟨g2, 2, none⟩) hne z).far (p := ⟨g2, 3, none⟩) hne u
theorem below_put4 {w0 w : World} {g : Nat} (h : Below w0.heap.size w0 w) (hg : w0.heap.size ≤ g) (x y z u : Value) : Below w0.heap.size w0 (set4 w g x y z u) := (((h.setCell hg x).setCell hg y).setCell hg z).setCell hg u
theorem below_put2 {w0 w : World} {g : Nat} (h : Below w0.heap.size w0 w) (hg : w0.heap.size ≤ g) (x y : Value) : Below w0.heap.size w0 ((w.setCell ⟨g, 0, none⟩ x).setCell ⟨g, 1, none⟩ y) := (h.setCell hg x).setCell hg y
theorem Td_gcd {n : Nat} {x y : Int} (hy : 0 < y) (h : Td n y) : Td n (Int.gcd x y : Int) ∧ (Int.gcd x y : Int) ≠ 0 := ⟨(gcd_facts x y hy h).2, (gcd_facts x y hy h).1⟩
theorem divInt_neg2 (x y : Int) : Rat.divInt (-x) (-y) = Rat.divInt x y := Rat.neg_divInt_neg x y
/-- The result of reduced: the parts of a quotient. -/
theorem RR.ofParts {w : World} {n1 n2 : Bool} {A1 A2 : Option Addr} {k1 c1 k2 c2 : Nat} {x y : Int} {q : Rat} (h1 : RI w (.agg #[.bool n1, .slice A1 k1 c1]) x) (h2 : RI w (.agg #[.bool n2, .slice A2 k2 c2]) y) (hx : x = q.num) (hy : y = (q.den : Int)) : RR w (.agg #[.bool n1, .slice A1 k1 c1, .bool n2, .slice A2 k2 c2]) q :=
  ⟨n1, A1, k1, c1, n2, A2, k2, c2, y, rfl, hx ▸ h1, h2, .inl hy⟩
def RedI (w : World) (nx : Bool) (Ax : Option Addr) (kx : Nat) (cx : Nat) (ny : Bool) (Ay : Option Addr) (ky : Nat) (cy : Nat) (ng : Bool) (Ag : Option Addr) (kg : Nat) (cg : Nat) (x : Int) (y : Int) (g : Int) (g4 : Nat) (g2 g3 g5 : Nat) (w' : World) : Prop := Bx w' g2 27 #[.bool nx, .slice Ax kx cx] ∧ Bx w' g3 27 #[.bool ny, .slice Ay ky cy] ∧ Bx w' g5 27 #[.bool ng, .slice Ag kg cg] ∧ Below w.heap.size w w' ∧ RI w' (.agg #[.bool nx, .slice Ax kx cx]) x ∧ RI w' (.agg #[.bool ny, .slice Ay ky cy]) y ∧ RI w' (.agg #[.bool ng, .slice Ag kg cg]) g ∧ Bx w' g4 31 #[.bool false, .slice none 0 0, .bool false, .slice none 0 0]
theorem RedI.cells {w : World} {nx : Bool} {Ax : Option Addr} {kx : Nat} {cx : Nat} {ny : Bool} {Ay : Option Addr} {ky : Nat} {cy : Nat} {ng : Bool} {Ag : Option Addr} {kg : Nat} {cg : Nat} {x : Int} {y : Int} {g : Int} {g4 : Nat} {g2 g3 g5 : Nat} {W : World} (h : RedI w nx Ax kx cx ny Ay ky cy ng Ag kg cg x y g g4 g2 g3 g5 W) : W.cell? ⟨g2, 0, none⟩ = some (.bool nx) ∧ W.cell? ⟨g2, 1, none⟩ = some (.slice Ax kx cx) ∧ W.cell? ⟨g3, 0, none⟩ = some (.bool ny) ∧ W.cell? ⟨g3, 1, none⟩ = some (.slice Ay ky cy) ∧ W.cell? ⟨g5, 0, none⟩ = some (.bool ng) ∧ W.cell? ⟨g5, 1, none⟩ = some (.slice Ag kg cg) ∧ Hid (RedI w nx Ax kx cx ny Ay ky cy ng Ag kg cg x y g g4 g2 g3 g5 W) := by
  have h' := h
  obtain ⟨h2, h3, h5, _⟩ := h
  exact ⟨h2.cell 0, h2.cell 1, h3.cell 0, h3.cell 1, h5.cell 0, h5.cell 1, h'⟩
theorem RedI.below {w : World} {nx : Bool} {Ax : Option Addr} {kx : Nat} {cx : Nat} {ny : Bool} {Ay : Option Addr} {ky : Nat} {cy : Nat} {ng : Bool} {Ag : Option Addr} {kg : Nat} {cg : Nat} {x : Int} {y : Int} {g : Int} {g4 : Nat} {g2 g3 g5 : Nat} {W W1 : World} (h : RedI w nx Ax kx cx ny Ay ky cy ng Ag kg cg x y g g4 g2 g3 g5 W) (hb : Below W.heap.size W W1) : RedI w nx Ax kx cx ny Ay ky cy ng Ag kg cg x y g g4 g2 g3 g5 W1 := by
  obtain ⟨h2, h3, h5, hB, k0, k1, k2, k3⟩ := h
  exact ⟨h2.below hb, h3.below hb, h5.below hb, bth hB hb, k0.below hb, k1.below hb, k2.below hb, k3.below hb⟩
set_option maxHeartbeats 1600000 in
theorem p_reduced_pos (va vb : Value) (X Y : Int) (w : World) (ha : RI w va X) (hb : RI w vb Y) {n : Nat} (hx : Td n X) (hy : Td n Y) (h0 : 0 < Y) (hn : n ≤ 900000) (hn1 : 1 ≤ n) : Calls Tryz.prog 125 #[va, vb] w (RetR w (Rat.divInt X Y)) := by
  obtain ⟨nx, Ax, kx, cx, rfl⟩ := ha.shape
  obtain ⟨ny, Ay, ky, cy, rfl⟩ := hb.shape
  have HA := Lib.hid ha
  have HC := Lib.hid hb
  have HP := Lib.hid (And.intro hx (And.intro hy (And.intro h0 hn)))
  have HP2 := Lib.hid (And.intro (Td_gcd h0 hy (x := X)).1 (And.intro (Td_mono (Td_one 0) hn1) (Td_gcd h0 hy (x := X)).2))
  have HD := Lib.hid (divInt_parts X Y h0)
  have e1 : decide (cmp Y 0 < 0) = false := by rw [cmp_gt h0]; rfl
  clear ha hb hx hy h0 hn hn1
  have HB := Lib.hid (Below.refl w.heap.size w)
  go_enter Tryz.func125, Tryz.ntmps125
  go_wp2_with (first | ((with_reducible refine gate_dst (N := 2) rfl ?_); refine bx_event rfl (cs := #[.bool nx, .slice Ax kx cx]) (t := 27) ?hr ?_; (case hr => first | (go_simp; done) | (go_simp; rfl)); intro g2 w2 hg bk hb; have HG2 := Lib.hid (Nat.le_trans HB.out.size hg); replace HB := Lib.hid (bth HB.out hb); replace HA := Lib.hid (HA.out.below hb); replace HC := Lib.hid (HC.out.below hb); have BK2 := Lib.hid bk; obtain ⟨c2_0, c2_1, f2_0, f2_1⟩ := BK2.out.all2; clear hb hg bk) | ((with_reducible refine gate_dst (N := 3) rfl ?_); refine bx_event rfl (cs := #[.bool ny, .slice Ay ky cy]) (t := 27) ?hr ?_; (case hr => first | (go_simp; done) | (go_simp; rfl)); intro g3 w3 hg bk hb; have HG3 := Lib.hid (Nat.le_trans HB.out.size hg); replace HB := Lib.hid (bth HB.out hb); have HN2_3 := Lib.hid (Nat.ne_of_lt (Nat.lt_of_lt_of_le BK2.out.lt hg)); clear c2_0 c2_1 f2_0 f2_1; replace BK2 := Lib.hid (BK2.out.below hb); obtain ⟨c2_0, c2_1, f2_0, f2_1⟩ := BK2.out.all2; replace HA := Lib.hid (HA.out.below hb); replace HC := Lib.hid (HC.out.below hb); have BK3 := Lib.hid bk; obtain ⟨c3_0, c3_1, f3_0, f3_1⟩ := BK3.out.all2; clear hb hg bk) | ((with_reducible refine gate_dst (N := 4) rfl ?_); refine bx_event rfl (cs := #[.bool false, .slice none 0 0, .bool false, .slice none 0 0]) (t := 31) ?hr ?_; (case hr => first | (go_simp; done) | (go_simp; rfl)); intro g4 w4 hg bk hb; have HG4 := Lib.hid (Nat.le_trans HB.out.size hg); replace HB := Lib.hid (bth HB.out hb); have HN2_4 := Lib.hid (Nat.ne_of_lt (Nat.lt_of_lt_of_le BK2.out.lt hg)); have HN3_4 := Lib.hid (Nat.ne_of_lt (Nat.lt_of_lt_of_le BK3.out.lt hg)); clear c2_0 c2_1 f2_0 f2_1; replace BK2 := Lib.hid (BK2.out.below hb); obtain ⟨c2_0, c2_1, f2_0, f2_1⟩ := BK2.out.all2; clear c3_0 c3_1 f3_0 f3_1; replace BK3 := Lib.hid (BK3.out.below hb); obtain ⟨c3_0, c3_1, f3_0, f3_1⟩ := BK3.out.all2; replace HA := Lib.hid (HA.out.below hb); replace HC := Lib.hid (HC.out.below hb); have BK4 := Lib.hid bk; obtain ⟨c4_0, c4_1, c4_2, c4_3, f4_0, f4_1, f4_2, f4_3⟩ := BK4.out.all4; clear hb hg bk))
  refine (p_sign _ Y _ HC.out).mono ?_
  rintro e u1 ⟨rfl, hb⟩
  replace HB := Lib.hid (bth HB.out hb)
  clear c2_0 c2_1 f2_0 f2_1
  replace BK2 := Lib.hid (BK2.out.below hb)
  obtain ⟨c2_0, c2_1, f2_0, f2_1⟩ := BK2.out.all2
  clear c3_0 c3_1 f3_0 f3_1
  replace BK3 := Lib.hid (BK3.out.below hb)
  obtain ⟨c3_0, c3_1, f3_0, f3_1⟩ := BK3.out.all2
  clear c4_0 c4_1 c4_2 c4_3 f4_0 f4_1 f4_2 f4_3
  replace BK4 := Lib.hid (BK4.out.below hb)
  obtain ⟨c4_0, c4_1, c4_2, c4_3, f4_0, f4_1, f4_2, f4_3⟩ := BK4.out.all4
  replace HA := Lib.hid (HA.out.below hb)
  replace HC := Lib.hid (HC.out.below hb)
  clear hb
  go_wp2_with fail
  refine (p_gcd _ _ X Y _ HA.out HC.out (n := n) HP.out.1 HP.out.2.1 (by have := HP.out.2.2.2; omega)).mono ?_
  rintro e u7 ⟨vg, rfl, hvg, hb⟩
  replace HB := Lib.hid (bth HB.out hb)
  clear c2_0 c2_1 f2_0 f2_1
  replace BK2 := Lib.hid (BK2.out.below hb)
  obtain ⟨c2_0, c2_1, f2_0, f2_1⟩ := BK2.out.all2
  clear c3_0 c3_1 f3_0 f3_1
  replace BK3 := Lib.hid (BK3.out.below hb)
  obtain ⟨c3_0, c3_1, f3_0, f3_1⟩ := BK3.out.all2
  clear c4_0 c4_1 c4_2 c4_3 f4_0 f4_1 f4_2 f4_3
  replace BK4 := Lib.hid (BK4.out.below hb)
  obtain ⟨c4_0, c4_1, c4_2, c4_3, f4_0, f4_1, f4_2, f4_3⟩ := BK4.out.all4
  replace HA := Lib.hid (HA.out.below hb)
  replace HC := Lib.hid (HC.out.below hb)
  clear hb
  have HGC := Lib.hid hvg
  obtain ⟨ng, Ag, kg, cg, rfl⟩ := hvg.shape
  clear hvg
  go_wp2_with (first | ((with_reducible refine gate_dst (N := 5) rfl ?_); refine bx_event rfl (cs := #[.bool false, .slice none 0 0]) (t := 27) ?hr ?_; (case hr => first | (go_simp; done) | (go_simp; rfl)); intro g5 w5 hg bk hb; have HG5 := Lib.hid (Nat.le_trans HB.out.size hg); replace HB := Lib.hid (bth HB.out hb); have HN2_5 := Lib.hid (Nat.ne_of_lt (Nat.lt_of_lt_of_le BK2.out.lt hg)); have HN3_5 := Lib.hid (Nat.ne_of_lt (Nat.lt_of_lt_of_le BK3.out.lt hg)); have HN4_5 := Lib.hid (Nat.ne_of_lt (Nat.lt_of_lt_of_le BK4.out.lt hg)); clear c2_0 c2_1 f2_0 f2_1; replace BK2 := Lib.hid (BK2.out.below hb); obtain ⟨c2_0, c2_1, f2_0, f2_1⟩ := BK2.out.all2; clear c3_0 c3_1 f3_0 f3_1; replace BK3 := Lib.hid (BK3.out.below hb); obtain ⟨c3_0, c3_1, f3_0, f3_1⟩ := BK3.out.all2; clear c4_0 c4_1 c4_2 c4_3 f4_0 f4_1 f4_2 f4_3; replace BK4 := Lib.hid (BK4.out.below hb); obtain ⟨c4_0, c4_1, c4_2, c4_3, f4_0, f4_1, f4_2, f4_3⟩ := BK4.out.all4; replace HA := Lib.hid (HA.out.below hb); replace HC := Lib.hid (HC.out.below hb); replace HGC := Lib.hid (HGC.out.below hb); have BK5 := Lib.hid bk; obtain ⟨c5_0, c5_1, f5_0, f5_1⟩ := BK5.out.all2; clear hb hg bk))
  obtain ⟨W6, hW6⟩ : ∃ W, (w5.setCell ⟨g5, 0, none⟩ (.bool ng)).setCell ⟨g5, 1, none⟩ (.slice Ag kg cg) = W := ⟨_, rfl⟩
  have KP6 := BK5.out.kp2 (by decide) (.bool ng) (.slice Ag kg cg)
  have HI : Hid (RedI w nx Ax kx cx ny Ay ky cy ng Ag kg cg X Y (Int.gcd X Y) g4 g2 g3 g5 W6) := by
    rw [← hW6]
    exact ⟨BK2.out.far2 HN2_5.out _ _, BK3.out.far2 HN3_5.out _ _, BK5.out.put2 _ _, below_put2 HB.out HG5.out _ _, HA.out.kp KP6, HC.out.kp KP6, HGC.out.kp KP6, BK4.out.far2 HN4_5.out _ _⟩
  rw [hW6]
  clear hW6 KP6 BK2 BK3 BK4 BK5 HA HC HGC HB
  clear c2_0 f2_0 c2_1 f2_1
  clear c3_0 f3_0 c3_1 f3_1
  clear c4_0 f4_0 c4_1 f4_1 c4_2 f4_2 c4_3 f4_3
  clear c5_0 f5_0 c5_1 f5_1
  first
  | (go_region_held3 (fun w' => w'.cell? ⟨g2, 0, none⟩ = some (.bool nx) ∧ w'.cell? ⟨g2, 1, none⟩ = some (.slice Ax kx cx) ∧ w'.cell? ⟨g3, 0, none⟩ = some (.bool ny) ∧ w'.cell? ⟨g3, 1, none⟩ = some (.slice Ay ky cy) ∧ w'.cell? ⟨g5, 0, none⟩ = some (.bool ng) ∧ w'.cell? ⟨g5, 1, none⟩ = some (.slice Ag kg cg) ∧ Hid (RedI w nx Ax kx cx ny Ay ky cy ng Ag kg cg X Y (Int.gcd X Y : Int) g4 g2 g3 g5 w')) (first | exact (HI.out.below (below_drew (Below.refl _ _))).cells | exact (HQ.out.below hb).cells)
      (first | (go_at_call 136; have HQ0 := ‹_ ∧ _ ∧ _ ∧ _ ∧ _ ∧ _ ∧ Hid (RedI w nx Ax kx cx ny Ay ky cy ng Ag kg cg X Y (Int.gcd X Y : Int) g4 g2 g3 g5 _)›; have HQ := HQ0.2.2.2.2.2.2; clear HQ0; refine (p_one _).mono ?_; rintro e u ⟨v1, rfl, hv1, hb⟩; obtain ⟨m1, B1, j1, d1, rfl, HV1⟩ := RetI.shape_ hv1; clear hv1) | (go_at_call 54; have HQ0 := ‹_ ∧ _ ∧ _ ∧ _ ∧ _ ∧ _ ∧ Hid (RedI w nx Ax kx cx ny Ay ky cy ng Ag kg cg X Y (Int.gcd X Y : Int) g4 g2 g3 g5 _)›; have HQ := HQ0.2.2.2.2.2.2; clear HQ0; refine (p_cmp _ _ (Int.gcd X Y : Int) 1 _ HQ.out.2.2.2.2.2.2.1 HV1.out (n := n) HP2.out.1 HP2.out.2.1 (by have := HP.out.2.2.2; omega)).mono ?_; rintro e u ⟨rfl, hb⟩; skip)))
  | fail
  have HX := Lib.hid (HQ.out.below hb)
  have c2_0 := HX.out.1.cell 0
  have c2_1 := HX.out.1.cell 1
  have f2_0 := HX.out.1.frozen 0
  have f2_1 := HX.out.1.frozen 1
  have c3_0 := HX.out.2.1.cell 0
  have c3_1 := HX.out.2.1.cell 1
  have f3_0 := HX.out.2.1.frozen 0
  have f3_1 := HX.out.2.1.frozen 1
  have c5_0 := HX.out.2.2.1.cell 0
  have c5_1 := HX.out.2.2.1.cell 1
  have f5_0 := HX.out.2.2.1.frozen 0
  have f5_1 := HX.out.2.2.1.frozen 1
  have BK4 := Lib.hid HX.out.2.2.2.2.2.2.2
  have HB := Lib.hid HX.out.2.2.2.1
  have HA := Lib.hid HX.out.2.2.2.2.1
  have HC := Lib.hid HX.out.2.2.2.2.2.1
  have HGC := Lib.hid HX.out.2.2.2.2.2.2.1
  have BK2 := Lib.hid HX.out.1
  have BK3 := Lib.hid HX.out.2.1
  have BK5 := Lib.hid HX.out.2.2.1
  obtain ⟨c4_0, c4_1, c4_2, c4_3, f4_0, f4_1, f4_2, f4_3⟩ := BK4.out.all4
  clear HI HQ hb HX
  by_cases hg1 : (Int.gcd X Y : Int) = 1
  · have e2 : (cmp (Int.gcd X Y : Int) 1 == 0) = true := by rw [hg1]; rfl
    have HG1 := Lib.hid hg1
    clear hg1
    go_wp2_with fail
    refine bodyPost_ret (results_cell_row rfl _ _ g4 31 #[.bool nx, .slice Ax kx cx, .bool ny, .slice Ay ky cy] (0, 0) _ rfl (BK4.out.put4 _ _ _ _) Tryz.underlying31 rfl (by kernel_rfl)) rfl ?_
    have KP := BK4.out.kp4 (by decide) (.bool nx) (.slice Ax kx cx) (.bool ny) (.slice Ay ky cy)
    exact ⟨_, rfl, RR.ofParts (HA.out.kp KP) (HC.out.kp KP) (by rw [HD.out.1, HG1.out, Int.fdiv_one]) (by rw [HD.out.2, HG1.out, Int.fdiv_one]), below_put4 HB.out HG4.out _ _ _ _⟩
  · have e2 : (cmp (Int.gcd X Y : Int) 1 == 0) = false := by
      rcases Int.lt_trichotomy (Int.gcd X Y : Int) 1 with h | h | h
      · rw [cmp_lt h]; rfl
      · exact absurd h hg1
      · rw [cmp_gt h]; rfl
    clear hg1
    have hn1 := HN2_3.out
    have hn2 := HN2_3.out.symm
    have hn3 := HN2_4.out
    have hn4 := HN2_4.out.symm
    have hn5 := HN3_4.out
    have hn6 := HN3_4.out.symm
    have hn7 := HN2_5.out
    have hn8 := HN2_5.out.symm
    have hn9 := HN3_5.out
    have hn10 := HN3_5.out.symm
    go_wp2_with fail
    refine (p_divmod _ _ X (Int.gcd X Y : Int) _ HA.out HGC.out (n := n) HP.out.1 HP2.out.1 HP.out.2.2.2 HP2.out.2.2).mono ?_
    rintro e u8 ⟨v1, v2, rfl, hq1, hq2, hb⟩
    replace HB := Lib.hid (bth HB.out hb)
    clear c2_0 c2_1 f2_0 f2_1
    replace BK2 := Lib.hid (BK2.out.below hb)
    obtain ⟨c2_0, c2_1, f2_0, f2_1⟩ := BK2.out.all2
    clear c3_0 c3_1 f3_0 f3_1
    replace BK3 := Lib.hid (BK3.out.below hb)
    obtain ⟨c3_0, c3_1, f3_0, f3_1⟩ := BK3.out.all2
    clear c4_0 c4_1 c4_2 c4_3 f4_0 f4_1 f4_2 f4_3
    replace BK4 := Lib.hid (BK4.out.below hb)
    obtain ⟨c4_0, c4_1, c4_2, c4_3, f4_0, f4_1, f4_2, f4_3⟩ := BK4.out.all4
    clear c5_0 c5_1 f5_0 f5_1
    replace BK5 := Lib.hid (BK5.out.below hb)
    obtain ⟨c5_0, c5_1, f5_0, f5_1⟩ := BK5.out.all2
    replace HA := Lib.hid (HA.out.below hb)
    replace HC := Lib.hid (HC.out.below hb)
    replace HGC := Lib.hid (HGC.out.below hb)
    clear hb
    have HQ1 := Lib.hid hq1
    obtain ⟨nq, Aq, kq, cq, rfl⟩ := hq1.shape
    clear hq1 hq2
    go_wp2_with fail
    obtain ⟨W9, hW9⟩ : ∃ W, (u8.setCell ⟨g2, 0, none⟩ (.bool nq)).setCell ⟨g2, 1, none⟩ (.slice Aq kq cq) = W := ⟨_, rfl⟩
    have KP9 := BK2.out.kp2 (by decide) (.bool nq) (.slice Aq kq cq)
    have B2' : Hid (Bx W9 g2 27 #[.bool nq, .slice Aq kq cq]) := Lib.hid (hW9 ▸ BK2.out.put2 _ _)
    have B3' : Hid (Bx W9 g3 27 #[.bool ny, .slice Ay ky cy]) := Lib.hid (hW9 ▸ BK3.out.far2 hn2 _ _)
    have B4' : Hid (Bx W9 g4 31 #[.bool false, .slice none 0 0, .bool false, .slice none 0 0]) := Lib.hid (hW9 ▸ BK4.out.far2 hn4 _ _)
    have B5' : Hid (Bx W9 g5 27 #[.bool ng, .slice Ag kg cg]) := Lib.hid (hW9 ▸ BK5.out.far2 hn8 _ _)
    rw [hW9] at KP9
    have HB' : Hid (Below w.heap.size w W9) := Lib.hid (hW9 ▸ below_put2 HB.out HG2.out _ _)
    have HC' := Lib.hid (HC.out.kp KP9)
    have HGC' := Lib.hid (HGC.out.kp KP9)
    have HQ1' := Lib.hid (HQ1.out.kp KP9)
    rw [hW9]
    clear hW9 KP9 BK2 BK3 BK4 BK5 HB HA HC HGC HQ1
    clear c2_0 f2_0 c2_1 f2_1
    clear c3_0 f3_0 c3_1 f3_1
    clear c4_0 f4_0 c4_1 f4_1 c4_2 f4_2 c4_3 f4_3
    clear c5_0 f5_0 c5_1 f5_1
    have BK2 := B2'
    have BK3 := B3'
    have BK4 := B4'
    have BK5 := B5'
    have HB := HB'
    have HC := HC'
    have HGC := HGC'
    have HQ1 := HQ1'
    clear B2' B3' B4' B5' HB' HC' HGC' HQ1' 
    obtain ⟨c2_0, c2_1, f2_0, f2_1⟩ := BK2.out.all2
    obtain ⟨c3_0, c3_1, f3_0, f3_1⟩ := BK3.out.all2
    obtain ⟨c4_0, c4_1, c4_2, c4_3, f4_0, f4_1, f4_2, f4_3⟩ := BK4.out.all4
    obtain ⟨c5_0, c5_1, f5_0, f5_1⟩ := BK5.out.all2
    refine (p_divmod _ _ Y (Int.gcd X Y : Int) _ HC.out HGC.out (n := n) HP.out.2.1 HP2.out.1 HP.out.2.2.2 HP2.out.2.2).mono ?_
    rintro e u9 ⟨v3, v4, rfl, hq1, hq2, hb⟩
    replace HB := Lib.hid (bth HB.out hb)
    clear c2_0 c2_1 f2_0 f2_1
    replace BK2 := Lib.hid (BK2.out.below hb)
    obtain ⟨c2_0, c2_1, f2_0, f2_1⟩ := BK2.out.all2
    clear c3_0 c3_1 f3_0 f3_1
    replace BK3 := Lib.hid (BK3.out.below hb)
    obtain ⟨c3_0, c3_1, f3_0, f3_1⟩ := BK3.out.all2
    clear c4_0 c4_1 c4_2 c4_3 f4_0 f4_1 f4_2 f4_3
    replace BK4 := Lib.hid (BK4.out.below hb)
    obtain ⟨c4_0, c4_1, c4_2, c4_3, f4_0, f4_1, f4_2, f4_3⟩ := BK4.out.all4
    clear c5_0 c5_1 f5_0 f5_1
    replace BK5 := Lib.hid (BK5.out.below hb)
    obtain ⟨c5_0, c5_1, f5_0, f5_1⟩ := BK5.out.all2
    replace HC := Lib.hid (HC.out.below hb)
    replace HGC := Lib.hid (HGC.out.below hb)
    replace HQ1 := Lib.hid (HQ1.out.below hb)
    clear hb
    have HR1 := Lib.hid hq1
    obtain ⟨nr, Ar, kr, cr, rfl⟩ := hq1.shape
    clear hq1 hq2
    have KP10 := BK3.out.kp2 (by decide) (.bool nr) (.slice Ar kr cr)
    have BK4c := Lib.hid (BK4.out.far2 hn6 (.bool nr) (.slice Ar kr cr))
    have HBc := Lib.hid (below_put2 HB.out HG3.out (.bool nr) (.slice Ar kr cr))
    have HQc := Lib.hid (HQ1.out.kp KP10)
    have HRc := Lib.hid (HR1.out.kp KP10)
    clear KP10
    go_wp2_with fail
    refine bodyPost_ret (results_cell_row rfl _ _ g4 31 #[.bool nq, .slice Aq kq cq, .bool nr, .slice Ar kr cr] (0, 0) _ rfl (BK4c.out.put4 _ _ _ _) Tryz.underlying31 rfl (by kernel_rfl)) rfl ?_
    have KP := BK4c.out.kp4 (by decide) (.bool nq) (.slice Aq kq cq) (.bool nr) (.slice Ar kr cr)
    exact ⟨_, rfl, RR.ofParts (HQc.out.kp KP) (HRc.out.kp KP) HD.out.1.symm HD.out.2.symm, below_put4 HBc.out HG4.out _ _ _ _⟩
set_option maxHeartbeats 3200000 in
theorem p_reduced_neg (va vb : Value) (X Y : Int) (w : World) (ha : RI w va (-X)) (hb : RI w vb (-Y)) {n : Nat} (hx : Td n X) (hy : Td n Y) (h0 : 0 < Y) (hn : n ≤ 900000) (hn1 : 1 ≤ n) : Calls Tryz.prog 125 #[va, vb] w (RetR w (Rat.divInt X Y)) := by
  obtain ⟨nx0, Ax0, kx0, cx0, rfl⟩ := ha.shape
  obtain ⟨ny0, Ay0, ky0, cy0, rfl⟩ := hb.shape
  have HA := Lib.hid ha
  have HC := Lib.hid hb
  have HP := Lib.hid (And.intro hx (And.intro hy (And.intro h0 hn)))
  have HP2 := Lib.hid (And.intro (Td_gcd h0 hy (x := X)).1 (And.intro (Td_mono (Td_one 0) hn1) (Td_gcd h0 hy (x := X)).2))
  have HD := Lib.hid (divInt_parts X Y h0)
  have e1 : decide (cmp (-Y) 0 < 0) = true := by rw [cmp_lt (by omega)]; rfl
  clear ha hb hx hy h0 hn hn1
  have HB := Lib.hid (Below.refl w.heap.size w)
  go_enter Tryz.func125, Tryz.ntmps125
  go_wp2_with (first | ((with_reducible refine gate_dst (N := 2) rfl ?_); refine bx_event rfl (cs := #[.bool nx0, .slice Ax0 kx0 cx0]) (t := 27) ?hr ?_; (case hr => first | (go_simp; done) | (go_simp; rfl)); intro g2 w2 hg bk hb; have HG2 := Lib.hid (Nat.le_trans HB.out.size hg); replace HB := Lib.hid (bth HB.out hb); replace HA := Lib.hid (HA.out.below hb); replace HC := Lib.hid (HC.out.below hb); have BK2 := Lib.hid bk; obtain ⟨c2_0, c2_1, f2_0, f2_1⟩ := BK2.out.all2; clear hb hg bk) | ((with_reducible refine gate_dst (N := 3) rfl ?_); refine bx_event rfl (cs := #[.bool ny0, .slice Ay0 ky0 cy0]) (t := 27) ?hr ?_; (case hr => first | (go_simp; done) | (go_simp; rfl)); intro g3 w3 hg bk hb; have HG3 := Lib.hid (Nat.le_trans HB.out.size hg); replace HB := Lib.hid (bth HB.out hb); have HN2_3 := Lib.hid (Nat.ne_of_lt (Nat.lt_of_lt_of_le BK2.out.lt hg)); clear c2_0 c2_1 f2_0 f2_1; replace BK2 := Lib.hid (BK2.out.below hb); obtain ⟨c2_0, c2_1, f2_0, f2_1⟩ := BK2.out.all2; replace HA := Lib.hid (HA.out.below hb); replace HC := Lib.hid (HC.out.below hb); have BK3 := Lib.hid bk; obtain ⟨c3_0, c3_1, f3_0, f3_1⟩ := BK3.out.all2; clear hb hg bk) | ((with_reducible refine gate_dst (N := 4) rfl ?_); refine bx_event rfl (cs := #[.bool false, .slice none 0 0, .bool false, .slice none 0 0]) (t := 31) ?hr ?_; (case hr => first | (go_simp; done) | (go_simp; rfl)); intro g4 w4 hg bk hb; have HG4 := Lib.hid (Nat.le_trans HB.out.size hg); replace HB := Lib.hid (bth HB.out hb); have HN2_4 := Lib.hid (Nat.ne_of_lt (Nat.lt_of_lt_of_le BK2.out.lt hg)); have HN3_4 := Lib.hid (Nat.ne_of_lt (Nat.lt_of_lt_of_le BK3.out.lt hg)); clear c2_0 c2_1 f2_0 f2_1; replace BK2 := Lib.hid (BK2.out.below hb); obtain ⟨c2_0, c2_1, f2_0, f2_1⟩ := BK2.out.all2; clear c3_0 c3_1 f3_0 f3_1; replace BK3 := Lib.hid (BK3.out.below hb); obtain ⟨c3_0, c3_1, f3_0, f3_1⟩ := BK3.out.all2; replace HA := Lib.hid (HA.out.below hb); replace HC := Lib.hid (HC.out.below hb); have BK4 := Lib.hid bk; obtain ⟨c4_0, c4_1, c4_2, c4_3, f4_0, f4_1, f4_2, f4_3⟩ := BK4.out.all4; clear hb hg bk))
  refine (p_sign _ (-Y) _ HC.out).mono ?_
  rintro e u1 ⟨rfl, hb⟩
  replace HB := Lib.hid (bth HB.out hb)
  clear c2_0 c2_1 f2_0 f2_1
  replace BK2 := Lib.hid (BK2.out.below hb)
  obtain ⟨c2_0, c2_1, f2_0, f2_1⟩ := BK2.out.all2
  clear c3_0 c3_1 f3_0 f3_1
  replace BK3 := Lib.hid (BK3.out.below hb)
  obtain ⟨c3_0, c3_1, f3_0, f3_1⟩ := BK3.out.all2
  clear c4_0 c4_1 c4_2 c4_3 f4_0 f4_1 f4_2 f4_3
  replace BK4 := Lib.hid (BK4.out.below hb)
  obtain ⟨c4_0, c4_1, c4_2, c4_3, f4_0, f4_1, f4_2, f4_3⟩ := BK4.out.all4
  replace HA := Lib.hid (HA.out.below hb)
  replace HC := Lib.hid (HC.out.below hb)
  clear hb
  have hn1 := HN2_3.out
  have hn2 := HN2_3.out.symm
  have hn4 := HN2_4.out.symm
  have hn6 := HN3_4.out.symm
  go_wp2_with fail
  first
  | (go_region_with (first | (go_at_call_of 145 Ax0; refine (p_neg _ (-X) _ ?_).mono ?_; (first | exact HA.out | exact RI.drew HA.out); rintro e u ⟨vv, rfl, hvv, hb⟩; have B' : Hid (Bx u g2 27 #[.bool nx0, .slice Ax0 kx0 cx0]) := (by first | exact BK2.out.below hb | exact BK2.out.drew.below hb); clear BK2; have BK2 := B'; clear B'; have c2_0 := BK2.out.cell 0; have f2_0 := BK2.out.frozen 0; have c2_1 := BK2.out.cell 1; have f2_1 := BK2.out.frozen 1; have B' : Hid (Bx u g3 27 #[.bool ny0, .slice Ay0 ky0 cy0]) := (by first | exact BK3.out.below hb | exact BK3.out.drew.below hb); clear BK3; have BK3 := B'; clear B'; have c3_0 := BK3.out.cell 0; have f3_0 := BK3.out.frozen 0; have c3_1 := BK3.out.cell 1; have f3_1 := BK3.out.frozen 1; have B' : Hid (Bx u g4 31 #[.bool false, .slice none 0 0, .bool false, .slice none 0 0]) := (by first | exact BK4.out.below hb | exact BK4.out.drew.below hb); clear BK4; have BK4 := B'; clear B'; have c4_0 := BK4.out.cell 0; have f4_0 := BK4.out.frozen 0; have c4_1 := BK4.out.cell 1; have f4_1 := BK4.out.frozen 1; have c4_2 := BK4.out.cell 2; have f4_2 := BK4.out.frozen 2; have c4_3 := BK4.out.cell 3; have f4_3 := BK4.out.frozen 3; have K' : Hid (RI u (.agg #[.bool nx0, .slice Ax0 kx0 cx0]) (-X)) := (by first | exact HA.out.below hb | exact (RI.drew HA.out).below hb); clear HA; have HA := K'; clear K'; have K' : Hid (RI u (.agg #[.bool ny0, .slice Ay0 ky0 cy0]) (-Y)) := (by first | exact HC.out.below hb | exact (RI.drew HC.out).below hb); clear HC; have HC := K'; clear K'; have HB' : Hid (Below w.heap.size w u) := (by first | exact bth HB.out hb | exact bth (below_drew HB.out) hb); clear HB; have HB := HB'; clear HB'; obtain ⟨ni, Ai, ki, ci, rfl⟩ := hvv.shape; have HNi : Hid (RI u (.agg #[.bool ni, .slice Ai ki ci]) X) := Lib.hid (hvv.cast (by omega)); (try (have K' : Hid (RI u (.agg #[.bool nj, .slice Aj kj cj]) Y) := (by first | exact HNj.out.below hb | exact (RI.drew HNj.out).below hb); clear HNj; have HNj := K'; clear K')); clear hvv hb) | (go_at_call_of 145 Ay0; refine (p_neg _ (-Y) _ ?_).mono ?_; (first | exact HC.out | exact RI.drew HC.out); rintro e u ⟨vv, rfl, hvv, hb⟩; have B' : Hid (Bx u g2 27 #[.bool nx0, .slice Ax0 kx0 cx0]) := (by first | exact BK2.out.below hb | exact BK2.out.drew.below hb); clear BK2; have BK2 := B'; clear B'; have c2_0 := BK2.out.cell 0; have f2_0 := BK2.out.frozen 0; have c2_1 := BK2.out.cell 1; have f2_1 := BK2.out.frozen 1; have B' : Hid (Bx u g3 27 #[.bool ny0, .slice Ay0 ky0 cy0]) := (by first | exact BK3.out.below hb | exact BK3.out.drew.below hb); clear BK3; have BK3 := B'; clear B'; have c3_0 := BK3.out.cell 0; have f3_0 := BK3.out.frozen 0; have c3_1 := BK3.out.cell 1; have f3_1 := BK3.out.frozen 1; have B' : Hid (Bx u g4 31 #[.bool false, .slice none 0 0, .bool false, .slice none 0 0]) := (by first | exact BK4.out.below hb | exact BK4.out.drew.below hb); clear BK4; have BK4 := B'; clear B'; have c4_0 := BK4.out.cell 0; have f4_0 := BK4.out.frozen 0; have c4_1 := BK4.out.cell 1; have f4_1 := BK4.out.frozen 1; have c4_2 := BK4.out.cell 2; have f4_2 := BK4.out.frozen 2; have c4_3 := BK4.out.cell 3; have f4_3 := BK4.out.frozen 3; have K' : Hid (RI u (.agg #[.bool nx0, .slice Ax0 kx0 cx0]) (-X)) := (by first | exact HA.out.below hb | exact (RI.drew HA.out).below hb); clear HA; have HA := K'; clear K'; have K' : Hid (RI u (.agg #[.bool ny0, .slice Ay0 ky0 cy0]) (-Y)) := (by first | exact HC.out.below hb | exact (RI.drew HC.out).below hb); clear HC; have HC := K'; clear K'; have HB' : Hid (Below w.heap.size w u) := (by first | exact bth HB.out hb | exact bth (below_drew HB.out) hb); clear HB; have HB := HB'; clear HB'; obtain ⟨nj, Aj, kj, cj, rfl⟩ := hvv.shape; have HNj : Hid (RI u (.agg #[.bool nj, .slice Aj kj cj]) Y) := Lib.hid (hvv.cast (by omega)); (try (have K' : Hid (RI u (.agg #[.bool ni, .slice Ai ki ci]) X) := (by first | exact HNi.out.below hb | exact (RI.drew HNi.out).below hb); clear HNi; have HNi := K'; clear K')); clear hvv hb)))
  | fail
  all_goals
    obtain ⟨W1, hW1⟩ : ∃ W, (((u.setCell ⟨g2, 0, none⟩ (.bool ni)).setCell ⟨g2, 1, none⟩ (.slice Ai ki ci)).setCell ⟨g3, 0, none⟩ (.bool nj)).setCell ⟨g3, 1, none⟩ (.slice Aj kj cj) = W := ⟨_, rfl⟩
    have B2' : Hid (Bx W1 g2 27 #[.bool ni, .slice Ai ki ci]) := Lib.hid (hW1 ▸ (BK2.out.put2 _ _).far2 hn1 _ _)
    have B3' : Hid (Bx W1 g3 27 #[.bool nj, .slice Aj kj cj]) := Lib.hid (hW1 ▸ (BK3.out.far2 hn2 _ _).put2 _ _)
    have B4' : Hid (Bx W1 g4 31 #[.bool false, .slice none 0 0, .bool false, .slice none 0 0]) := Lib.hid (hW1 ▸ (BK4.out.far2 hn4 _ _).far2 hn6 _ _)
    have HB' : Hid (Below w.heap.size w W1) := Lib.hid (hW1 ▸ below_put2 (below_put2 HB.out HG2.out _ _) HG3.out _ _)
    have KP1 : Kp u W1 := hW1 ▸ (BK2.out.kp2 (by decide) (.bool ni) (.slice Ai ki ci)).trans ((BK3.out.far2 hn2 _ _).kp2 (by decide) (.bool nj) (.slice Aj kj cj))
    have HA' := Lib.hid (HNi.out.kp KP1)
    have HC' := Lib.hid (HNj.out.kp KP1)
    rw [hW1]
    clear hW1 KP1 BK2 BK3 BK4 HB HA HC HNi HNj hn1 hn2 hn4 hn6
    clear c2_0 f2_0 c2_1 f2_1 c3_0 f3_0 c3_1 f3_1 c4_0 f4_0 c4_1 f4_1 c4_2 f4_2 c4_3 f4_3
    have BK2 := B2'
    have BK3 := B3'
    have BK4 := B4'
    have HB := HB'
    have HA := HA'
    have HC := HC'
    clear B2' B3' B4' HB' HA' HC'
    obtain ⟨c2_0, c2_1, f2_0, f2_1⟩ := BK2.out.all2
    obtain ⟨c3_0, c3_1, f3_0, f3_1⟩ := BK3.out.all2
    obtain ⟨c4_0, c4_1, c4_2, c4_3, f4_0, f4_1, f4_2, f4_3⟩ := BK4.out.all4
    have hgo : True := trivial
    go_wp2_with fail
    refine (p_gcd _ _ X Y _ HA.out HC.out (n := n) HP.out.1 HP.out.2.1 (by have := HP.out.2.2.2; omega)).mono ?_
    rintro e u7 ⟨vg, rfl, hvg, hb⟩
    replace HB := Lib.hid (bth HB.out hb)
    clear c2_0 c2_1 f2_0 f2_1
    replace BK2 := Lib.hid (BK2.out.below hb)
    obtain ⟨c2_0, c2_1, f2_0, f2_1⟩ := BK2.out.all2
    clear c3_0 c3_1 f3_0 f3_1
    replace BK3 := Lib.hid (BK3.out.below hb)
    obtain ⟨c3_0, c3_1, f3_0, f3_1⟩ := BK3.out.all2
    clear c4_0 c4_1 c4_2 c4_3 f4_0 f4_1 f4_2 f4_3
    replace BK4 := Lib.hid (BK4.out.below hb)
    obtain ⟨c4_0, c4_1, c4_2, c4_3, f4_0, f4_1, f4_2, f4_3⟩ := BK4.out.all4
    replace HA := Lib.hid (HA.out.below hb)
    replace HC := Lib.hid (HC.out.below hb)
    clear hb
    have HGC := Lib.hid hvg
    obtain ⟨ng, Ag, kg, cg, rfl⟩ := hvg.shape
    clear hvg
    go_wp2_with (first | ((with_reducible refine gate_dst (N := 5) rfl ?_); refine bx_event rfl (cs := #[.bool false, .slice none 0 0]) (t := 27) ?hr ?_; (case hr => first | (go_simp; done) | (go_simp; rfl)); intro g5 w5 hg bk hb; have HG5 := Lib.hid (Nat.le_trans HB.out.size hg); replace HB := Lib.hid (bth HB.out hb); have HN2_5 := Lib.hid (Nat.ne_of_lt (Nat.lt_of_lt_of_le BK2.out.lt hg)); have HN3_5 := Lib.hid (Nat.ne_of_lt (Nat.lt_of_lt_of_le BK3.out.lt hg)); have HN4_5 := Lib.hid (Nat.ne_of_lt (Nat.lt_of_lt_of_le BK4.out.lt hg)); clear c2_0 c2_1 f2_0 f2_1; replace BK2 := Lib.hid (BK2.out.below hb); obtain ⟨c2_0, c2_1, f2_0, f2_1⟩ := BK2.out.all2; clear c3_0 c3_1 f3_0 f3_1; replace BK3 := Lib.hid (BK3.out.below hb); obtain ⟨c3_0, c3_1, f3_0, f3_1⟩ := BK3.out.all2; clear c4_0 c4_1 c4_2 c4_3 f4_0 f4_1 f4_2 f4_3; replace BK4 := Lib.hid (BK4.out.below hb); obtain ⟨c4_0, c4_1, c4_2, c4_3, f4_0, f4_1, f4_2, f4_3⟩ := BK4.out.all4; replace HA := Lib.hid (HA.out.below hb); replace HC := Lib.hid (HC.out.below hb); replace HGC := Lib.hid (HGC.out.below hb); have BK5 := Lib.hid bk; obtain ⟨c5_0, c5_1, f5_0, f5_1⟩ := BK5.out.all2; clear hb hg bk))
    obtain ⟨W6, hW6⟩ : ∃ W, (w5.setCell ⟨g5, 0, none⟩ (.bool ng)).setCell ⟨g5, 1, none⟩ (.slice Ag kg cg) = W := ⟨_, rfl⟩
    have KP6 := BK5.out.kp2 (by decide) (.bool ng) (.slice Ag kg cg)
    have HI : Hid (RedI w ni Ai ki ci nj Aj kj cj ng Ag kg cg X Y (Int.gcd X Y) g4 g2 g3 g5 W6) := by
      rw [← hW6]
      exact ⟨BK2.out.far2 HN2_5.out _ _, BK3.out.far2 HN3_5.out _ _, BK5.out.put2 _ _, below_put2 HB.out HG5.out _ _, HA.out.kp KP6, HC.out.kp KP6, HGC.out.kp KP6, BK4.out.far2 HN4_5.out _ _⟩
    rw [hW6]
    clear hW6 KP6 BK2 BK3 BK4 BK5 HA HC HGC HB
    clear c2_0 f2_0 c2_1 f2_1
    clear c3_0 f3_0 c3_1 f3_1
    clear c4_0 f4_0 c4_1 f4_1 c4_2 f4_2 c4_3 f4_3
    clear c5_0 f5_0 c5_1 f5_1
    first
    | (go_region_held3 (fun w' => w'.cell? ⟨g2, 0, none⟩ = some (.bool ni) ∧ w'.cell? ⟨g2, 1, none⟩ = some (.slice Ai ki ci) ∧ w'.cell? ⟨g3, 0, none⟩ = some (.bool nj) ∧ w'.cell? ⟨g3, 1, none⟩ = some (.slice Aj kj cj) ∧ w'.cell? ⟨g5, 0, none⟩ = some (.bool ng) ∧ w'.cell? ⟨g5, 1, none⟩ = some (.slice Ag kg cg) ∧ Hid (RedI w ni Ai ki ci nj Aj kj cj ng Ag kg cg X Y (Int.gcd X Y : Int) g4 g2 g3 g5 w')) (first | exact (HI.out.below (below_drew (Below.refl _ _))).cells | exact (HQ.out.below hb).cells)
        (first | (go_at_call 136; have HQ0 := ‹_ ∧ _ ∧ _ ∧ _ ∧ _ ∧ _ ∧ Hid (RedI w ni Ai ki ci nj Aj kj cj ng Ag kg cg X Y (Int.gcd X Y : Int) g4 g2 g3 g5 _)›; have HQ := HQ0.2.2.2.2.2.2; clear HQ0; refine (p_one _).mono ?_; rintro e u ⟨v1, rfl, hv1, hb⟩; obtain ⟨m1, B1, j1, d1, rfl, HV1⟩ := RetI.shape_ hv1; clear hv1) | (go_at_call 54; have HQ0 := ‹_ ∧ _ ∧ _ ∧ _ ∧ _ ∧ _ ∧ Hid (RedI w ni Ai ki ci nj Aj kj cj ng Ag kg cg X Y (Int.gcd X Y : Int) g4 g2 g3 g5 _)›; have HQ := HQ0.2.2.2.2.2.2; clear HQ0; refine (p_cmp _ _ (Int.gcd X Y : Int) 1 _ HQ.out.2.2.2.2.2.2.1 HV1.out (n := n) HP2.out.1 HP2.out.2.1 (by have := HP.out.2.2.2; omega)).mono ?_; rintro e u ⟨rfl, hb⟩; skip)))
    | fail
    have HX := Lib.hid (HQ.out.below hb)
    have c2_0 := HX.out.1.cell 0
    have c2_1 := HX.out.1.cell 1
    have f2_0 := HX.out.1.frozen 0
    have f2_1 := HX.out.1.frozen 1
    have c3_0 := HX.out.2.1.cell 0
    have c3_1 := HX.out.2.1.cell 1
    have f3_0 := HX.out.2.1.frozen 0
    have f3_1 := HX.out.2.1.frozen 1
    have c5_0 := HX.out.2.2.1.cell 0
    have c5_1 := HX.out.2.2.1.cell 1
    have f5_0 := HX.out.2.2.1.frozen 0
    have f5_1 := HX.out.2.2.1.frozen 1
    have BK4 := Lib.hid HX.out.2.2.2.2.2.2.2
    have HB := Lib.hid HX.out.2.2.2.1
    have HA := Lib.hid HX.out.2.2.2.2.1
    have HC := Lib.hid HX.out.2.2.2.2.2.1
    have HGC := Lib.hid HX.out.2.2.2.2.2.2.1
    have BK2 := Lib.hid HX.out.1
    have BK3 := Lib.hid HX.out.2.1
    have BK5 := Lib.hid HX.out.2.2.1
    obtain ⟨c4_0, c4_1, c4_2, c4_3, f4_0, f4_1, f4_2, f4_3⟩ := BK4.out.all4
    clear HI HQ hb HX
    by_cases hg1 : (Int.gcd X Y : Int) = 1
    · have e2 : (cmp (Int.gcd X Y : Int) 1 == 0) = true := by rw [hg1]; rfl
      have HG1 := Lib.hid hg1
      clear hg1
      go_wp2_with fail
      refine bodyPost_ret (results_cell_row rfl _ _ g4 31 #[.bool ni, .slice Ai ki ci, .bool nj, .slice Aj kj cj] (0, 0) _ rfl (BK4.out.put4 _ _ _ _) Tryz.underlying31 rfl (by kernel_rfl)) rfl ?_
      have KP := BK4.out.kp4 (by decide) (.bool ni) (.slice Ai ki ci) (.bool nj) (.slice Aj kj cj)
      exact ⟨_, rfl, RR.ofParts (HA.out.kp KP) (HC.out.kp KP) (by rw [HD.out.1, HG1.out, Int.fdiv_one]) (by rw [HD.out.2, HG1.out, Int.fdiv_one]), below_put4 HB.out HG4.out _ _ _ _⟩
    · have e2 : (cmp (Int.gcd X Y : Int) 1 == 0) = false := by
        rcases Int.lt_trichotomy (Int.gcd X Y : Int) 1 with h | h | h
        · rw [cmp_lt h]; rfl
        · exact absurd h hg1
        · rw [cmp_gt h]; rfl
      clear hg1
      have hn1 := HN2_3.out
      have hn2 := HN2_3.out.symm
      have hn3 := HN2_4.out
      have hn4 := HN2_4.out.symm
      have hn5 := HN3_4.out
      have hn6 := HN3_4.out.symm
      have hn7 := HN2_5.out
      have hn8 := HN2_5.out.symm
      have hn9 := HN3_5.out
      have hn10 := HN3_5.out.symm
      go_wp2_with fail
      refine (p_divmod _ _ X (Int.gcd X Y : Int) _ HA.out HGC.out (n := n) HP.out.1 HP2.out.1 HP.out.2.2.2 HP2.out.2.2).mono ?_
      rintro e u8 ⟨v1, v2, rfl, hq1, hq2, hb⟩
      replace HB := Lib.hid (bth HB.out hb)
      clear c2_0 c2_1 f2_0 f2_1
      replace BK2 := Lib.hid (BK2.out.below hb)
      obtain ⟨c2_0, c2_1, f2_0, f2_1⟩ := BK2.out.all2
      clear c3_0 c3_1 f3_0 f3_1
      replace BK3 := Lib.hid (BK3.out.below hb)
      obtain ⟨c3_0, c3_1, f3_0, f3_1⟩ := BK3.out.all2
      clear c4_0 c4_1 c4_2 c4_3 f4_0 f4_1 f4_2 f4_3
      replace BK4 := Lib.hid (BK4.out.below hb)
      obtain ⟨c4_0, c4_1, c4_2, c4_3, f4_0, f4_1, f4_2, f4_3⟩ := BK4.out.all4
      clear c5_0 c5_1 f5_0 f5_1
      replace BK5 := Lib.hid (BK5.out.below hb)
      obtain ⟨c5_0, c5_1, f5_0, f5_1⟩ := BK5.out.all2
      replace HA := Lib.hid (HA.out.below hb)
      replace HC := Lib.hid (HC.out.below hb)
      replace HGC := Lib.hid (HGC.out.below hb)
      clear hb
      have HQ1 := Lib.hid hq1
      obtain ⟨nq, Aq, kq, cq, rfl⟩ := hq1.shape
      clear hq1 hq2
      go_wp2_with fail
      obtain ⟨W9, hW9⟩ : ∃ W, (u8.setCell ⟨g2, 0, none⟩ (.bool nq)).setCell ⟨g2, 1, none⟩ (.slice Aq kq cq) = W := ⟨_, rfl⟩
      have KP9 := BK2.out.kp2 (by decide) (.bool nq) (.slice Aq kq cq)
      have B2' : Hid (Bx W9 g2 27 #[.bool nq, .slice Aq kq cq]) := Lib.hid (hW9 ▸ BK2.out.put2 _ _)
      have B3' : Hid (Bx W9 g3 27 #[.bool nj, .slice Aj kj cj]) := Lib.hid (hW9 ▸ BK3.out.far2 hn2 _ _)
      have B4' : Hid (Bx W9 g4 31 #[.bool false, .slice none 0 0, .bool false, .slice none 0 0]) := Lib.hid (hW9 ▸ BK4.out.far2 hn4 _ _)
      have B5' : Hid (Bx W9 g5 27 #[.bool ng, .slice Ag kg cg]) := Lib.hid (hW9 ▸ BK5.out.far2 hn8 _ _)
      rw [hW9] at KP9
      have HB' : Hid (Below w.heap.size w W9) := Lib.hid (hW9 ▸ below_put2 HB.out HG2.out _ _)
      have HC' := Lib.hid (HC.out.kp KP9)
      have HGC' := Lib.hid (HGC.out.kp KP9)
      have HQ1' := Lib.hid (HQ1.out.kp KP9)
      rw [hW9]
      clear hW9 KP9 BK2 BK3 BK4 BK5 HB HA HC HGC HQ1
      clear c2_0 f2_0 c2_1 f2_1
      clear c3_0 f3_0 c3_1 f3_1
      clear c4_0 f4_0 c4_1 f4_1 c4_2 f4_2 c4_3 f4_3
      clear c5_0 f5_0 c5_1 f5_1
      have BK2 := B2'
      have BK3 := B3'
      have BK4 := B4'
      have BK5 := B5'
      have HB := HB'
      have HC := HC'
      have HGC := HGC'
      have HQ1 := HQ1'
      clear B2' B3' B4' B5' HB' HC' HGC' HQ1' 
      obtain ⟨c2_0, c2_1, f2_0, f2_1⟩ := BK2.out.all2
      obtain ⟨c3_0, c3_1, f3_0, f3_1⟩ := BK3.out.all2
      obtain ⟨c4_0, c4_1, c4_2, c4_3, f4_0, f4_1, f4_2, f4_3⟩ := BK4.out.all4
      obtain ⟨c5_0, c5_1, f5_0, f5_1⟩ := BK5.out.all2
      refine (p_divmod _ _ Y (Int.gcd X Y : Int) _ HC.out HGC.out (n := n) HP.out.2.1 HP2.out.1 HP.out.2.2.2 HP2.out.2.2).mono ?_
      rintro e u9 ⟨v3, v4, rfl, hq1, hq2, hb⟩
      replace HB := Lib.hid (bth HB.out hb)
      clear c2_0 c2_1 f2_0 f2_1
      replace BK2 := Lib.hid (BK2.out.below hb)
      obtain ⟨c2_0, c2_1, f2_0, f2_1⟩ := BK2.out.all2
      clear c3_0 c3_1 f3_0 f3_1
      replace BK3 := Lib.hid (BK3.out.below hb)
      obtain ⟨c3_0, c3_1, f3_0, f3_1⟩ := BK3.out.all2
      clear c4_0 c4_1 c4_2 c4_3 f4_0 f4_1 f4_2 f4_3
      replace BK4 := Lib.hid (BK4.out.below hb)
      obtain ⟨c4_0, c4_1, c4_2, c4_3, f4_0, f4_1, f4_2, f4_3⟩ := BK4.out.all4
      clear c5_0 c5_1 f5_0 f5_1
      replace BK5 := Lib.hid (BK5.out.below hb)
      obtain ⟨c5_0, c5_1, f5_0, f5_1⟩ := BK5.out.all2
      replace HC := Lib.hid (HC.out.below hb)
      replace HGC := Lib.hid (HGC.out.below hb)
      replace HQ1 := Lib.hid (HQ1.out.below hb)
      clear hb
      have HR1 := Lib.hid hq1
      obtain ⟨nr, Ar, kr, cr, rfl⟩ := hq1.shape
      clear hq1 hq2
      have KP10 := BK3.out.kp2 (by decide) (.bool nr) (.slice Ar kr cr)
      have BK4c := Lib.hid (BK4.out.far2 hn6 (.bool nr) (.slice Ar kr cr))
      have HBc := Lib.hid (below_put2 HB.out HG3.out (.bool nr) (.slice Ar kr cr))
      have HQc := Lib.hid (HQ1.out.kp KP10)
      have HRc := Lib.hid (HR1.out.kp KP10)
      clear KP10
      go_wp2_with fail
      refine bodyPost_ret (results_cell_row rfl _ _ g4 31 #[.bool nq, .slice Aq kq cq, .bool nr, .slice Ar kr cr] (0, 0) _ rfl (BK4c.out.put4 _ _ _ _) Tryz.underlying31 rfl (by kernel_rfl)) rfl ?_
      have KP := BK4c.out.kp4 (by decide) (.bool nq) (.slice Aq kq cq) (.bool nr) (.slice Ar kr cr)
      exact ⟨_, rfl, RR.ofParts (HQc.out.kp KP) (HRc.out.kp KP) HD.out.1.symm HD.out.2.symm, below_put4 HBc.out HG4.out _ _ _ _⟩
end Go.Proofs.YtapckjeedekphaaGreatDoor

namespace Go.Proofs.YtapckjeedekphaaGreatDoor
open Go.RowKit Go.Proofs.YtapckjeedekphaaGreatDoorW.PrintWords PR
theorem p_reduced (va vb : Value) (x y : Int) (w : World) (ha : RI w va x) (hb : RI w vb y) {n : Nat} (hx : Td n x) (hy : Td n y) (h0 : y ≠ 0) (hn : n ≤ 900000) (hn1 : 1 ≤ n) : Calls Tryz.prog 125 #[va, vb] w (RetR w (Rat.divInt x y)) := by
  by_cases h : 0 < y
  · exact p_reduced_pos va vb x y w ha hb hx hy h hn hn1
  · rw [← divInt_neg2 x y]
    exact p_reduced_neg va vb (-x) (-y) w (ha.cast (by omega)) (hb.cast (by omega)) (Td_neg hx) (Td_neg hy) (by omega) hn hn1
theorem RR.num {w : World} {n1 n2 : Bool} {A1 A2 : Option Addr} {k1 c1 k2 c2 : Nat} {q : Rat} (h : RR w (.agg #[.bool n1, .slice A1 k1 c1, .bool n2, .slice A2 k2 c2]) q) : RI w (.agg #[.bool n1, .slice A1 k1 c1]) q.num := by
  obtain ⟨m1, B1, j1, d1, m2, B2, j2, d2, z, e, h1, _⟩ := h
  injection e with e
  simp only [Array.mk.injEq, List.cons.injEq, Value.bool.injEq, Value.slice.injEq, and_true] at e
  obtain ⟨rfl, ⟨rfl, rfl, rfl⟩, _⟩ := e
  exact h1
set_option maxHeartbeats 800000 in
theorem p_make (va vb : Value) (x y : Int) (w : World) (ha : RI w va x) (hb : RI w vb y) {n : Nat} (hx : Td n x) (hy : Td n y) (hn : n ≤ 900000) (hn1 : 1 ≤ n) : Calls Tryz.prog 27 #[va, vb] w (RetRE w (if y = 0 then 0 else Rat.divInt x y) (if y = 0 then 19 else 0)) := by
  obtain ⟨nx, Ax, kx, cx, rfl⟩ := ha.shape
  obtain ⟨ny, Ay, ky, cy, rfl⟩ := hb.shape
  have HA := Lib.hid ha
  have HC := Lib.hid hb
  have HP := Lib.hid (And.intro hx (And.intro hy (And.intro hn hn1)))
  clear ha hb hx hy hn hn1
  by_cases h0 : y = 0
  · have e1 : (cmp y 0 == 0) = true := by rw [h0]; rfl
    have H0 := Lib.hid h0
    clear h0
    rw [if_pos H0.out, if_pos H0.out]
    have HB := Lib.hid (Below.refl w.heap.size w)
    go_enter Tryz.func27, Tryz.ntmps27
    go_wp2_with (first | ((with_reducible refine gate_dst (N := 2) rfl ?_); refine bx_event rfl (cs := #[.bool nx, .slice Ax kx cx]) (t := 27) ?hr ?_; (case hr => first | (go_simp; done) | (go_simp; rfl)); intro g2 w2 hg bk hb; have HG2 := Lib.hid (Nat.le_trans HB.out.size hg); replace HB := Lib.hid (bth HB.out hb); replace HA := Lib.hid (HA.out.below hb); replace HC := Lib.hid (HC.out.below hb); have BK2 := Lib.hid bk; obtain ⟨c2_0, c2_1, f2_0, f2_1⟩ := BK2.out.all2; clear hb hg bk) | ((with_reducible refine gate_dst (N := 3) rfl ?_); refine bx_event rfl (cs := #[.bool ny, .slice Ay ky cy]) (t := 27) ?hr ?_; (case hr => first | (go_simp; done) | (go_simp; rfl)); intro g3 w3 hg bk hb; have HG3 := Lib.hid (Nat.le_trans HB.out.size hg); replace HB := Lib.hid (bth HB.out hb); have HN2_3 := Lib.hid (Nat.ne_of_lt (Nat.lt_of_lt_of_le BK2.out.lt hg)); clear c2_0 c2_1 f2_0 f2_1; replace BK2 := Lib.hid (BK2.out.below hb); obtain ⟨c2_0, c2_1, f2_0, f2_1⟩ := BK2.out.all2; replace HA := Lib.hid (HA.out.below hb); replace HC := Lib.hid (HC.out.below hb); have BK3 := Lib.hid bk; obtain ⟨c3_0, c3_1, f3_0, f3_1⟩ := BK3.out.all2; clear hb hg bk) | ((with_reducible refine gate_dst (N := 4) rfl ?_); refine bx_event rfl (cs := #[.bool false, .slice none 0 0, .bool false, .slice none 0 0]) (t := 31) ?hr ?_; (case hr => first | (go_simp; done) | (go_simp; rfl)); intro g4 w4 hg bk hb; have HG4 := Lib.hid (Nat.le_trans HB.out.size hg); replace HB := Lib.hid (bth HB.out hb); have HN2_4 := Lib.hid (Nat.ne_of_lt (Nat.lt_of_lt_of_le BK2.out.lt hg)); have HN3_4 := Lib.hid (Nat.ne_of_lt (Nat.lt_of_lt_of_le BK3.out.lt hg)); clear c2_0 c2_1 f2_0 f2_1; replace BK2 := Lib.hid (BK2.out.below hb); obtain ⟨c2_0, c2_1, f2_0, f2_1⟩ := BK2.out.all2; clear c3_0 c3_1 f3_0 f3_1; replace BK3 := Lib.hid (BK3.out.below hb); obtain ⟨c3_0, c3_1, f3_0, f3_1⟩ := BK3.out.all2; replace HA := Lib.hid (HA.out.below hb); replace HC := Lib.hid (HC.out.below hb); have BK4 := Lib.hid bk; obtain ⟨c4_0, c4_1, c4_2, c4_3, f4_0, f4_1, f4_2, f4_3⟩ := BK4.out.all4; clear hb hg bk))
    refine (p_sign _ y _ HC.out).mono ?_
    rintro e u1 ⟨rfl, hb⟩
    replace HB := Lib.hid (bth HB.out hb)
    clear c2_0 c2_1 f2_0 f2_1
    replace BK2 := Lib.hid (BK2.out.below hb)
    obtain ⟨c2_0, c2_1, f2_0, f2_1⟩ := BK2.out.all2
    clear c3_0 c3_1 f3_0 f3_1
    replace BK3 := Lib.hid (BK3.out.below hb)
    obtain ⟨c3_0, c3_1, f3_0, f3_1⟩ := BK3.out.all2
    clear c4_0 c4_1 c4_2 c4_3 f4_0 f4_1 f4_2 f4_3
    replace BK4 := Lib.hid (BK4.out.below hb)
    obtain ⟨c4_0, c4_1, c4_2, c4_3, f4_0, f4_1, f4_2, f4_3⟩ := BK4.out.all4
    replace HA := Lib.hid (HA.out.below hb)
    replace HC := Lib.hid (HC.out.below hb)
    clear hb
    go_wp2_with fail
    refine bodyPost_ret (results_cell1 rfl _ _ g4 31 #[.bool false, .slice none 0 0, .bool false, .slice none 0 0] (0, 0) _ rfl (BK4.out.put4 _ _ _ _) Tryz.underlying31 rfl (by kernel_rfl)) rfl ?_
    exact ⟨_, rfl, RR.zero _, below_put4 HB.out HG4.out _ _ _ _⟩
  · have e1 : (cmp y 0 == 0) = false := by rw [cmp_zero]; exact decide_eq_false h0
    have H0 := Lib.hid h0
    clear h0
    rw [if_neg H0.out, if_neg H0.out]
    have HB := Lib.hid (Below.refl w.heap.size w)
    go_enter Tryz.func27, Tryz.ntmps27
    go_wp2_with (first | ((with_reducible refine gate_dst (N := 2) rfl ?_); refine bx_event rfl (cs := #[.bool nx, .slice Ax kx cx]) (t := 27) ?hr ?_; (case hr => first | (go_simp; done) | (go_simp; rfl)); intro g2 w2 hg bk hb; have HG2 := Lib.hid (Nat.le_trans HB.out.size hg); replace HB := Lib.hid (bth HB.out hb); replace HA := Lib.hid (HA.out.below hb); replace HC := Lib.hid (HC.out.below hb); have BK2 := Lib.hid bk; obtain ⟨c2_0, c2_1, f2_0, f2_1⟩ := BK2.out.all2; clear hb hg bk) | ((with_reducible refine gate_dst (N := 3) rfl ?_); refine bx_event rfl (cs := #[.bool ny, .slice Ay ky cy]) (t := 27) ?hr ?_; (case hr => first | (go_simp; done) | (go_simp; rfl)); intro g3 w3 hg bk hb; have HG3 := Lib.hid (Nat.le_trans HB.out.size hg); replace HB := Lib.hid (bth HB.out hb); have HN2_3 := Lib.hid (Nat.ne_of_lt (Nat.lt_of_lt_of_le BK2.out.lt hg)); clear c2_0 c2_1 f2_0 f2_1; replace BK2 := Lib.hid (BK2.out.below hb); obtain ⟨c2_0, c2_1, f2_0, f2_1⟩ := BK2.out.all2; replace HA := Lib.hid (HA.out.below hb); replace HC := Lib.hid (HC.out.below hb); have BK3 := Lib.hid bk; obtain ⟨c3_0, c3_1, f3_0, f3_1⟩ := BK3.out.all2; clear hb hg bk) | ((with_reducible refine gate_dst (N := 4) rfl ?_); refine bx_event rfl (cs := #[.bool false, .slice none 0 0, .bool false, .slice none 0 0]) (t := 31) ?hr ?_; (case hr => first | (go_simp; done) | (go_simp; rfl)); intro g4 w4 hg bk hb; have HG4 := Lib.hid (Nat.le_trans HB.out.size hg); replace HB := Lib.hid (bth HB.out hb); have HN2_4 := Lib.hid (Nat.ne_of_lt (Nat.lt_of_lt_of_le BK2.out.lt hg)); have HN3_4 := Lib.hid (Nat.ne_of_lt (Nat.lt_of_lt_of_le BK3.out.lt hg)); clear c2_0 c2_1 f2_0 f2_1; replace BK2 := Lib.hid (BK2.out.below hb); obtain ⟨c2_0, c2_1, f2_0, f2_1⟩ := BK2.out.all2; clear c3_0 c3_1 f3_0 f3_1; replace BK3 := Lib.hid (BK3.out.below hb); obtain ⟨c3_0, c3_1, f3_0, f3_1⟩ := BK3.out.all2; replace HA := Lib.hid (HA.out.below hb); replace HC := Lib.hid (HC.out.below hb); have BK4 := Lib.hid bk; obtain ⟨c4_0, c4_1, c4_2, c4_3, f4_0, f4_1, f4_2, f4_3⟩ := BK4.out.all4; clear hb hg bk))
    refine (p_sign _ y _ HC.out).mono ?_
    rintro e u1 ⟨rfl, hb⟩
    replace HB := Lib.hid (bth HB.out hb)
    clear c2_0 c2_1 f2_0 f2_1
    replace BK2 := Lib.hid (BK2.out.below hb)
    obtain ⟨c2_0, c2_1, f2_0, f2_1⟩ := BK2.out.all2
    clear c3_0 c3_1 f3_0 f3_1
    replace BK3 := Lib.hid (BK3.out.below hb)
    obtain ⟨c3_0, c3_1, f3_0, f3_1⟩ := BK3.out.all2
    clear c4_0 c4_1 c4_2 c4_3 f4_0 f4_1 f4_2 f4_3
    replace BK4 := Lib.hid (BK4.out.below hb)
    obtain ⟨c4_0, c4_1, c4_2, c4_3, f4_0, f4_1, f4_2, f4_3⟩ := BK4.out.all4
    replace HA := Lib.hid (HA.out.below hb)
    replace HC := Lib.hid (HC.out.below hb)
    clear hb
    go_wp2_with fail
    refine (p_reduced _ _ x y _ HA.out HC.out HP.out.1 HP.out.2.1 H0.out HP.out.2.2.1 HP.out.2.2.2).mono ?_
    rintro e u2 ⟨vr, rfl, hvr, hb⟩
    replace HB := Lib.hid (bth HB.out hb)
    clear c2_0 c2_1 f2_0 f2_1
    replace BK2 := Lib.hid (BK2.out.below hb)
    obtain ⟨c2_0, c2_1, f2_0, f2_1⟩ := BK2.out.all2
    clear c3_0 c3_1 f3_0 f3_1
    replace BK3 := Lib.hid (BK3.out.below hb)
    obtain ⟨c3_0, c3_1, f3_0, f3_1⟩ := BK3.out.all2
    clear c4_0 c4_1 c4_2 c4_3 f4_0 f4_1 f4_2 f4_3
    replace BK4 := Lib.hid (BK4.out.below hb)
    obtain ⟨c4_0, c4_1, c4_2, c4_3, f4_0, f4_1, f4_2, f4_3⟩ := BK4.out.all4
    replace HA := Lib.hid (HA.out.below hb)
    replace HC := Lib.hid (HC.out.below hb)
    clear hb
    have Hr := Lib.hid hvr
    obtain ⟨nr1, Ar1, kr1, cr1, nr2, Ar2, kr2, cr2, rfl⟩ := hvr.shape
    clear hvr
    go_wp2_with fail
    refine bodyPost_ret (results_cell1 rfl _ _ g4 31 #[.bool nr1, .slice Ar1 kr1 cr1, .bool nr2, .slice Ar2 kr2 cr2] (0, 0) _ rfl (BK4.out.put4 _ _ _ _) Tryz.underlying31 rfl (by kernel_rfl)) rfl ?_
    have KP := BK4.out.kp4 (by decide) (.bool nr1) (.slice Ar1 kr1 cr1) (.bool nr2) (.slice Ar2 kr2 cr2)
    exact ⟨_, rfl, Hr.out.kp KP, below_put4 (HB.out) HG4.out _ _ _ _⟩
theorem RR.ofInt {w : World} {n1 : Bool} {A1 : Option Addr} {k1 c1 : Nat} {x : Int} (h1 : RI w (.agg #[.bool n1, .slice A1 k1 c1]) x) : RR w (.agg #[.bool n1, .slice A1 k1 c1, .bool false, .slice none 0 0]) (x : Rat) :=
  ⟨n1, A1, k1, c1, false, none, 0, 0, 0, rfl, h1, RI.zero w, .inr ⟨rfl, rfl⟩⟩
end Go.Proofs.YtapckjeedekphaaGreatDoor

