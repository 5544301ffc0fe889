/- Part 1 of the walk: our own texts for this claim, in order. -/
import Derived.Test.YtapckjeedekphaaGreatDoorMb6
import Derived.Shelf.Strings.Builder1
import Derived.Shelf.Strings.Builder2
import Derived.Shelf.Strings.OnBuilder
import Derived.Shelf.Strings.Trim
import Derived.Shelf.Small.Bits
import Derived.Shelf.Small.Strs
import Derived.Shelf.Small.Wraps
import Derived.Shelf.Strconv.Itoa0
import Derived.Shelf.Strconv.Itoa1
import Derived.Shelf.LaysM
import Derived.Shelf.Strconv.Itoa2
import Derived.Shelf.Strconv.Itoa3
import Derived.Shelf.LaysC
import Derived.Shelf.Strconv.ParseUint10b32
import Derived.Ground.MpProg
import Derived.Shelf.Pu.ParseUintPublic10
import Derived.Shelf.Strings.Search1
import Derived.Shelf.Strings.Search2
import Derived.Shelf.Strings.Cut
import Derived.Shelf.GgClosure.StringsIndexFunc
import Derived.Ground.GgwProg
import Derived.Shelf.GgClosure.StringsIndexFuncTop
import Derived.Shelf.Strings.Prefix
import Derived.Shelf.Strings.Repeat
import Derived.Shelf.Unicode.DecodeAny
import Derived.Shelf.Strings.FuncGrows
import Derived.Shelf.Slices.ReverseS
import Derived.Shelf.Slices.Cells
import Derived.Ground.SlgnProg
import Derived.Shelf.SlicesE.Clone
import Derived.Shelf.Strings.SlTrimAscii
import Derived.Lib.SlTrimSet
import Derived.Lib.IndexMore
import Derived.Below
import Derived.Deep.Draws
import Derived.Deep.AppendLies
import Derived.Maps.AppendAt
import Derived.OwnWalk
import Derived.Laws.BytesArg
import Derived.Laws.MakeOwn
import Derived.Laws.OwnMore
import Derived.Deep.OwnRows
import Derived.Tactics
import Derived.Lib.ConvBytes
import Derived.Laws.Slices
import Derived.WalkKit
import Derived.KernelRfl
import Derived.RowKit3
import Derived.Deep.LoopGhost
import Derived.Deep.QuietTactic
import Derived.BigQuiet
import Derived.WideLaws
import Derived.Deep.DeepCutAuto
import Derived.Deep.CutBlock
import Derived.Deep.RegionHeld3
import Derived.Laws.Rows
import Derived.Lib.AppendStr
import Derived.ArgAppend
import Derived.Laws.IdiomCopy
import Derived.RowKit
import Derived.Lib.IndexBytes
import Derived.WideShapes
import Derived.Lib.Hide
import Derived.Outline
import Derived.WalkLawsBesides
import Derived.Laws.BitsAllLaws
namespace Go.Proofs
open Go.Shelf
def Tryz.lays160_ren : Go.Shelf.Ren := ⟨fun | 160 => 179 | 232 => 202 | 231 => 201 | 227 => 203 | 234 => 205 | 233 => 204 | 236 => 207 | 235 => 206 | 228 => 221 | 271 => 224 | 151 => 223 | 197 => 222 | 120 => 238 | 152 => 237 | 260 => 236 | 137 => 243 | 119 => 244 | 224 => 234 | 225 => 233 | 217 => 232 | 266 => 241 | n => n, fun | 9 => 9 | 4 => 4 | 3 => 3 | 5 => 5 | 117 => 204 | 116 => 203 | 0 => 0 | 124 => 207 | 21 => 21 | 105 => 223 | 46 => 160 | 119 => 238 | 139 => 241 | 138 => 240 | n => n, fun | 3 => 4 | 4 => 5 | n => n⟩

theorem Tryz.lays160 : Go.Proofs.Lays.n160 Tryz.prog Tryz.lays160_ren := {
  mixed := by kernel_rfl
  f119 := Tryz.func244.trans (congrArg some (by kernel_rfl))
  f120 := Tryz.func238.trans (congrArg some (by kernel_rfl))
  f137 := Tryz.func243.trans (congrArg some (by kernel_rfl))
  f151 := Tryz.func223.trans (congrArg some (by kernel_rfl))
  f152 := Tryz.func237.trans (congrArg some (by kernel_rfl))
  f160 := Tryz.func179.trans (congrArg some (by kernel_rfl))
  f197 := Tryz.func222.trans (congrArg some (by kernel_rfl))
  f217 := Tryz.func232.trans (congrArg some (by kernel_rfl))
  f224 := Tryz.func234.trans (congrArg some (by kernel_rfl))
  f225 := Tryz.func233.trans (congrArg some (by kernel_rfl))
  f227 := Tryz.func203.trans (congrArg some (by kernel_rfl))
  f228 := Tryz.func221.trans (congrArg some (by kernel_rfl))
  f231 := Tryz.func201.trans (congrArg some (by kernel_rfl))
  f232 := Tryz.func202.trans (congrArg some (by kernel_rfl))
  f233 := Tryz.func204.trans (congrArg some (by kernel_rfl))
  f234 := Tryz.func205.trans (congrArg some (by kernel_rfl))
  f235 := Tryz.func206.trans (congrArg some (by kernel_rfl))
  f236 := Tryz.func207.trans (congrArg some (by kernel_rfl))
  f260 := Tryz.func236.trans (congrArg some (by kernel_rfl))
  f266 := Tryz.func241.trans (congrArg some (by kernel_rfl))
  f271 := Tryz.func224.trans (congrArg some (by kernel_rfl))
  t0 := Tryz.underlying0
  a0 := Tryz.isAgg0
  z0 := Tryz.sizeOf0
  v0 := Tryz.zeroValue0
  t3 := Tryz.underlying3
  a3 := Tryz.isAgg3
  z3 := Tryz.sizeOf3
  v3 := Tryz.zeroValue3
  t4 := Tryz.underlying4
  a4 := Tryz.isAgg4
  z4 := Tryz.sizeOf4
  v4 := Tryz.zeroValue4
  t5 := Tryz.underlying5
  a5 := Tryz.isAgg5
  z5 := Tryz.sizeOf5
  v5 := Tryz.zeroValue5
  t9 := Tryz.underlying9
  a9 := Tryz.isAgg9
  z9 := Tryz.sizeOf9
  v9 := Tryz.zeroValue9
  t21 := Tryz.underlying21
  a21 := Tryz.isAgg21
  z21 := Tryz.sizeOf21
  v21 := Tryz.zeroValue21
  t46 := Tryz.underlying160
  a46 := Tryz.isAgg160
  z46 := Tryz.sizeOf160
  v46 := Tryz.zeroValue160
  t105 := Tryz.underlying223
  a105 := Tryz.isAgg223
  z105 := Tryz.sizeOf223
  v105 := Tryz.zeroValue223
  t116 := Tryz.underlying203
  a116 := Tryz.isAgg203
  z116 := Tryz.sizeOf203
  t117 := Tryz.underlying204
  a117 := Tryz.isAgg204
  z117 := Tryz.sizeOf204
  v117 := Tryz.zeroValue204
  t119 := Tryz.underlying238
  a119 := Tryz.isAgg238
  z119 := Tryz.sizeOf238
  t124 := Tryz.underlying207
  a124 := Tryz.isAgg207
  z124 := Tryz.sizeOf207
  v124 := Tryz.zeroValue207
  t138 := Tryz.underlying240
  a138 := Tryz.isAgg240
  z138 := Tryz.sizeOf240
  v138 := Tryz.zeroValue240
  t139 := Tryz.underlying241
  a139 := Tryz.isAgg241
  z139 := Tryz.sizeOf241
  v139 := Tryz.zeroValue241
  g3 := by kernel_rfl
  g4 := by kernel_rfl }

def Tryz.lays145_ren : Go.Shelf.Ren := ⟨fun | 145 => 176 | 220 => 199 | 219 => 220 | 217 => 232 | 225 => 233 | 224 => 234 | 267 => 235 | 266 => 241 | 314 => 242 | n => n, fun | 9 => 9 | 4 => 4 | 59 => 184 | 3 => 3 | 5 => 5 | 46 => 160 | 146 => 196 | 51 => 140 | n => n, fun | 1 => 3 | n => n⟩

theorem Tryz.lays145 : Go.Proofs.Lays.n145 Tryz.prog Tryz.lays145_ren := {
  mixed := by kernel_rfl
  f145 := Tryz.func176.trans (congrArg some (by kernel_rfl))
  f217 := Tryz.func232.trans (congrArg some (by kernel_rfl))
  f219 := Tryz.func220.trans (congrArg some (by kernel_rfl))
  f220 := Tryz.func199.trans (congrArg some (by kernel_rfl))
  f224 := Tryz.func234.trans (congrArg some (by kernel_rfl))
  f225 := Tryz.func233.trans (congrArg some (by kernel_rfl))
  f266 := Tryz.func241.trans (congrArg some (by kernel_rfl))
  f267 := Tryz.func235.trans (congrArg some (by kernel_rfl))
  f314 := Tryz.func242.trans (congrArg some (by kernel_rfl))
  t3 := Tryz.underlying3
  a3 := Tryz.isAgg3
  z3 := Tryz.sizeOf3
  v3 := Tryz.zeroValue3
  t4 := Tryz.underlying4
  a4 := Tryz.isAgg4
  z4 := Tryz.sizeOf4
  v4 := Tryz.zeroValue4
  t5 := Tryz.underlying5
  a5 := Tryz.isAgg5
  z5 := Tryz.sizeOf5
  v5 := Tryz.zeroValue5
  t9 := Tryz.underlying9
  a9 := Tryz.isAgg9
  z9 := Tryz.sizeOf9
  v9 := Tryz.zeroValue9
  t46 := Tryz.underlying160
  a46 := Tryz.isAgg160
  z46 := Tryz.sizeOf160
  v46 := Tryz.zeroValue160
  t51 := Tryz.underlying140
  a51 := Tryz.isAgg140
  z51 := Tryz.sizeOf140
  v51 := Tryz.zeroValue140
  t59 := Tryz.underlying184
  a59 := Tryz.isAgg184
  z59 := Tryz.sizeOf184
  v59 := Tryz.zeroValue184
  t146 := Tryz.underlying196
  a146 := Tryz.isAgg196
  z146 := Tryz.sizeOf196
  v146 := Tryz.zeroValue196
  g1 := by kernel_rfl }

open Go.RowKit Go.Lib in
theorem Tryz.strings_Cut (s sep : ByteArray) (m : Int) (w : World) (hs : s.size < 4294967281) (hm : w.cell? ⟨3, 0, none⟩ = some (.int .i64 m)) :
    Calls Tryz.prog 176 #[.string s, .string sep] w fun e w' => e = .returned (.tuple #[.string ⟨(Lib.cut s.data.toList sep.data.toList).1.toArray⟩, .string ⟨(Lib.cut s.data.toList sep.data.toList).2.1.toArray⟩, .bool (Lib.cut s.data.toList sep.data.toList).2.2]) ∧ ∃ n, w' = w.drewN n := Any.strings_Cut Tryz.lays145 s sep m w hs hm

def Tryz.lays101_ren : Go.Shelf.Ren := ⟨fun | 101 => 178 | 208 => 200 | 206 => 186 | n => n, fun | 9 => 9 | 4 => 4 | 3 => 3 | n => n, fun | n => n⟩

theorem Tryz.lays101 : Go.Proofs.Lays.n101 Tryz.prog Tryz.lays101_ren := {
  mixed := by kernel_rfl
  f101 := Tryz.func178.trans (congrArg some (by kernel_rfl))
  f206 := Tryz.func186.trans (congrArg some (by kernel_rfl))
  f208 := Tryz.func200.trans (congrArg some (by kernel_rfl))
  t3 := Tryz.underlying3
  a3 := Tryz.isAgg3
  z3 := Tryz.sizeOf3
  v3 := Tryz.zeroValue3
  t4 := Tryz.underlying4
  a4 := Tryz.isAgg4
  z4 := Tryz.sizeOf4
  v4 := Tryz.zeroValue4
  t9 := Tryz.underlying9
  a9 := Tryz.isAgg9
  z9 := Tryz.sizeOf9
  v9 := Tryz.zeroValue9 }

open Go.RowKit Go.Lib in
theorem Tryz.strings_TrimPrefix (s p : ByteArray) (w : World) :
    Calls Tryz.prog 178 #[.string s, .string p] w fun e w' => e = .returned (.string ⟨(Lib.trimPrefix s.data.toList p.data.toList).toArray⟩) ∧ w' = w := Any.strings_TrimPrefix Tryz.lays101 s p w

end Go.Proofs
namespace Go.Proofs
open Go.RowKit in
theorem Tryz.strings_Trim_ascii (s cutset : ByteArray) (w : World) (hs : s.size ≤ 9223372036854775807) (hcs : cutset.size < 4294967281) (hascii : ∀ (j : Nat) b, cutset.data.toList[j]? = some b → b.toNat < 128) :
    Calls Tryz.prog 179 #[.string s, .string cutset] w fun e w' => e = .returned (.string ⟨(Lib.trimS s.data.toList cutset.data.toList).toArray⟩) ∧ Below w.heap.size w w' := Any.strings_Trim_laid Tryz.lays160 (by kernel_rfl) s cutset w hs hcs hascii
end Go.Proofs


namespace Go.Proofs.YtapckjeedekphaaGreatDoor
open Go
section
variable {P : Program} {ops : Array Oper} {Q : Exit → Act → World → Prop} {md : Region.Mode} {S1 S2 : World → Prop} {k1 k2 : Nat}
theorem wpM1 {i : Nat} {oi : Oper} {v : Value} {fuel : Nat} {listed : Array Bool} {a : Act} {w : World} (d : Option Tmp) (hi : ops[i]? = some oi) (hd : oi.dst = d)
    (hc : (Region.noSelect ops && Region.free md ops listed i && (Region.ready md ops listed).contains i && !(k1 == i) && !(k2 == i) && waits md ops k1 i && !listed.getD k1 false) = true)
    (hQ : ∀ c a w, Q (.panic c) (a.put d v) w → Q (.panic c) a w) (hS : cnd k1 S1 k2 S2 listed w) (hy : YieldsIf P ops S1 oi v a)
    (h : cnd k1 S1 k2 S2 (listed.setIfInBounds i true) w → wpL P md ops Q k1 S1 k2 S2 fuel (listed.setIfInBounds i true) (a.put d v) w) : wpL P md ops Q k1 S1 k2 S2 (fuel + 1) listed a w := by
  subst hd
  exact wpL_take1 hi hc hQ hS hy h
theorem wpM2 {i : Nat} {oi : Oper} {v : Value} {fuel : Nat} {listed : Array Bool} {a : Act} {w : World} (d : Option Tmp) (hi : ops[i]? = some oi) (hd : oi.dst = d)
    (hc : (Region.noSelect ops && Region.free md ops listed i && (Region.ready md ops listed).contains i && !(k1 == i) && !(k2 == i) && waits md ops k2 i && !listed.getD k2 false) = true)
    (hQ : ∀ c a w, Q (.panic c) (a.put d v) w → Q (.panic c) a w) (hS : cnd k1 S1 k2 S2 listed w) (hy : YieldsIf P ops S2 oi v a)
    (h : cnd k1 S1 k2 S2 (listed.setIfInBounds i true) w → wpL P md ops Q k1 S1 k2 S2 fuel (listed.setIfInBounds i true) (a.put d v) w) : wpL P md ops Q k1 S1 k2 S2 (fuel + 1) listed a w := by
  subst hd
  exact wpL_take2 hi hc hQ hS hy h
end
end Go.Proofs.YtapckjeedekphaaGreatDoor

namespace Go.Proofs.YtapckjeedekphaaGreatDoor
theorem dropWhile_all {p : UInt8 → Bool} : ∀ l : List UInt8, (l.dropWhile p = []) ↔ l.all p = true
  | [] => by simp
  | b :: l => by
    rw [List.dropWhile_cons, List.all_cons]
    by_cases h : p b = true
    · rw [if_pos h, h, Bool.true_and]; exact dropWhile_all l
    · rw [if_neg h, Bool.eq_false_iff.2 h, Bool.false_and]; simp
theorem dropWhile_head {p : UInt8 → Bool} : ∀ (l : List UInt8) (b : UInt8) (r : List UInt8), l.dropWhile p = b :: r → p b = false
  | [], _, _, h => by simp at h
  | c :: l, b, r, h => by
    rw [List.dropWhile_cons] at h
    by_cases hc : p c = true
    · rw [if_pos hc] at h; exact dropWhile_head l b r h
    · rw [if_neg hc] at h
      injection h with h1 _
      rw [← h1]; exact Bool.eq_false_iff.2 hc
theorem trimS_nil (l cs : List UInt8) : (Lib.trimS l cs = []) ↔ l.all (cs.contains ·) = true := by
  unfold Lib.trimS Lib.trimLeftS Lib.trimRightS
  rw [dropWhile_all, List.all_reverse]
  constructor
  · intro h
    cases hr : l.reverse.dropWhile (cs.contains ·) with
    | nil => rw [dropWhile_all, List.all_reverse] at hr; exact hr
    | cons b r =>
      have h1 := dropWhile_head _ _ _ hr
      rw [hr, List.all_cons, h1] at h
      exact absurd h (by simp)
  · intro h
    have : l.reverse.dropWhile (cs.contains ·) = [] := by rw [dropWhile_all, List.all_reverse]; exact h
    rw [this]; rfl
/-- The ten digits. -/
abbrev ten : List UInt8 := [48, 49, 50, 51, 52, 53, 54, 55, 56, 57]
theorem ten_dig (b : UInt8) : ten.contains b = isDig b := by
  have h : ∀ n : Fin 256, ten.contains (UInt8.ofFin n) = isDig (UInt8.ofFin n) := by decide +kernel
  exact h b.toFin
theorem trim_ten (l : List UInt8) : (Lib.trimS l ten = []) ↔ l.all isDig = true := by
  rw [trimS_nil]
  have : (fun b => ten.contains b) = isDig := funext ten_dig
  rw [this]
theorem trim_zero (l : List UInt8) : (Lib.trimS l [48] = []) ↔ l.all (· == 48) = true := by
  rw [trimS_nil]
  have : (fun b : UInt8 => [48].contains b) = (· == 48) := funext fun b => by
    show (b == 48 || false) = (b == 48)
    rw [Bool.or_false]
  rw [this]
theorem index_sl : ∀ l : List UInt8, Lib.index l [47] = if hasSl l = true then ((pre l).length : Int) else -1
  | [] => rfl
  | b :: l => by
    unfold Lib.index
    by_cases h : b = 47
    · subst h
      have e : pre (47 :: l) = [] := rfl
      have e2 : hasSl (47 :: l) = true := by unfold hasSl; rw [e]; simp
      rw [e2, e]; simp [List.isPrefixOf]
    · have e : pre (b :: l) = b :: pre l := by
        unfold pre
        rw [List.takeWhile_cons, if_pos (by simpa using h)]
      have e2 : hasSl (b :: l) = hasSl l := by unfold hasSl; rw [e]; simp
      have e3 : [47].isPrefixOf (b :: l) = false := by
        have h' : ¬ (47 : UInt8) = b := fun x => h x.symm
        simp [List.isPrefixOf, h']
      rw [e3, index_sl l, e2, e]
      by_cases hs : hasSl l = true
      · rw [if_pos hs, if_pos hs]
        have : (((pre l).length : Int) == -1) = false := by rw [beq_eq_false_iff_ne]; omega
        rw [this]; simp
      · rw [if_neg hs, if_neg hs]; simp
theorem pre_whole {l : List UInt8} (h : hasSl l = false) : pre l = l := by
  have h1 := (pre_take l).1
  unfold hasSl at h
  have h2 := of_decide_eq_false h
  rw [h1, List.take_of_length_le (by omega)]
theorem cut_sl (l : List UInt8) : Lib.cut l [47] = (pre l, if hasSl l = true then post l else [], hasSl l) := by
  unfold Lib.cut
  rw [index_sl]
  by_cases hs : hasSl l = true
  · rw [if_pos hs, if_pos (by omega), if_pos hs, hs]
    have e : ((pre l).length : Int).toNat = (pre l).length := by omega
    rw [e, ← (pre_take l).1]
    rfl
  · have hf := Bool.eq_false_iff.2 hs
    rw [if_neg hs, if_neg (by omega), if_neg hs, hf, pre_whole hf]
end Go.Proofs.YtapckjeedekphaaGreatDoor

namespace Go.Proofs.YtapckjeedekphaaGreatDoor
open Go.RowKit Go.Proofs.YtapckjeedekphaaGreatDoorW.PrintWords PR
theorem dec_iff {p : Prop} [Decidable p] {b : Bool} (h : p ↔ b = true) : decide p = b := by
  cases b
  · exact decide_eq_false (fun hp => by cases h.1 hp)
  · exact decide_eq_true (h.2 rfl)
theorem p_trimS (l cs : List UInt8) (w : World) (hl : l.length ≤ 1000000) (hc : cs.length ≤ 1000) (ha : ∀ b ∈ cs, b.toNat < 128) : Calls Tryz.prog 179 #[.string (S l), .string (S cs)] w (RetStr w (Lib.trimS l cs)) := by
  refine (Tryz.strings_Trim_ascii (S l) (S cs) w (by rw [S_size]; omega) (by rw [S_size]; omega) (fun j b h => ha b (by rw [S_data] at h; exact List.mem_of_getElem? h))).mono ?_
  rintro e w' ⟨rfl, hb⟩
  exact ⟨by rw [S_data, S_data]; rfl, hb⟩
theorem p_trimten (l : List UInt8) (w : World) (hl : l.length ≤ 1000000) : Calls Tryz.prog 179 #[.string (S l), .string ⟨#[48, 49, 50, 51, 52, 53, 54, 55, 56, 57]⟩] w (RetStr w (Lib.trimS l ten)) := p_trimS l ten w hl (by decide) (by decide)
theorem p_trim0 (l : List UInt8) (w : World) (hl : l.length ≤ 1000000) : Calls Tryz.prog 179 #[.string (S l), .string ⟨#[48]⟩] w (RetStr w (Lib.trimS l [48])) := p_trimS l [48] w hl (by decide) (by decide)
theorem p_tpre (l : List UInt8) (w : World) : Calls Tryz.prog 178 #[.string (S l), .string ⟨#[45]⟩] w (RetStr w (plain l)) := by
  refine (Tryz.strings_TrimPrefix (S l) ⟨#[45]⟩ w).mono ?_
  rintro e w' ⟨rfl, rfl⟩
  refine ⟨?_, Below.refl _ _⟩
  have h1 := cut_minus l
  rw [S_data]
  show Ending.returned (.string ⟨(Lib.trimPrefix l [45]).toArray⟩) = _
  rw [h1.1]; rfl
/-- The variable MaxLen of the library's bytealg lies where it was laid. -/
def mx3 (w : World) : Prop := ∃ m : Int, w.cell? ⟨3, 0, none⟩ = some (.int .i64 m)
theorem cell_lt {w : World} {b : Nat} {v : Value} (h : w.cell? ⟨b, 0, none⟩ = some v) : b < w.heap.size := by
  rcases Nat.lt_or_ge b w.heap.size with h' | h'
  · exact h'
  · unfold World.cell? at h
    simp [Array.getElem?_eq_none h'] at h
theorem mx3.below {w w' : World} (h : mx3 w) (hb : Below w.heap.size w w') : mx3 w' := by
  obtain ⟨m, h⟩ := h
  exact ⟨m, (hb.cell (p := ⟨3, 0, none⟩) (cell_lt h)).trans h⟩
theorem p_cutsl (l : List UInt8) (w : World) (hl : l.length ≤ 1000000) (hm : mx3 w) : Calls Tryz.prog 176 #[.string (S l), .string ⟨#[47]⟩] w fun e w' => e = .returned (.tuple #[.string (S (pre l)), .string (S (if hasSl l = true then post l else [])), .bool (hasSl l)]) ∧ Below w.heap.size w w' := by
  obtain ⟨m, hm⟩ := hm
  refine (Tryz.strings_Cut (S l) ⟨#[47]⟩ m w (by rw [S_size]; omega) hm).mono ?_
  rintro e w' ⟨rfl, n, rfl⟩
  refine ⟨?_, below_drewN' w n⟩
  rw [S_data]
  show Ending.returned (.tuple #[.string ⟨(Lib.cut l [47]).1.toArray⟩, .string ⟨(Lib.cut l [47]).2.1.toArray⟩, .bool (Lib.cut l [47]).2.2]) = _
  rw [cut_sl]; rfl
theorem S_nil_eq (l : List UInt8) : ((S l).toList == []) = decide (l = []) := by
  rw [S_toList]; cases l <;> rfl
theorem S_nil_ne (l : List UInt8) : ((S l).toList != []) = !decide (l = []) := by
  unfold bne; rw [S_nil_eq]
theorem p_digs (l : List UInt8) (w : World) (hl : l.length ≤ 1000000) : Calls Tryz.prog 177 #[.string (S l)] w fun e w' => e = .returned (.bool (digs l)) ∧ Below w.heap.size w w' := by
  have HL := Lib.hid hl
  have HB := Lib.hid (Below.refl w.heap.size w)
  by_cases h : l = []
  · subst h
    have e1 : ((S []).toList == []) = true := by rw [S_nil_eq]; rfl
    have e2 : ((S []).toList != []) = false := by rw [S_nil_ne]; rfl
    go_enter Tryz.func177, Tryz.ntmps177
    go_wp2_with fail
    go_ret
    exact ⟨rfl, HB.out⟩
  · have e1 : ((S l).toList == []) = false := by rw [S_nil_eq]; exact decide_eq_false h
    have e2 : ((S l).toList != []) = true := by rw [S_nil_ne, decide_eq_false h]; rfl
    have e3 : ((S (Lib.trimS l ten)).toList == []) = digs l := by
      rw [S_nil_eq]
      unfold digs
      have h1 : (!l.isEmpty) = true := by cases l with
        | nil => exact absurd rfl h
        | cons => rfl
      rw [h1, Bool.true_and]
      exact dec_iff (trim_ten l)
    obtain ⟨t, ht⟩ : ∃ t, Lib.trimS l ten = t := ⟨_, rfl⟩
    obtain ⟨z, hz⟩ : ∃ z, digs l = z := ⟨_, rfl⟩
    rw [ht, hz] at e3
    rw [hz]
    have HT := Lib.hid ht
    clear h hl ht hz
    go_enter Tryz.func177, Tryz.ntmps177
    go_wp2_with fail
    refine (p_trimten l _ HL.out).mono ?_
    rintro e w1 ⟨rfl, hb⟩
    rw [HT.out]
    go_wp2_with fail
    go_ret
    exact ⟨rfl, bth HB.out hb⟩
end Go.Proofs.YtapckjeedekphaaGreatDoor

namespace Go.Proofs.YtapckjeedekphaaGreatDoor
open Go.RowKit Go.Proofs.YtapckjeedekphaaGreatDoorW.PrintWords PR
set_option linter.unusedVariables false
theorem p_cutK (l p d : List UInt8) (v : Bool) (w : World) (hl : l.length ≤ 1000000) (hm : mx3 w) (h : pre l = p ∧ (if hasSl l = true then post l else []) = d ∧ hasSl l = v) : Calls Tryz.prog 176 #[.string (S l), .string ⟨#[47]⟩] w fun e w' => e = .returned (.tuple #[.string (S p), .string (S d), .bool v]) ∧ Below w.heap.size w w' := by
  obtain ⟨h1, h2, h3⟩ := h
  have := p_cutsl l w hl hm
  rw [h1, h2, h3] at this
  exact this
theorem p_trim0K (l x : List UInt8) (w : World) (hl : l.length ≤ 1000000) (h : Lib.trimS l [48] = x) : Calls Tryz.prog 179 #[.string (S l), .string ⟨#[48]⟩] w (RetStr w x) := h ▸ p_trim0 l w hl
theorem p_digsK (l : List UInt8) (b : Bool) (w : World) (hl : l.length ≤ 1000000) (h : digs l = b) : Calls Tryz.prog 177 #[.string (S l)] w fun e w' => e = .returned (.bool b) ∧ Below w.heap.size w w' := h ▸ p_digs l w hl
theorem p_parseK (l : List UInt8) (c z : Int) (w : World) (h : chkI l = c) (hz : (if chkI l = 0 then vI l else 0) = z) : Calls Tryz.prog 26 #[.string (S l)] w fun e w' => ∃ v, e = .returned (.tuple #[v, .int .i64 c]) ∧ RI w' v z ∧ Below w.heap.size w w' := by
  refine (p_parse l w).mono ?_
  rintro e w' ⟨v, rfl, h1, hb⟩
  rw [hz] at h1
  exact ⟨v, by rw [h], h1, hb⟩
theorem p_tpreK (l p : List UInt8) (w : World) (h : plain l = p) : Calls Tryz.prog 178 #[.string (S l), .string ⟨#[45]⟩] w (RetStr w p) := h ▸ p_tpre l w
set_option maxHeartbeats 1600000 in
theorem read_c1 (l p d pl t0 : List UInt8) (most c x y : Int) (w : World) (hm : mx3 w) (hl : l.length ≤ 1000000) (hc : pre l = p ∧ (if hasSl l = true then post l else []) = d ∧ hasSl l = true) (hp : plain p = pl) (h0 : decide (most < (l.length : Int)) = true) : Calls Tryz.prog 137 #[.string (S l), .int .i64 most] w (RetRE w 0 5) := by
  have HL := Lib.hid hl
  have HM := Lib.hid hm
  have HC := Lib.hid hc
  have HP := Lib.hid hp
  have hsz := S_size l
  have HLP : Hid (pl.length ≤ 1000000) := Lib.hid (by
    have h1 := pre_len l
    have h2 : (plain p).length ≤ p.length := by unfold plain; split <;> simp
    rw [hp] at h2; rw [hc.1] at h1; omega)
  have HLD : Hid (d.length ≤ 1000000) := Lib.hid (by
    rw [← hc.2.1]
    split
    · unfold post; rw [List.length_drop]; omega
    · simp)
  clear hl hm hc hp
  have HB := Lib.hid (Below.refl w.heap.size w)
  go_enter Tryz.func137, Tryz.ntmps137
  go_wp2_with (first | ((with_reducible refine gate_dst (N := 4) rfl ?_); refine bx_event rfl (cs := #[.bool false, .slice none 0 0, .bool false, .slice none 0 0]) (t := 31) ?hr ?_; (case hr => first | (go_simp; done) | (go_simp; rfl)); intro g4 w4 hg bk hb; have HG4 := Lib.hid (Nat.le_trans HB.out.size hg); replace HB := Lib.hid (bth HB.out hb); have BK4 := Lib.hid bk; obtain ⟨c4_0, c4_1, c4_2, c4_3, f4_0, f4_1, f4_2, f4_3⟩ := BK4.out.all4; clear hb hg bk))
  refine (p_cutK l p d true _ HL.out (HM.out.below HB.out) HC.out).mono ?_
  rintro e u1 ⟨rfl, hb⟩
  replace HB := Lib.hid (bth HB.out hb)
  clear c4_0 c4_1 c4_2 c4_3 f4_0 f4_1 f4_2 f4_3
  replace BK4 := Lib.hid (BK4.out.below hb)
  obtain ⟨c4_0, c4_1, c4_2, c4_3, f4_0, f4_1, f4_2, f4_3⟩ := BK4.out.all4
  clear hb
  go_wp2_with fail
  refine bodyPost_ret (results_cell1 rfl _ _ g4 31 #[.bool false, .slice none 0 0, .bool false, .slice none 0 0] (0, 0) _ rfl (BK4.out.put4 _ _ _ _) Tryz.underlying31 rfl (by kernel_rfl)) rfl ?_
  exact ⟨_, rfl, RR.zero _, below_put4 HB.out HG4.out _ _ _ _⟩
set_option maxHeartbeats 1600000 in
theorem read_c1f (l p d pl t0 : List UInt8) (most c x y : Int) (w : World) (hm : mx3 w) (hl : l.length ≤ 1000000) (hc : pre l = p ∧ (if hasSl l = true then post l else []) = d ∧ hasSl l = false) (hp : plain p = pl) (h0 : decide (most < (l.length : Int)) = true) : Calls Tryz.prog 137 #[.string (S l), .int .i64 most] w (RetRE w 0 5) := by
  have HL := Lib.hid hl
  have HM := Lib.hid hm
  have HC := Lib.hid hc
  have HP := Lib.hid hp
  have hsz := S_size l
  have HLP : Hid (pl.length ≤ 1000000) := Lib.hid (by
    have h1 := pre_len l
    have h2 : (plain p).length ≤ p.length := by unfold plain; split <;> simp
    rw [hp] at h2; rw [hc.1] at h1; omega)
  have HLD : Hid (d.length ≤ 1000000) := Lib.hid (by
    rw [← hc.2.1]
    split
    · unfold post; rw [List.length_drop]; omega
    · simp)
  clear hl hm hc hp
  have HB := Lib.hid (Below.refl w.heap.size w)
  go_enter Tryz.func137, Tryz.ntmps137
  go_wp2_with (first | ((with_reducible refine gate_dst (N := 4) rfl ?_); refine bx_event rfl (cs := #[.bool false, .slice none 0 0, .bool false, .slice none 0 0]) (t := 31) ?hr ?_; (case hr => first | (go_simp; done) | (go_simp; rfl)); intro g4 w4 hg bk hb; have HG4 := Lib.hid (Nat.le_trans HB.out.size hg); replace HB := Lib.hid (bth HB.out hb); have BK4 := Lib.hid bk; obtain ⟨c4_0, c4_1, c4_2, c4_3, f4_0, f4_1, f4_2, f4_3⟩ := BK4.out.all4; clear hb hg bk))
  refine (p_cutK l p d false _ HL.out (HM.out.below HB.out) HC.out).mono ?_
  rintro e u1 ⟨rfl, hb⟩
  replace HB := Lib.hid (bth HB.out hb)
  clear c4_0 c4_1 c4_2 c4_3 f4_0 f4_1 f4_2 f4_3
  replace BK4 := Lib.hid (BK4.out.below hb)
  obtain ⟨c4_0, c4_1, c4_2, c4_3, f4_0, f4_1, f4_2, f4_3⟩ := BK4.out.all4
  clear hb
  go_wp2_with fail
  refine bodyPost_ret (results_cell1 rfl _ _ g4 31 #[.bool false, .slice none 0 0, .bool false, .slice none 0 0] (0, 0) _ rfl (BK4.out.put4 _ _ _ _) Tryz.underlying31 rfl (by kernel_rfl)) rfl ?_
  exact ⟨_, rfl, RR.zero _, below_put4 HB.out HG4.out _ _ _ _⟩
set_option maxHeartbeats 1600000 in
theorem read_c2 (l p d pl t0 : List UInt8) (most c x y : Int) (w : World) (hm : mx3 w) (hl : l.length ≤ 1000000) (hc : pre l = p ∧ (if hasSl l = true then post l else []) = d ∧ hasSl l = true) (hp : plain p = pl) (h0 : decide (most < (l.length : Int)) = false) (hd : digs pl = false) : Calls Tryz.prog 137 #[.string (S l), .int .i64 most] w (RetRE w 0 14) := by
  have HL := Lib.hid hl
  have HM := Lib.hid hm
  have HC := Lib.hid hc
  have HP := Lib.hid hp
  have hsz := S_size l
  have HLP : Hid (pl.length ≤ 1000000) := Lib.hid (by
    have h1 := pre_len l
    have h2 : (plain p).length ≤ p.length := by unfold plain; split <;> simp
    rw [hp] at h2; rw [hc.1] at h1; omega)
  have HLD : Hid (d.length ≤ 1000000) := Lib.hid (by
    rw [← hc.2.1]
    split
    · unfold post; rw [List.length_drop]; omega
    · simp)
  clear hl hm hc hp
  have HD := Lib.hid hd
  clear hd
  have HB := Lib.hid (Below.refl w.heap.size w)
  go_enter Tryz.func137, Tryz.ntmps137
  go_wp2_with (first | ((with_reducible refine gate_dst (N := 4) rfl ?_); refine bx_event rfl (cs := #[.bool false, .slice none 0 0, .bool false, .slice none 0 0]) (t := 31) ?hr ?_; (case hr => first | (go_simp; done) | (go_simp; rfl)); intro g4 w4 hg bk hb; have HG4 := Lib.hid (Nat.le_trans HB.out.size hg); replace HB := Lib.hid (bth HB.out hb); have BK4 := Lib.hid bk; obtain ⟨c4_0, c4_1, c4_2, c4_3, f4_0, f4_1, f4_2, f4_3⟩ := BK4.out.all4; clear hb hg bk))
  refine (p_cutK l p d true _ HL.out (HM.out.below HB.out) HC.out).mono ?_
  rintro e u1 ⟨rfl, hb⟩
  replace HB := Lib.hid (bth HB.out hb)
  clear c4_0 c4_1 c4_2 c4_3 f4_0 f4_1 f4_2 f4_3
  replace BK4 := Lib.hid (BK4.out.below hb)
  obtain ⟨c4_0, c4_1, c4_2, c4_3, f4_0, f4_1, f4_2, f4_3⟩ := BK4.out.all4
  clear hb
  go_wp2_with fail
  refine (p_tpreK p pl _ HP.out).mono ?_
  rintro e u2 ⟨rfl, hb⟩
  replace HB := Lib.hid (bth HB.out hb)
  clear c4_0 c4_1 c4_2 c4_3 f4_0 f4_1 f4_2 f4_3
  replace BK4 := Lib.hid (BK4.out.below hb)
  obtain ⟨c4_0, c4_1, c4_2, c4_3, f4_0, f4_1, f4_2, f4_3⟩ := BK4.out.all4
  clear hb
  go_wp2_with fail
  refine (p_digsK pl false _ HLP.out HD.out).mono ?_
  rintro e u3 ⟨rfl, hb⟩
  replace HB := Lib.hid (bth HB.out hb)
  clear c4_0 c4_1 c4_2 c4_3 f4_0 f4_1 f4_2 f4_3
  replace BK4 := Lib.hid (BK4.out.below hb)
  obtain ⟨c4_0, c4_1, c4_2, c4_3, f4_0, f4_1, f4_2, f4_3⟩ := BK4.out.all4
  clear hb
  go_wp2_with fail
  refine bodyPost_ret (results_cell1 rfl _ _ g4 31 #[.bool false, .slice none 0 0, .bool false, .slice none 0 0] (0, 0) _ rfl (BK4.out.put4 _ _ _ _) Tryz.underlying31 rfl (by kernel_rfl)) rfl ?_
  exact ⟨_, rfl, RR.zero _, below_put4 HB.out HG4.out _ _ _ _⟩
set_option maxHeartbeats 1600000 in
theorem read_c2f (l p d pl t0 : List UInt8) (most c x y : Int) (w : World) (hm : mx3 w) (hl : l.length ≤ 1000000) (hc : pre l = p ∧ (if hasSl l = true then post l else []) = d ∧ hasSl l = false) (hp : plain p = pl) (h0 : decide (most < (l.length : Int)) = false) (hd : digs pl = false) : Calls Tryz.prog 137 #[.string (S l), .int .i64 most] w (RetRE w 0 14) := by
  have HL := Lib.hid hl
  have HM := Lib.hid hm
  have HC := Lib.hid hc
  have HP := Lib.hid hp
  have hsz := S_size l
  have HLP : Hid (pl.length ≤ 1000000) := Lib.hid (by
    have h1 := pre_len l
    have h2 : (plain p).length ≤ p.length := by unfold plain; split <;> simp
    rw [hp] at h2; rw [hc.1] at h1; omega)
  have HLD : Hid (d.length ≤ 1000000) := Lib.hid (by
    rw [← hc.2.1]
    split
    · unfold post; rw [List.length_drop]; omega
    · simp)
  clear hl hm hc hp
  have HD := Lib.hid hd
  clear hd
  have HB := Lib.hid (Below.refl w.heap.size w)
  go_enter Tryz.func137, Tryz.ntmps137
  go_wp2_with (first | ((with_reducible refine gate_dst (N := 4) rfl ?_); refine bx_event rfl (cs := #[.bool false, .slice none 0 0, .bool false, .slice none 0 0]) (t := 31) ?hr ?_; (case hr => first | (go_simp; done) | (go_simp; rfl)); intro g4 w4 hg bk hb; have HG4 := Lib.hid (Nat.le_trans HB.out.size hg); replace HB := Lib.hid (bth HB.out hb); have BK4 := Lib.hid bk; obtain ⟨c4_0, c4_1, c4_2, c4_3, f4_0, f4_1, f4_2, f4_3⟩ := BK4.out.all4; clear hb hg bk))
  refine (p_cutK l p d false _ HL.out (HM.out.below HB.out) HC.out).mono ?_
  rintro e u1 ⟨rfl, hb⟩
  replace HB := Lib.hid (bth HB.out hb)
  clear c4_0 c4_1 c4_2 c4_3 f4_0 f4_1 f4_2 f4_3
  replace BK4 := Lib.hid (BK4.out.below hb)
  obtain ⟨c4_0, c4_1, c4_2, c4_3, f4_0, f4_1, f4_2, f4_3⟩ := BK4.out.all4
  clear hb
  go_wp2_with fail
  refine (p_tpreK p pl _ HP.out).mono ?_
  rintro e u2 ⟨rfl, hb⟩
  replace HB := Lib.hid (bth HB.out hb)
  clear c4_0 c4_1 c4_2 c4_3 f4_0 f4_1 f4_2 f4_3
  replace BK4 := Lib.hid (BK4.out.below hb)
  obtain ⟨c4_0, c4_1, c4_2, c4_3, f4_0, f4_1, f4_2, f4_3⟩ := BK4.out.all4
  clear hb
  go_wp2_with fail
  refine (p_digsK pl false _ HLP.out HD.out).mono ?_
  rintro e u3 ⟨rfl, hb⟩
  replace HB := Lib.hid (bth HB.out hb)
  clear c4_0 c4_1 c4_2 c4_3 f4_0 f4_1 f4_2 f4_3
  replace BK4 := Lib.hid (BK4.out.below hb)
  obtain ⟨c4_0, c4_1, c4_2, c4_3, f4_0, f4_1, f4_2, f4_3⟩ := BK4.out.all4
  clear hb
  go_wp2_with fail
  refine bodyPost_ret (results_cell1 rfl _ _ g4 31 #[.bool false, .slice none 0 0, .bool false, .slice none 0 0] (0, 0) _ rfl (BK4.out.put4 _ _ _ _) Tryz.underlying31 rfl (by kernel_rfl)) rfl ?_
  exact ⟨_, rfl, RR.zero _, below_put4 HB.out HG4.out _ _ _ _⟩
set_option maxHeartbeats 1600000 in
theorem read_c3 (l p d pl t0 : List UInt8) (most c x y : Int) (w : World) (hm : mx3 w) (hl : l.length ≤ 1000000) (hc : pre l = p ∧ (if hasSl l = true then post l else []) = d ∧ hasSl l = true) (hp : plain p = pl) (h0 : decide (most < (l.length : Int)) = false) (hd : digs pl = true) (he : digs d = false) : Calls Tryz.prog 137 #[.string (S l), .int .i64 most] w (RetRE w 0 14) := by
  have HL := Lib.hid hl
  have HM := Lib.hid hm
  have HC := Lib.hid hc
  have HP := Lib.hid hp
  have hsz := S_size l
  have HLP : Hid (pl.length ≤ 1000000) := Lib.hid (by
    have h1 := pre_len l
    have h2 : (plain p).length ≤ p.length := by unfold plain; split <;> simp
    rw [hp] at h2; rw [hc.1] at h1; omega)
  have HLD : Hid (d.length ≤ 1000000) := Lib.hid (by
    rw [← hc.2.1]
    split
    · unfold post; rw [List.length_drop]; omega
    · simp)
  clear hl hm hc hp
  have HD := Lib.hid hd
  have HE := Lib.hid he
  clear hd he
  have HB := Lib.hid (Below.refl w.heap.size w)
  go_enter Tryz.func137, Tryz.ntmps137
  go_wp2_with (first | ((with_reducible refine gate_dst (N := 4) rfl ?_); refine bx_event rfl (cs := #[.bool false, .slice none 0 0, .bool false, .slice none 0 0]) (t := 31) ?hr ?_; (case hr => first | (go_simp; done) | (go_simp; rfl)); intro g4 w4 hg bk hb; have HG4 := Lib.hid (Nat.le_trans HB.out.size hg); replace HB := Lib.hid (bth HB.out hb); have BK4 := Lib.hid bk; obtain ⟨c4_0, c4_1, c4_2, c4_3, f4_0, f4_1, f4_2, f4_3⟩ := BK4.out.all4; clear hb hg bk))
  refine (p_cutK l p d true _ HL.out (HM.out.below HB.out) HC.out).mono ?_
  rintro e u1 ⟨rfl, hb⟩
  replace HB := Lib.hid (bth HB.out hb)
  clear c4_0 c4_1 c4_2 c4_3 f4_0 f4_1 f4_2 f4_3
  replace BK4 := Lib.hid (BK4.out.below hb)
  obtain ⟨c4_0, c4_1, c4_2, c4_3, f4_0, f4_1, f4_2, f4_3⟩ := BK4.out.all4
  clear hb
  go_wp2_with fail
  refine (p_tpreK p pl _ HP.out).mono ?_
  rintro e u2 ⟨rfl, hb⟩
  replace HB := Lib.hid (bth HB.out hb)
  clear c4_0 c4_1 c4_2 c4_3 f4_0 f4_1 f4_2 f4_3
  replace BK4 := Lib.hid (BK4.out.below hb)
  obtain ⟨c4_0, c4_1, c4_2, c4_3, f4_0, f4_1, f4_2, f4_3⟩ := BK4.out.all4
  clear hb
  go_wp2_with fail
  refine (p_digsK pl true _ HLP.out HD.out).mono ?_
  rintro e u3 ⟨rfl, hb⟩
  replace HB := Lib.hid (bth HB.out hb)
  clear c4_0 c4_1 c4_2 c4_3 f4_0 f4_1 f4_2 f4_3
  replace BK4 := Lib.hid (BK4.out.below hb)
  obtain ⟨c4_0, c4_1, c4_2, c4_3, f4_0, f4_1, f4_2, f4_3⟩ := BK4.out.all4
  clear hb
  go_wp2_with fail
  refine (p_digsK d false _ HLD.out HE.out).mono ?_
  rintro e u4 ⟨rfl, hb⟩
  replace HB := Lib.hid (bth HB.out hb)
  clear c4_0 c4_1 c4_2 c4_3 f4_0 f4_1 f4_2 f4_3
  replace BK4 := Lib.hid (BK4.out.below hb)
  obtain ⟨c4_0, c4_1, c4_2, c4_3, f4_0, f4_1, f4_2, f4_3⟩ := BK4.out.all4
  clear hb
  go_wp2_with fail
  refine bodyPost_ret (results_cell1 rfl _ _ g4 31 #[.bool false, .slice none 0 0, .bool false, .slice none 0 0] (0, 0) _ rfl (BK4.out.put4 _ _ _ _) Tryz.underlying31 rfl (by kernel_rfl)) rfl ?_
  exact ⟨_, rfl, RR.zero _, below_put4 HB.out HG4.out _ _ _ _⟩
set_option maxHeartbeats 1600000 in
theorem read_c4 (l p d pl t0 : List UInt8) (most c x y : Int) (w : World) (hm : mx3 w) (hl : l.length ≤ 1000000) (hc : pre l = p ∧ (if hasSl l = true then post l else []) = d ∧ hasSl l = true) (hp : plain p = pl) (h0 : decide (most < (l.length : Int)) = false) (hd : digs pl = true) (he : digs d = true) (ht : Lib.trimS d [48] = t0) (e0 : ((S t0).toList == []) = true) : Calls Tryz.prog 137 #[.string (S l), .int .i64 most] w (RetRE w 0 19) := by
  have HL := Lib.hid hl
  have HM := Lib.hid hm
  have HC := Lib.hid hc
  have HP := Lib.hid hp
  have hsz := S_size l
  have HLP : Hid (pl.length ≤ 1000000) := Lib.hid (by
    have h1 := pre_len l
    have h2 : (plain p).length ≤ p.length := by unfold plain; split <;> simp
    rw [hp] at h2; rw [hc.1] at h1; omega)
  have HLD : Hid (d.length ≤ 1000000) := Lib.hid (by
    rw [← hc.2.1]
    split
    · unfold post; rw [List.length_drop]; omega
    · simp)
  clear hl hm hc hp
  have HD := Lib.hid hd
  have HE := Lib.hid he
  have HT := Lib.hid ht
  clear hd he ht
  have HB := Lib.hid (Below.refl w.heap.size w)
  go_enter Tryz.func137, Tryz.ntmps137
  go_wp2_with (first | ((with_reducible refine gate_dst (N := 4) rfl ?_); refine bx_event rfl (cs := #[.bool false, .slice none 0 0, .bool false, .slice none 0 0]) (t := 31) ?hr ?_; (case hr => first | (go_simp; done) | (go_simp; rfl)); intro g4 w4 hg bk hb; have HG4 := Lib.hid (Nat.le_trans HB.out.size hg); replace HB := Lib.hid (bth HB.out hb); have BK4 := Lib.hid bk; obtain ⟨c4_0, c4_1, c4_2, c4_3, f4_0, f4_1, f4_2, f4_3⟩ := BK4.out.all4; clear hb hg bk))
  refine (p_cutK l p d true _ HL.out (HM.out.below HB.out) HC.out).mono ?_
  rintro e u1 ⟨rfl, hb⟩
  replace HB := Lib.hid (bth HB.out hb)
  clear c4_0 c4_1 c4_2 c4_3 f4_0 f4_1 f4_2 f4_3
  replace BK4 := Lib.hid (BK4.out.below hb)
  obtain ⟨c4_0, c4_1, c4_2, c4_3, f4_0, f4_1, f4_2, f4_3⟩ := BK4.out.all4
  clear hb
  go_wp2_with fail
  refine (p_tpreK p pl _ HP.out).mono ?_
  rintro e u2 ⟨rfl, hb⟩
  replace HB := Lib.hid (bth HB.out hb)
  clear c4_0 c4_1 c4_2 c4_3 f4_0 f4_1 f4_2 f4_3
  replace BK4 := Lib.hid (BK4.out.below hb)
  obtain ⟨c4_0, c4_1, c4_2, c4_3, f4_0, f4_1, f4_2, f4_3⟩ := BK4.out.all4
  clear hb
  go_wp2_with fail
  refine (p_digsK pl true _ HLP.out HD.out).mono ?_
  rintro e u3 ⟨rfl, hb⟩
  replace HB := Lib.hid (bth HB.out hb)
  clear c4_0 c4_1 c4_2 c4_3 f4_0 f4_1 f4_2 f4_3
  replace BK4 := Lib.hid (BK4.out.below hb)
  obtain ⟨c4_0, c4_1, c4_2, c4_3, f4_0, f4_1, f4_2, f4_3⟩ := BK4.out.all4
  clear hb
  go_wp2_with fail
  refine (p_digsK d true _ HLD.out HE.out).mono ?_
  rintro e u4 ⟨rfl, hb⟩
  replace HB := Lib.hid (bth HB.out hb)
  clear c4_0 c4_1 c4_2 c4_3 f4_0 f4_1 f4_2 f4_3
  replace BK4 := Lib.hid (BK4.out.below hb)
  obtain ⟨c4_0, c4_1, c4_2, c4_3, f4_0, f4_1, f4_2, f4_3⟩ := BK4.out.all4
  clear hb
  go_wp2_with fail
  refine (p_trim0K d t0 _ HLD.out HT.out).mono ?_
  rintro e u5 ⟨rfl, hb⟩
  replace HB := Lib.hid (bth HB.out hb)
  clear c4_0 c4_1 c4_2 c4_3 f4_0 f4_1 f4_2 f4_3
  replace BK4 := Lib.hid (BK4.out.below hb)
  obtain ⟨c4_0, c4_1, c4_2, c4_3, f4_0, f4_1, f4_2, f4_3⟩ := BK4.out.all4
  clear hb
  go_wp2_with fail
  refine bodyPost_ret (results_cell1 rfl _ _ g4 31 #[.bool false, .slice none 0 0, .bool false, .slice none 0 0] (0, 0) _ rfl (BK4.out.put4 _ _ _ _) Tryz.underlying31 rfl (by kernel_rfl)) rfl ?_
  exact ⟨_, rfl, RR.zero _, below_put4 HB.out HG4.out _ _ _ _⟩
set_option maxHeartbeats 1600000 in
theorem read_c5 (l p d pl t0 : List UInt8) (most c x y : Int) (w : World) (hm : mx3 w) (hl : l.length ≤ 1000000) (hc : pre l = p ∧ (if hasSl l = true then post l else []) = d ∧ hasSl l = true) (hp : plain p = pl) (h0 : decide (most < (l.length : Int)) = false) (hd : digs pl = true) (he : digs d = true) (ht : Lib.trimS d [48] = t0) (e0 : ((S t0).toList == []) = false) (hx : chkI p = c) (hxv : (if chkI p = 0 then vI p else 0) = x) (ec : (c != 0) = true) : Calls Tryz.prog 137 #[.string (S l), .int .i64 most] w (RetRE w 0 3) := by
  have HL := Lib.hid hl
  have HM := Lib.hid hm
  have HC := Lib.hid hc
  have HP := Lib.hid hp
  have hsz := S_size l
  have HLP : Hid (pl.length ≤ 1000000) := Lib.hid (by
    have h1 := pre_len l
    have h2 : (plain p).length ≤ p.length := by unfold plain; split <;> simp
    rw [hp] at h2; rw [hc.1] at h1; omega)
  have HLD : Hid (d.length ≤ 1000000) := Lib.hid (by
    rw [← hc.2.1]
    split
    · unfold post; rw [List.length_drop]; omega
    · simp)
  clear hl hm hc hp
  have HD := Lib.hid hd
  have HE := Lib.hid he
  have HT := Lib.hid ht
  have HX := Lib.hid hx
  have HXV := Lib.hid hxv
  clear hd he ht hx hxv
  have HB := Lib.hid (Below.refl w.heap.size w)
  go_enter Tryz.func137, Tryz.ntmps137
  go_wp2_with (first | ((with_reducible refine gate_dst (N := 4) rfl ?_); refine bx_event rfl (cs := #[.bool false, .slice none 0 0, .bool false, .slice none 0 0]) (t := 31) ?hr ?_; (case hr => first | (go_simp; done) | (go_simp; rfl)); intro g4 w4 hg bk hb; have HG4 := Lib.hid (Nat.le_trans HB.out.size hg); replace HB := Lib.hid (bth HB.out hb); have BK4 := Lib.hid bk; obtain ⟨c4_0, c4_1, c4_2, c4_3, f4_0, f4_1, f4_2, f4_3⟩ := BK4.out.all4; clear hb hg bk))
  refine (p_cutK l p d true _ HL.out (HM.out.below HB.out) HC.out).mono ?_
  rintro e u1 ⟨rfl, hb⟩
  replace HB := Lib.hid (bth HB.out hb)
  clear c4_0 c4_1 c4_2 c4_3 f4_0 f4_1 f4_2 f4_3
  replace BK4 := Lib.hid (BK4.out.below hb)
  obtain ⟨c4_0, c4_1, c4_2, c4_3, f4_0, f4_1, f4_2, f4_3⟩ := BK4.out.all4
  clear hb
  go_wp2_with fail
  refine (p_tpreK p pl _ HP.out).mono ?_
  rintro e u2 ⟨rfl, hb⟩
  replace HB := Lib.hid (bth HB.out hb)
  clear c4_0 c4_1 c4_2 c4_3 f4_0 f4_1 f4_2 f4_3
  replace BK4 := Lib.hid (BK4.out.below hb)
  obtain ⟨c4_0, c4_1, c4_2, c4_3, f4_0, f4_1, f4_2, f4_3⟩ := BK4.out.all4
  clear hb
  go_wp2_with fail
  refine (p_digsK pl true _ HLP.out HD.out).mono ?_
  rintro e u3 ⟨rfl, hb⟩
  replace HB := Lib.hid (bth HB.out hb)
  clear c4_0 c4_1 c4_2 c4_3 f4_0 f4_1 f4_2 f4_3
  replace BK4 := Lib.hid (BK4.out.below hb)
  obtain ⟨c4_0, c4_1, c4_2, c4_3, f4_0, f4_1, f4_2, f4_3⟩ := BK4.out.all4
  clear hb
  go_wp2_with fail
  refine (p_digsK d true _ HLD.out HE.out).mono ?_
  rintro e u4 ⟨rfl, hb⟩
  replace HB := Lib.hid (bth HB.out hb)
  clear c4_0 c4_1 c4_2 c4_3 f4_0 f4_1 f4_2 f4_3
  replace BK4 := Lib.hid (BK4.out.below hb)
  obtain ⟨c4_0, c4_1, c4_2, c4_3, f4_0, f4_1, f4_2, f4_3⟩ := BK4.out.all4
  clear hb
  go_wp2_with fail
  refine (p_trim0K d t0 _ HLD.out HT.out).mono ?_
  rintro e u5 ⟨rfl, hb⟩
  replace HB := Lib.hid (bth HB.out hb)
  clear c4_0 c4_1 c4_2 c4_3 f4_0 f4_1 f4_2 f4_3
  replace BK4 := Lib.hid (BK4.out.below hb)
  obtain ⟨c4_0, c4_1, c4_2, c4_3, f4_0, f4_1, f4_2, f4_3⟩ := BK4.out.all4
  clear hb
  go_wp2_with fail
  refine (p_parseK p c x _ HX.out HXV.out).mono ?_
  rintro e u6 ⟨va, rfl, hv, hb⟩
  replace HB := Lib.hid (bth HB.out hb)
  clear c4_0 c4_1 c4_2 c4_3 f4_0 f4_1 f4_2 f4_3
  replace BK4 := Lib.hid (BK4.out.below hb)
  obtain ⟨c4_0, c4_1, c4_2, c4_3, f4_0, f4_1, f4_2, f4_3⟩ := BK4.out.all4
  clear hb
  have Ha := Lib.hid hv
  obtain ⟨na, Aa, ka, ca, rfl⟩ := hv.shape
  clear hv
  go_wp2_with (first | ((with_reducible refine gate_dst (N := 10) rfl ?_); refine bx_event rfl (cs := #[.bool false, .slice none 0 0]) (t := 27) ?hr ?_; (case hr => first | (go_simp; done) | (go_simp; rfl)); intro g10 w10 hg bk hb; have HG10 := Lib.hid (Nat.le_trans HB.out.size hg); replace HB := Lib.hid (bth HB.out hb); have HN4_10 := Lib.hid (Nat.ne_of_lt (Nat.lt_of_lt_of_le BK4.out.lt hg)); have ne4_10 := HN4_10.out; have en4_10 := HN4_10.out.symm; clear c4_0 c4_1 c4_2 c4_3 f4_0 f4_1 f4_2 f4_3; replace BK4 := Lib.hid (BK4.out.below hb); obtain ⟨c4_0, c4_1, c4_2, c4_3, f4_0, f4_1, f4_2, f4_3⟩ := BK4.out.all4; replace Ha := Lib.hid (Ha.out.below hb); have BK10 := Lib.hid bk; obtain ⟨c10_0, c10_1, f10_0, f10_1⟩ := BK10.out.all2; clear hb hg bk))
  obtain ⟨x10, hx⟩ : ∃ W, ((w10.setCell ⟨g10, 0, none⟩ (.bool na)).setCell ⟨g10, 1, none⟩ (.slice Aa ka ca)) = W := ⟨_, rfl⟩
  have KP : Kp w10 x10 := hx ▸ BK10.out.kp2 (by decide) (.bool na) (.slice Aa ka ca)
  replace BK4 : Hid (Bx x10 g4 31 #[.bool false, .slice none 0 0, .bool false, .slice none 0 0]) := Lib.hid (hx ▸ BK4.out.far2 HN4_10.out _ _)
  replace BK10 : Hid (Bx x10 g10 27 #[.bool na, .slice Aa ka ca]) := Lib.hid (hx ▸ BK10.out.put2 _ _)
  clear ne4_10 en4_10
  replace HB : Hid (Below w.heap.size w x10) := Lib.hid (hx ▸ below_put2 HB.out HG10.out _ _)
  replace Ha := Lib.hid (Ha.out.kp KP)
  rw [hx]
  clear hx KP
  clear c4_0 c4_1 c4_2 c4_3 f4_0 f4_1 f4_2 f4_3
  clear c10_0 c10_1 f10_0 f10_1
  obtain ⟨c4_0, c4_1, c4_2, c4_3, f4_0, f4_1, f4_2, f4_3⟩ := BK4.out.all4
  obtain ⟨c10_0, c10_1, f10_0, f10_1⟩ := BK10.out.all2
  go_wp2_with fail
  refine bodyPost_ret (results_cell1 rfl _ _ g4 31 #[.bool false, .slice none 0 0, .bool false, .slice none 0 0] (0, 0) _ rfl (BK4.out.put4 _ _ _ _) Tryz.underlying31 rfl (by kernel_rfl)) rfl ?_
  exact ⟨_, rfl, RR.zero _, below_put4 HB.out HG4.out _ _ _ _⟩
set_option maxHeartbeats 1600000 in
theorem read_c5f (l p d pl t0 : List UInt8) (most c x y : Int) (w : World) (hm : mx3 w) (hl : l.length ≤ 1000000) (hc : pre l = p ∧ (if hasSl l = true then post l else []) = d ∧ hasSl l = false) (hp : plain p = pl) (h0 : decide (most < (l.length : Int)) = false) (hd : digs pl = true) (hx : chkI p = c) (hxv : (if chkI p = 0 then vI p else 0) = x) (ec : (c != 0) = true) : Calls Tryz.prog 137 #[.string (S l), .int .i64 most] w (RetRE w 0 3) := by
  have HL := Lib.hid hl
  have HM := Lib.hid hm
  have HC := Lib.hid hc
  have HP := Lib.hid hp
  have hsz := S_size l
  have HLP : Hid (pl.length ≤ 1000000) := Lib.hid (by
    have h1 := pre_len l
    have h2 : (plain p).length ≤ p.length := by unfold plain; split <;> simp
    rw [hp] at h2; rw [hc.1] at h1; omega)
  have HLD : Hid (d.length ≤ 1000000) := Lib.hid (by
    rw [← hc.2.1]
    split
    · unfold post; rw [List.length_drop]; omega
    · simp)
  clear hl hm hc hp
  have HD := Lib.hid hd
  have HX := Lib.hid hx
  have HXV := Lib.hid hxv
  clear hd hx hxv
  have HB := Lib.hid (Below.refl w.heap.size w)
  go_enter Tryz.func137, Tryz.ntmps137
  go_wp2_with (first | ((with_reducible refine gate_dst (N := 4) rfl ?_); refine bx_event rfl (cs := #[.bool false, .slice none 0 0, .bool false, .slice none 0 0]) (t := 31) ?hr ?_; (case hr => first | (go_simp; done) | (go_simp; rfl)); intro g4 w4 hg bk hb; have HG4 := Lib.hid (Nat.le_trans HB.out.size hg); replace HB := Lib.hid (bth HB.out hb); have BK4 := Lib.hid bk; obtain ⟨c4_0, c4_1, c4_2, c4_3, f4_0, f4_1, f4_2, f4_3⟩ := BK4.out.all4; clear hb hg bk))
  refine (p_cutK l p d false _ HL.out (HM.out.below HB.out) HC.out).mono ?_
  rintro e u1 ⟨rfl, hb⟩
  replace HB := Lib.hid (bth HB.out hb)
  clear c4_0 c4_1 c4_2 c4_3 f4_0 f4_1 f4_2 f4_3
  replace BK4 := Lib.hid (BK4.out.below hb)
  obtain ⟨c4_0, c4_1, c4_2, c4_3, f4_0, f4_1, f4_2, f4_3⟩ := BK4.out.all4
  clear hb
  go_wp2_with fail
  refine (p_tpreK p pl _ HP.out).mono ?_
  rintro e u2 ⟨rfl, hb⟩
  replace HB := Lib.hid (bth HB.out hb)
  clear c4_0 c4_1 c4_2 c4_3 f4_0 f4_1 f4_2 f4_3
  replace BK4 := Lib.hid (BK4.out.below hb)
  obtain ⟨c4_0, c4_1, c4_2, c4_3, f4_0, f4_1, f4_2, f4_3⟩ := BK4.out.all4
  clear hb
  go_wp2_with fail
  refine (p_digsK pl true _ HLP.out HD.out).mono ?_
  rintro e u3 ⟨rfl, hb⟩
  replace HB := Lib.hid (bth HB.out hb)
  clear c4_0 c4_1 c4_2 c4_3 f4_0 f4_1 f4_2 f4_3
  replace BK4 := Lib.hid (BK4.out.below hb)
  obtain ⟨c4_0, c4_1, c4_2, c4_3, f4_0, f4_1, f4_2, f4_3⟩ := BK4.out.all4
  clear hb
  go_wp2_with fail
  refine (p_parseK p c x _ HX.out HXV.out).mono ?_
  rintro e u4 ⟨va, rfl, hv, hb⟩
  replace HB := Lib.hid (bth HB.out hb)
  clear c4_0 c4_1 c4_2 c4_3 f4_0 f4_1 f4_2 f4_3
  replace BK4 := Lib.hid (BK4.out.below hb)
  obtain ⟨c4_0, c4_1, c4_2, c4_3, f4_0, f4_1, f4_2, f4_3⟩ := BK4.out.all4
  clear hb
  have Ha := Lib.hid hv
  obtain ⟨na, Aa, ka, ca, rfl⟩ := hv.shape
  clear hv
  go_wp2_with (first | ((with_reducible refine gate_dst (N := 10) rfl ?_); refine bx_event rfl (cs := #[.bool false, .slice none 0 0]) (t := 27) ?hr ?_; (case hr => first | (go_simp; done) | (go_simp; rfl)); intro g10 w10 hg bk hb; have HG10 := Lib.hid (Nat.le_trans HB.out.size hg); replace HB := Lib.hid (bth HB.out hb); have HN4_10 := Lib.hid (Nat.ne_of_lt (Nat.lt_of_lt_of_le BK4.out.lt hg)); have ne4_10 := HN4_10.out; have en4_10 := HN4_10.out.symm; clear c4_0 c4_1 c4_2 c4_3 f4_0 f4_1 f4_2 f4_3; replace BK4 := Lib.hid (BK4.out.below hb); obtain ⟨c4_0, c4_1, c4_2, c4_3, f4_0, f4_1, f4_2, f4_3⟩ := BK4.out.all4; replace Ha := Lib.hid (Ha.out.below hb); have BK10 := Lib.hid bk; obtain ⟨c10_0, c10_1, f10_0, f10_1⟩ := BK10.out.all2; clear hb hg bk))
  obtain ⟨x10, hx⟩ : ∃ W, ((w10.setCell ⟨g10, 0, none⟩ (.bool na)).setCell ⟨g10, 1, none⟩ (.slice Aa ka ca)) = W := ⟨_, rfl⟩
  have KP : Kp w10 x10 := hx ▸ BK10.out.kp2 (by decide) (.bool na) (.slice Aa ka ca)
  replace BK4 : Hid (Bx x10 g4 31 #[.bool false, .slice none 0 0, .bool false, .slice none 0 0]) := Lib.hid (hx ▸ BK4.out.far2 HN4_10.out _ _)
  replace BK10 : Hid (Bx x10 g10 27 #[.bool na, .slice Aa ka ca]) := Lib.hid (hx ▸ BK10.out.put2 _ _)
  clear ne4_10 en4_10
  replace HB : Hid (Below w.heap.size w x10) := Lib.hid (hx ▸ below_put2 HB.out HG10.out _ _)
  replace Ha := Lib.hid (Ha.out.kp KP)
  rw [hx]
  clear hx KP
  clear c4_0 c4_1 c4_2 c4_3 f4_0 f4_1 f4_2 f4_3
  clear c10_0 c10_1 f10_0 f10_1
  obtain ⟨c4_0, c4_1, c4_2, c4_3, f4_0, f4_1, f4_2, f4_3⟩ := BK4.out.all4
  obtain ⟨c10_0, c10_1, f10_0, f10_1⟩ := BK10.out.all2
  go_wp2_with fail
  refine bodyPost_ret (results_cell1 rfl _ _ g4 31 #[.bool false, .slice none 0 0, .bool false, .slice none 0 0] (0, 0) _ rfl (BK4.out.put4 _ _ _ _) Tryz.underlying31 rfl (by kernel_rfl)) rfl ?_
  exact ⟨_, rfl, RR.zero _, below_put4 HB.out HG4.out _ _ _ _⟩
set_option maxHeartbeats 1600000 in
theorem read_c6 (l p d pl t0 : List UInt8) (most c x y : Int) (w : World) (hm : mx3 w) (hl : l.length ≤ 1000000) (hc : pre l = p ∧ (if hasSl l = true then post l else []) = d ∧ hasSl l = false) (hp : plain p = pl) (h0 : decide (most < (l.length : Int)) = false) (hd : digs pl = true) (hx : chkI p = 0) (hxv : (if chkI p = 0 then vI p else 0) = x) : Calls Tryz.prog 137 #[.string (S l), .int .i64 most] w (RetRE w (x : Rat) 0) := by
  have HL := Lib.hid hl
  have HM := Lib.hid hm
  have HC := Lib.hid hc
  have HP := Lib.hid hp
  have hsz := S_size l
  have HLP : Hid (pl.length ≤ 1000000) := Lib.hid (by
    have h1 := pre_len l
    have h2 : (plain p).length ≤ p.length := by unfold plain; split <;> simp
    rw [hp] at h2; rw [hc.1] at h1; omega)
  have HLD : Hid (d.length ≤ 1000000) := Lib.hid (by
    rw [← hc.2.1]
    split
    · unfold post; rw [List.length_drop]; omega
    · simp)
  clear hl hm hc hp
  have HD := Lib.hid hd
  have HX := Lib.hid hx
  have HXV := Lib.hid hxv
  clear hd hx hxv
  have HB := Lib.hid (Below.refl w.heap.size w)
  go_enter Tryz.func137, Tryz.ntmps137
  go_wp2_with (first | ((with_reducible refine gate_dst (N := 4) rfl ?_); refine bx_event rfl (cs := #[.bool false, .slice none 0 0, .bool false, .slice none 0 0]) (t := 31) ?hr ?_; (case hr => first | (go_simp; done) | (go_simp; rfl)); intro g4 w4 hg bk hb; have HG4 := Lib.hid (Nat.le_trans HB.out.size hg); replace HB := Lib.hid (bth HB.out hb); have BK4 := Lib.hid bk; obtain ⟨c4_0, c4_1, c4_2, c4_3, f4_0, f4_1, f4_2, f4_3⟩ := BK4.out.all4; clear hb hg bk))
  refine (p_cutK l p d false _ HL.out (HM.out.below HB.out) HC.out).mono ?_
  rintro e u1 ⟨rfl, hb⟩
  replace HB := Lib.hid (bth HB.out hb)
  clear c4_0 c4_1 c4_2 c4_3 f4_0 f4_1 f4_2 f4_3
  replace BK4 := Lib.hid (BK4.out.below hb)
  obtain ⟨c4_0, c4_1, c4_2, c4_3, f4_0, f4_1, f4_2, f4_3⟩ := BK4.out.all4
  clear hb
  go_wp2_with fail
  refine (p_tpreK p pl _ HP.out).mono ?_
  rintro e u2 ⟨rfl, hb⟩
  replace HB := Lib.hid (bth HB.out hb)
  clear c4_0 c4_1 c4_2 c4_3 f4_0 f4_1 f4_2 f4_3
  replace BK4 := Lib.hid (BK4.out.below hb)
  obtain ⟨c4_0, c4_1, c4_2, c4_3, f4_0, f4_1, f4_2, f4_3⟩ := BK4.out.all4
  clear hb
  go_wp2_with fail
  refine (p_digsK pl true _ HLP.out HD.out).mono ?_
  rintro e u3 ⟨rfl, hb⟩
  replace HB := Lib.hid (bth HB.out hb)
  clear c4_0 c4_1 c4_2 c4_3 f4_0 f4_1 f4_2 f4_3
  replace BK4 := Lib.hid (BK4.out.below hb)
  obtain ⟨c4_0, c4_1, c4_2, c4_3, f4_0, f4_1, f4_2, f4_3⟩ := BK4.out.all4
  clear hb
  go_wp2_with fail
  refine (p_parseK p 0 x _ HX.out HXV.out).mono ?_
  rintro e u4 ⟨va, rfl, hv, hb⟩
  replace HB := Lib.hid (bth HB.out hb)
  clear c4_0 c4_1 c4_2 c4_3 f4_0 f4_1 f4_2 f4_3
  replace BK4 := Lib.hid (BK4.out.below hb)
  obtain ⟨c4_0, c4_1, c4_2, c4_3, f4_0, f4_1, f4_2, f4_3⟩ := BK4.out.all4
  clear hb
  have Ha := Lib.hid hv
  obtain ⟨na, Aa, ka, ca, rfl⟩ := hv.shape
  clear hv
  go_wp2_with (first | ((with_reducible refine gate_dst (N := 10) rfl ?_); refine bx_event rfl (cs := #[.bool false, .slice none 0 0]) (t := 27) ?hr ?_; (case hr => first | (go_simp; done) | (go_simp; rfl)); intro g10 w10 hg bk hb; have HG10 := Lib.hid (Nat.le_trans HB.out.size hg); replace HB := Lib.hid (bth HB.out hb); have HN4_10 := Lib.hid (Nat.ne_of_lt (Nat.lt_of_lt_of_le BK4.out.lt hg)); have ne4_10 := HN4_10.out; have en4_10 := HN4_10.out.symm; clear c4_0 c4_1 c4_2 c4_3 f4_0 f4_1 f4_2 f4_3; replace BK4 := Lib.hid (BK4.out.below hb); obtain ⟨c4_0, c4_1, c4_2, c4_3, f4_0, f4_1, f4_2, f4_3⟩ := BK4.out.all4; replace Ha := Lib.hid (Ha.out.below hb); have BK10 := Lib.hid bk; obtain ⟨c10_0, c10_1, f10_0, f10_1⟩ := BK10.out.all2; clear hb hg bk))
  obtain ⟨x10, hx⟩ : ∃ W, ((w10.setCell ⟨g10, 0, none⟩ (.bool na)).setCell ⟨g10, 1, none⟩ (.slice Aa ka ca)) = W := ⟨_, rfl⟩
  have KP : Kp w10 x10 := hx ▸ BK10.out.kp2 (by decide) (.bool na) (.slice Aa ka ca)
  replace BK4 : Hid (Bx x10 g4 31 #[.bool false, .slice none 0 0, .bool false, .slice none 0 0]) := Lib.hid (hx ▸ BK4.out.far2 HN4_10.out _ _)
  replace BK10 : Hid (Bx x10 g10 27 #[.bool na, .slice Aa ka ca]) := Lib.hid (hx ▸ BK10.out.put2 _ _)
  clear ne4_10 en4_10
  replace HB : Hid (Below w.heap.size w x10) := Lib.hid (hx ▸ below_put2 HB.out HG10.out _ _)
  replace Ha := Lib.hid (Ha.out.kp KP)
  rw [hx]
  clear hx KP
  clear c4_0 c4_1 c4_2 c4_3 f4_0 f4_1 f4_2 f4_3
  clear c10_0 c10_1 f10_0 f10_1
  obtain ⟨c4_0, c4_1, c4_2, c4_3, f4_0, f4_1, f4_2, f4_3⟩ := BK4.out.all4
  obtain ⟨c10_0, c10_1, f10_0, f10_1⟩ := BK10.out.all2
  go_wp2_with fail
  refine bodyPost_ret (results_cell1 rfl _ _ g4 31 #[.bool na, .slice Aa ka ca, .bool false, .slice none 0 0] (0, 0) _ rfl (BK4.out.put4 _ _ _ _) Tryz.underlying31 rfl (by kernel_rfl)) rfl ?_
  have KP := BK4.out.kp4 (by decide) (.bool na) (.slice Aa ka ca) (.bool false) (.slice none 0 0)
  exact ⟨_, rfl, RR.ofInt (Ha.out.kp KP), below_put4 HB.out HG4.out _ _ _ _⟩
end Go.Proofs.YtapckjeedekphaaGreatDoor

namespace Go.Proofs.YtapckjeedekphaaGreatDoor
open Go.RowKit Go.Proofs.YtapckjeedekphaaGreatDoorW.PrintWords PR
set_option linter.unusedSimpArgs false
set_option linter.unusedVariables false
set_option maxHeartbeats 3200000 in
theorem read_c7 (l p d pl t0 : List UInt8) (most c x y : Int) (w : World) (hm : mx3 w) (hl : l.length ≤ 1000000) (hc : pre l = p ∧ (if hasSl l = true then post l else []) = d ∧ hasSl l = true) (hp : plain p = pl) (h0 : decide (most < (l.length : Int)) = false) (hd : digs pl = true) (he : digs d = true) (ht : Lib.trimS d [48] = t0) (e0 : ((S t0).toList == []) = false) (hx : chkI p = 0) (hxv : (if chkI p = 0 then vI p else 0) = x) (hy : chkI d = c) (hyv : (if chkI d = 0 then vI d else 0) = y) (ec : (c != 0) = true) {n : Nat} (htx : Td n x) (hty : Td n y) (hn : n ≤ 900000) (hn1 : 1 ≤ n) (htg : Td n (Int.gcd x y : Int)) : Calls Tryz.prog 137 #[.string (S l), .int .i64 most] w (RetRE w 0 3) := by
  have HL := Lib.hid hl
  have HM := Lib.hid hm
  have HC := Lib.hid hc
  have HP := Lib.hid hp
  have hsz := S_size l
  have HLP : Hid (pl.length ≤ 1000000) := Lib.hid (by
    have h1 := pre_len l
    have h2 : (plain p).length ≤ p.length := by unfold plain; split <;> simp
    rw [hp] at h2; rw [hc.1] at h1; omega)
  have HLD : Hid (d.length ≤ 1000000) := Lib.hid (by
    rw [← hc.2.1]
    split
    · unfold post; rw [List.length_drop]; omega
    · simp)
  clear hl hm hc hp
  have HTD := Lib.hid (And.intro htx (And.intro hty (And.intro (show n ≤ 1000000 by omega) (And.intro hn1 htg))))
  clear htx hty hn hn1 htg
  have HD := Lib.hid hd
  have HE := Lib.hid he
  have HT := Lib.hid ht
  have HX := Lib.hid hx
  have HXV := Lib.hid hxv
  have HY := Lib.hid hy
  have HYV := Lib.hid hyv
  clear hd he ht hx hxv hy hyv
  have HB := Lib.hid (Below.refl w.heap.size w)
  go_enter Tryz.func137, Tryz.ntmps137
  go_wp2_with (first | ((with_reducible refine gate_dst (N := 4) rfl ?_); refine bx_event rfl (cs := #[.bool false, .slice none 0 0, .bool false, .slice none 0 0]) (t := 31) ?hr ?_; (case hr => first | (go_simp; done) | (go_simp; rfl)); intro g4 w4 hg bk hb; have HG4 := Lib.hid (Nat.le_trans HB.out.size hg); replace HB := Lib.hid (bth HB.out hb); have BK4 := Lib.hid bk; obtain ⟨c4_0, c4_1, c4_2, c4_3, f4_0, f4_1, f4_2, f4_3⟩ := BK4.out.all4; clear hb hg bk))
  refine (p_cutK l p d true _ HL.out (HM.out.below HB.out) HC.out).mono ?_
  rintro e u1 ⟨rfl, hb⟩
  replace HB := Lib.hid (bth HB.out hb)
  clear c4_0 c4_1 c4_2 c4_3 f4_0 f4_1 f4_2 f4_3
  replace BK4 := Lib.hid (BK4.out.below hb)
  obtain ⟨c4_0, c4_1, c4_2, c4_3, f4_0, f4_1, f4_2, f4_3⟩ := BK4.out.all4
  clear hb
  go_wp2_with fail
  refine (p_tpreK p pl _ HP.out).mono ?_
  rintro e u2 ⟨rfl, hb⟩
  replace HB := Lib.hid (bth HB.out hb)
  clear c4_0 c4_1 c4_2 c4_3 f4_0 f4_1 f4_2 f4_3
  replace BK4 := Lib.hid (BK4.out.below hb)
  obtain ⟨c4_0, c4_1, c4_2, c4_3, f4_0, f4_1, f4_2, f4_3⟩ := BK4.out.all4
  clear hb
  go_wp2_with fail
  refine (p_digsK pl true _ HLP.out HD.out).mono ?_
  rintro e u3 ⟨rfl, hb⟩
  replace HB := Lib.hid (bth HB.out hb)
  clear c4_0 c4_1 c4_2 c4_3 f4_0 f4_1 f4_2 f4_3
  replace BK4 := Lib.hid (BK4.out.below hb)
  obtain ⟨c4_0, c4_1, c4_2, c4_3, f4_0, f4_1, f4_2, f4_3⟩ := BK4.out.all4
  clear hb
  go_wp2_with fail
  refine (p_digsK d true _ HLD.out HE.out).mono ?_
  rintro e u4 ⟨rfl, hb⟩
  replace HB := Lib.hid (bth HB.out hb)
  clear c4_0 c4_1 c4_2 c4_3 f4_0 f4_1 f4_2 f4_3
  replace BK4 := Lib.hid (BK4.out.below hb)
  obtain ⟨c4_0, c4_1, c4_2, c4_3, f4_0, f4_1, f4_2, f4_3⟩ := BK4.out.all4
  clear hb
  go_wp2_with fail
  refine (p_trim0K d t0 _ HLD.out HT.out).mono ?_
  rintro e u5 ⟨rfl, hb⟩
  replace HB := Lib.hid (bth HB.out hb)
  clear c4_0 c4_1 c4_2 c4_3 f4_0 f4_1 f4_2 f4_3
  replace BK4 := Lib.hid (BK4.out.below hb)
  obtain ⟨c4_0, c4_1, c4_2, c4_3, f4_0, f4_1, f4_2, f4_3⟩ := BK4.out.all4
  clear hb
  go_wp2_with fail
  refine (p_parseK p 0 x _ HX.out HXV.out).mono ?_
  rintro e u6 ⟨va, rfl, hv, hb⟩
  replace HB := Lib.hid (bth HB.out hb)
  clear c4_0 c4_1 c4_2 c4_3 f4_0 f4_1 f4_2 f4_3
  replace BK4 := Lib.hid (BK4.out.below hb)
  obtain ⟨c4_0, c4_1, c4_2, c4_3, f4_0, f4_1, f4_2, f4_3⟩ := BK4.out.all4
  clear hb
  have Ha := Lib.hid hv
  obtain ⟨na, Aa, ka, ca, rfl⟩ := hv.shape
  clear hv
  go_wp2_with (first | ((with_reducible refine gate_dst (N := 10) rfl ?_); refine bx_event rfl (cs := #[.bool false, .slice none 0 0]) (t := 27) ?hr ?_; (case hr => first | (go_simp; done) | (go_simp; rfl)); intro g10 w10 hg bk hb; have HG10 := Lib.hid (Nat.le_trans HB.out.size hg); replace HB := Lib.hid (bth HB.out hb); have HN4_10 := Lib.hid (Nat.ne_of_lt (Nat.lt_of_lt_of_le BK4.out.lt hg)); have ne4_10 := HN4_10.out; have en4_10 := HN4_10.out.symm; clear c4_0 c4_1 c4_2 c4_3 f4_0 f4_1 f4_2 f4_3; replace BK4 := Lib.hid (BK4.out.below hb); obtain ⟨c4_0, c4_1, c4_2, c4_3, f4_0, f4_1, f4_2, f4_3⟩ := BK4.out.all4; replace Ha := Lib.hid (Ha.out.below hb); have BK10 := Lib.hid bk; obtain ⟨c10_0, c10_1, f10_0, f10_1⟩ := BK10.out.all2; clear hb hg bk))
  obtain ⟨x10, hx⟩ : ∃ W, ((w10.setCell ⟨g10, 0, none⟩ (.bool na)).setCell ⟨g10, 1, none⟩ (.slice Aa ka ca)) = W := ⟨_, rfl⟩
  have KP : Kp w10 x10 := hx ▸ BK10.out.kp2 (by decide) (.bool na) (.slice Aa ka ca)
  replace BK4 : Hid (Bx x10 g4 31 #[.bool false, .slice none 0 0, .bool false, .slice none 0 0]) := Lib.hid (hx ▸ BK4.out.far2 HN4_10.out _ _)
  replace BK10 : Hid (Bx x10 g10 27 #[.bool na, .slice Aa ka ca]) := Lib.hid (hx ▸ BK10.out.put2 _ _)
  clear ne4_10 en4_10
  replace HB : Hid (Below w.heap.size w x10) := Lib.hid (hx ▸ below_put2 HB.out HG10.out _ _)
  replace Ha := Lib.hid (Ha.out.kp KP)
  rw [hx]
  clear hx KP
  clear c4_0 c4_1 c4_2 c4_3 f4_0 f4_1 f4_2 f4_3
  clear c10_0 c10_1 f10_0 f10_1
  obtain ⟨c4_0, c4_1, c4_2, c4_3, f4_0, f4_1, f4_2, f4_3⟩ := BK4.out.all4
  obtain ⟨c10_0, c10_1, f10_0, f10_1⟩ := BK10.out.all2
  go_wp2_with fail
  refine (p_parseK d c y _ HY.out HYV.out).mono ?_
  rintro e u7 ⟨vb, rfl, hv, hb⟩
  replace HB := Lib.hid (bth HB.out hb)
  clear c4_0 c4_1 c4_2 c4_3 f4_0 f4_1 f4_2 f4_3
  replace BK4 := Lib.hid (BK4.out.below hb)
  obtain ⟨c4_0, c4_1, c4_2, c4_3, f4_0, f4_1, f4_2, f4_3⟩ := BK4.out.all4
  clear c10_0 c10_1 f10_0 f10_1
  replace BK10 := Lib.hid (BK10.out.below hb)
  obtain ⟨c10_0, c10_1, f10_0, f10_1⟩ := BK10.out.all2
  replace Ha := Lib.hid (Ha.out.below hb)
  clear hb
  have Hb := Lib.hid hv
  obtain ⟨nb, Ab, kb, cb, rfl⟩ := hv.shape
  clear hv
  go_wp2_with (first | ((with_reducible refine gate_dst (N := 12) rfl ?_); refine bx_event rfl (cs := #[.bool false, .slice none 0 0]) (t := 27) ?hr ?_; (case hr => first | (go_simp; done) | (go_simp; rfl)); intro g12 w12 hg bk hb; have HG12 := Lib.hid (Nat.le_trans HB.out.size hg); replace HB := Lib.hid (bth HB.out hb); have HN4_12 := Lib.hid (Nat.ne_of_lt (Nat.lt_of_lt_of_le BK4.out.lt hg)); have HN10_12 := Lib.hid (Nat.ne_of_lt (Nat.lt_of_lt_of_le BK10.out.lt hg)); have ne4_12 := HN4_12.out; have en4_12 := HN4_12.out.symm; have ne10_12 := HN10_12.out; have en10_12 := HN10_12.out.symm; clear c4_0 c4_1 c4_2 c4_3 f4_0 f4_1 f4_2 f4_3; replace BK4 := Lib.hid (BK4.out.below hb); obtain ⟨c4_0, c4_1, c4_2, c4_3, f4_0, f4_1, f4_2, f4_3⟩ := BK4.out.all4; clear c10_0 c10_1 f10_0 f10_1; replace BK10 := Lib.hid (BK10.out.below hb); obtain ⟨c10_0, c10_1, f10_0, f10_1⟩ := BK10.out.all2; replace Ha := Lib.hid (Ha.out.below hb); replace Hb := Lib.hid (Hb.out.below hb); have BK12 := Lib.hid bk; obtain ⟨c12_0, c12_1, f12_0, f12_1⟩ := BK12.out.all2; clear hb hg bk))
  obtain ⟨x12, hx⟩ : ∃ W, ((w12.setCell ⟨g12, 0, none⟩ (.bool nb)).setCell ⟨g12, 1, none⟩ (.slice Ab kb cb)) = W := ⟨_, rfl⟩
  have KP : Kp w12 x12 := hx ▸ BK12.out.kp2 (by decide) (.bool nb) (.slice Ab kb cb)
  replace BK4 : Hid (Bx x12 g4 31 #[.bool false, .slice none 0 0, .bool false, .slice none 0 0]) := Lib.hid (hx ▸ BK4.out.far2 HN4_12.out _ _)
  replace BK10 : Hid (Bx x12 g10 27 #[.bool na, .slice Aa ka ca]) := Lib.hid (hx ▸ BK10.out.far2 HN10_12.out _ _)
  replace BK12 : Hid (Bx x12 g12 27 #[.bool nb, .slice Ab kb cb]) := Lib.hid (hx ▸ BK12.out.put2 _ _)
  clear ne4_12 en4_12 ne10_12 en10_12
  replace HB : Hid (Below w.heap.size w x12) := Lib.hid (hx ▸ below_put2 HB.out HG12.out _ _)
  replace Ha := Lib.hid (Ha.out.kp KP)
  replace Hb := Lib.hid (Hb.out.kp KP)
  rw [hx]
  clear hx KP
  clear c4_0 c4_1 c4_2 c4_3 f4_0 f4_1 f4_2 f4_3
  clear c10_0 c10_1 f10_0 f10_1
  clear c12_0 c12_1 f12_0 f12_1
  obtain ⟨c4_0, c4_1, c4_2, c4_3, f4_0, f4_1, f4_2, f4_3⟩ := BK4.out.all4
  obtain ⟨c10_0, c10_1, f10_0, f10_1⟩ := BK10.out.all2
  obtain ⟨c12_0, c12_1, f12_0, f12_1⟩ := BK12.out.all2
  go_wp2_with fail
  have hb := below_drew (Below.refl x12.heap.size x12)
  replace HB := Lib.hid (bth HB.out hb)
  replace BK4 := Lib.hid (BK4.out.below hb)
  replace BK10 := Lib.hid (BK10.out.below hb)
  replace BK12 := Lib.hid (BK12.out.below hb)
  replace Ha := Lib.hid (Ha.out.below hb)
  replace Hb := Lib.hid (Hb.out.below hb)
  clear hb
  clear c4_0 c4_1 c4_2 c4_3 f4_0 f4_1 f4_2 f4_3
  clear c10_0 c10_1 f10_0 f10_1
  clear c12_0 c12_1 f12_0 f12_1
  refine wpL_start 1000 (fun w' => w'.cell? ⟨g10, 0, none⟩ = some (.bool na) ∧ w'.cell? ⟨g10, 1, none⟩ = some (.slice Aa ka ca) ∧ w'.cell? ⟨g12, 0, none⟩ = some (.bool nb) ∧ w'.cell? ⟨g12, 1, none⟩ = some (.slice Ab kb cb)) 1000 (fun w' => True) (by kernel_rfl) (⟨BK10.out.cell 0, BK10.out.cell 1, BK12.out.cell 0, BK12.out.cell 1⟩) (trivial) (fun hS => ?_)
  refine wpM1 (i := 0) (v := .int .i64 c) (some 65) rfl rfl (by kernel_rfl) (fun _ _ _ h => h) hS (Or.inl ⟨by rfl, fun w hSw => ?_⟩) (fun hS => ?_)
  · (try dsimp only at hSw); clear hS; first | (go_simp; done) | (go_simp; with_reducible rfl)
  (try simp only [Act.put, List.setIfInBounds_toArray, List.set_cons_zero, List.set_cons_succ])
  refine wpM1 (i := 1) (v := .bool true) (some 66) rfl rfl (by kernel_rfl) (fun _ _ _ h => h) hS (Or.inl ⟨by rfl, fun w hSw => ?_⟩) (fun hS => ?_)
  · (try dsimp only at hSw); clear hS; first | (go_simp; done) | (go_simp; with_reducible rfl)
  (try simp only [Act.put, List.setIfInBounds_toArray, List.set_cons_zero, List.set_cons_succ])
  refine wpM1 (i := 2) (v := .bool true) (some 67) rfl rfl (by kernel_rfl) (fun _ _ _ h => h) hS (Or.inl ⟨by rfl, fun w hSw => ?_⟩) (fun hS => ?_)
  · (try dsimp only at hSw); clear hS; first | (go_simp; done) | (go_simp; with_reducible rfl)
  (try simp only [Act.put, List.setIfInBounds_toArray, List.set_cons_zero, List.set_cons_succ])
  refine wpM2 (i := 3) (v := undef) (some 68) rfl rfl (by kernel_rfl) (fun _ _ _ h => h) hS (Or.inr ⟨by rfl, rfl⟩) (fun hS => ?_)
  (try simp only [Act.put, List.setIfInBounds_toArray, List.set_cons_zero, List.set_cons_succ])
  refine wpM2 (i := 4) (v := undef) (some 69) rfl rfl (by kernel_rfl) (fun _ _ _ h => h) hS (Or.inr ⟨by rfl, rfl⟩) (fun hS => ?_)
  (try simp only [Act.put, List.setIfInBounds_toArray, List.set_cons_zero, List.set_cons_succ])
  refine wpM2 (i := 5) (v := undef) (some 70) rfl rfl (by kernel_rfl) (fun _ _ _ h => h) hS (Or.inr ⟨by rfl, rfl⟩) (fun hS => ?_)
  (try simp only [Act.put, List.setIfInBounds_toArray, List.set_cons_zero, List.set_cons_succ])
  refine wpM2 (i := 6) (v := undef) (some 71) rfl rfl (by kernel_rfl) (fun _ _ _ h => h) hS (Or.inr ⟨by rfl, rfl⟩) (fun hS => ?_)
  (try simp only [Act.put, List.setIfInBounds_toArray, List.set_cons_zero, List.set_cons_succ])
  refine wpM1 (i := 7) (v := .bool true) (some 72) rfl rfl (by kernel_rfl) (fun _ _ _ h => h) hS (Or.inl ⟨by rfl, fun w hSw => ?_⟩) (fun hS => ?_)
  · (try dsimp only at hSw); clear hS; first | (go_simp; done) | (go_simp; with_reducible rfl)
  (try simp only [Act.put, List.setIfInBounds_toArray, List.set_cons_zero, List.set_cons_succ])
  refine wpM1 (i := 8) (v := .bool true) (some 73) rfl rfl (by kernel_rfl) (fun _ _ _ h => h) hS (Or.inl ⟨by rfl, fun w hSw => ?_⟩) (fun hS => ?_)
  · (try dsimp only at hSw); clear hS; first | (go_simp; done) | (go_simp; with_reducible rfl)
  (try simp only [Act.put, List.setIfInBounds_toArray, List.set_cons_zero, List.set_cons_succ])
  refine wpM2 (i := 9) (v := undef) (some 74) rfl rfl (by kernel_rfl) (fun _ _ _ h => h) hS (Or.inr ⟨by rfl, rfl⟩) (fun hS => ?_)
  (try simp only [Act.put, List.setIfInBounds_toArray, List.set_cons_zero, List.set_cons_succ])
  refine wpM2 (i := 10) (v := undef) (some 75) rfl rfl (by kernel_rfl) (fun _ _ _ h => h) hS (Or.inr ⟨by rfl, rfl⟩) (fun hS => ?_)
  (try simp only [Act.put, List.setIfInBounds_toArray, List.set_cons_zero, List.set_cons_succ])
  refine wpM2 (i := 11) (v := undef) (some 76) rfl rfl (by kernel_rfl) (fun _ _ _ h => h) hS (Or.inr ⟨by rfl, rfl⟩) (fun hS => ?_)
  (try simp only [Act.put, List.setIfInBounds_toArray, List.set_cons_zero, List.set_cons_succ])
  refine wpM2 (i := 12) (v := undef) (some 77) rfl rfl (by kernel_rfl) (fun _ _ _ h => h) hS (Or.inr ⟨by rfl, rfl⟩) (fun hS => ?_)
  (try simp only [Act.put, List.setIfInBounds_toArray, List.set_cons_zero, List.set_cons_succ])
  refine wpM2 (i := 13) (v := undef) (some 78) rfl rfl (by kernel_rfl) (fun _ _ _ h => h) hS (Or.inr ⟨by rfl, rfl⟩) (fun hS => ?_)
  (try simp only [Act.put, List.setIfInBounds_toArray, List.set_cons_zero, List.set_cons_succ])
  refine wpM2 (i := 14) (v := undef) (some 79) rfl rfl (by kernel_rfl) (fun _ _ _ h => h) hS (Or.inr ⟨by rfl, rfl⟩) (fun hS => ?_)
  (try simp only [Act.put, List.setIfInBounds_toArray, List.set_cons_zero, List.set_cons_succ])
  refine wpM1 (i := 15) (v := .bool true) (some 80) rfl rfl (by kernel_rfl) (fun _ _ _ h => h) hS (Or.inl ⟨by rfl, fun w hSw => ?_⟩) (fun hS => ?_)
  · (try dsimp only at hSw); clear hS; first | (go_simp; done) | (go_simp; with_reducible rfl)
  (try simp only [Act.put, List.setIfInBounds_toArray, List.set_cons_zero, List.set_cons_succ])
  refine wpL_done (by kernel_rfl) ?_ _
  clear hS
  obtain ⟨c4_0, c4_1, c4_2, c4_3, f4_0, f4_1, f4_2, f4_3⟩ := (show Bx x12 _ _ _ from BK4.out).all4
  obtain ⟨c10_0, c10_1, f10_0, f10_1⟩ := (show Bx x12 _ _ _ from BK10.out).all2
  obtain ⟨c12_0, c12_1, f12_0, f12_1⟩ := (show Bx x12 _ _ _ from BK12.out).all2
  go_wp2_with fail
  refine bodyPost_ret (results_cell1 rfl _ _ g4 31 #[.bool false, .slice none 0 0, .bool false, .slice none 0 0] (0, 0) _ rfl (BK4.out.put4 _ _ _ _) Tryz.underlying31 rfl (by kernel_rfl)) rfl ?_
  exact ⟨_, rfl, RR.zero _, below_put4 HB.out HG4.out _ _ _ _⟩
set_option maxHeartbeats 3200000 in
theorem read_c8 (l p d pl t0 : List UInt8) (most c x y : Int) (w : World) (hm : mx3 w) (hl : l.length ≤ 1000000) (hc : pre l = p ∧ (if hasSl l = true then post l else []) = d ∧ hasSl l = true) (hp : plain p = pl) (h0 : decide (most < (l.length : Int)) = false) (hd : digs pl = true) (he : digs d = true) (ht : Lib.trimS d [48] = t0) (e0 : ((S t0).toList == []) = false) (hx : chkI p = 0) (hxv : (if chkI p = 0 then vI p else 0) = x) (hy : chkI d = 0) (hyv : (if chkI d = 0 then vI d else 0) = y) (e1 : (cmp y 1 == 0) = true) {n : Nat} (htx : Td n x) (hty : Td n y) (hn : n ≤ 900000) (hn1 : 1 ≤ n) (htg : Td n (Int.gcd x y : Int)) : Calls Tryz.prog 137 #[.string (S l), .int .i64 most] w (RetRE w 0 3) := by
  have HL := Lib.hid hl
  have HM := Lib.hid hm
  have HC := Lib.hid hc
  have HP := Lib.hid hp
  have hsz := S_size l
  have HLP : Hid (pl.length ≤ 1000000) := Lib.hid (by
    have h1 := pre_len l
    have h2 : (plain p).length ≤ p.length := by unfold plain; split <;> simp
    rw [hp] at h2; rw [hc.1] at h1; omega)
  have HLD : Hid (d.length ≤ 1000000) := Lib.hid (by
    rw [← hc.2.1]
    split
    · unfold post; rw [List.length_drop]; omega
    · simp)
  clear hl hm hc hp
  have HTD := Lib.hid (And.intro htx (And.intro hty (And.intro (show n ≤ 1000000 by omega) (And.intro hn1 htg))))
  clear htx hty hn hn1 htg
  have HD := Lib.hid hd
  have HE := Lib.hid he
  have HT := Lib.hid ht
  have HX := Lib.hid hx
  have HXV := Lib.hid hxv
  have HY := Lib.hid hy
  have HYV := Lib.hid hyv
  clear hd he ht hx hxv hy hyv
  have HB := Lib.hid (Below.refl w.heap.size w)
  go_enter Tryz.func137, Tryz.ntmps137
  go_wp2_with (first | ((with_reducible refine gate_dst (N := 4) rfl ?_); refine bx_event rfl (cs := #[.bool false, .slice none 0 0, .bool false, .slice none 0 0]) (t := 31) ?hr ?_; (case hr => first | (go_simp; done) | (go_simp; rfl)); intro g4 w4 hg bk hb; have HG4 := Lib.hid (Nat.le_trans HB.out.size hg); replace HB := Lib.hid (bth HB.out hb); have BK4 := Lib.hid bk; obtain ⟨c4_0, c4_1, c4_2, c4_3, f4_0, f4_1, f4_2, f4_3⟩ := BK4.out.all4; clear hb hg bk))
  refine (p_cutK l p d true _ HL.out (HM.out.below HB.out) HC.out).mono ?_
  rintro e u1 ⟨rfl, hb⟩
  replace HB := Lib.hid (bth HB.out hb)
  clear c4_0 c4_1 c4_2 c4_3 f4_0 f4_1 f4_2 f4_3
  replace BK4 := Lib.hid (BK4.out.below hb)
  obtain ⟨c4_0, c4_1, c4_2, c4_3, f4_0, f4_1, f4_2, f4_3⟩ := BK4.out.all4
  clear hb
  go_wp2_with fail
  refine (p_tpreK p pl _ HP.out).mono ?_
  rintro e u2 ⟨rfl, hb⟩
  replace HB := Lib.hid (bth HB.out hb)
  clear c4_0 c4_1 c4_2 c4_3 f4_0 f4_1 f4_2 f4_3
  replace BK4 := Lib.hid (BK4.out.below hb)
  obtain ⟨c4_0, c4_1, c4_2, c4_3, f4_0, f4_1, f4_2, f4_3⟩ := BK4.out.all4
  clear hb
  go_wp2_with fail
  refine (p_digsK pl true _ HLP.out HD.out).mono ?_
  rintro e u3 ⟨rfl, hb⟩
  replace HB := Lib.hid (bth HB.out hb)
  clear c4_0 c4_1 c4_2 c4_3 f4_0 f4_1 f4_2 f4_3
  replace BK4 := Lib.hid (BK4.out.below hb)
  obtain ⟨c4_0, c4_1, c4_2, c4_3, f4_0, f4_1, f4_2, f4_3⟩ := BK4.out.all4
  clear hb
  go_wp2_with fail
  refine (p_digsK d true _ HLD.out HE.out).mono ?_
  rintro e u4 ⟨rfl, hb⟩
  replace HB := Lib.hid (bth HB.out hb)
  clear c4_0 c4_1 c4_2 c4_3 f4_0 f4_1 f4_2 f4_3
  replace BK4 := Lib.hid (BK4.out.below hb)
  obtain ⟨c4_0, c4_1, c4_2, c4_3, f4_0, f4_1, f4_2, f4_3⟩ := BK4.out.all4
  clear hb
  go_wp2_with fail
  refine (p_trim0K d t0 _ HLD.out HT.out).mono ?_
  rintro e u5 ⟨rfl, hb⟩
  replace HB := Lib.hid (bth HB.out hb)
  clear c4_0 c4_1 c4_2 c4_3 f4_0 f4_1 f4_2 f4_3
  replace BK4 := Lib.hid (BK4.out.below hb)
  obtain ⟨c4_0, c4_1, c4_2, c4_3, f4_0, f4_1, f4_2, f4_3⟩ := BK4.out.all4
  clear hb
  go_wp2_with fail
  refine (p_parseK p 0 x _ HX.out HXV.out).mono ?_
  rintro e u6 ⟨va, rfl, hv, hb⟩
  replace HB := Lib.hid (bth HB.out hb)
  clear c4_0 c4_1 c4_2 c4_3 f4_0 f4_1 f4_2 f4_3
  replace BK4 := Lib.hid (BK4.out.below hb)
  obtain ⟨c4_0, c4_1, c4_2, c4_3, f4_0, f4_1, f4_2, f4_3⟩ := BK4.out.all4
  clear hb
  have Ha := Lib.hid hv
  obtain ⟨na, Aa, ka, ca, rfl⟩ := hv.shape
  clear hv
  go_wp2_with (first | ((with_reducible refine gate_dst (N := 10) rfl ?_); refine bx_event rfl (cs := #[.bool false, .slice none 0 0]) (t := 27) ?hr ?_; (case hr => first | (go_simp; done) | (go_simp; rfl)); intro g10 w10 hg bk hb; have HG10 := Lib.hid (Nat.le_trans HB.out.size hg); replace HB := Lib.hid (bth HB.out hb); have HN4_10 := Lib.hid (Nat.ne_of_lt (Nat.lt_of_lt_of_le BK4.out.lt hg)); have ne4_10 := HN4_10.out; have en4_10 := HN4_10.out.symm; clear c4_0 c4_1 c4_2 c4_3 f4_0 f4_1 f4_2 f4_3; replace BK4 := Lib.hid (BK4.out.below hb); obtain ⟨c4_0, c4_1, c4_2, c4_3, f4_0, f4_1, f4_2, f4_3⟩ := BK4.out.all4; replace Ha := Lib.hid (Ha.out.below hb); have BK10 := Lib.hid bk; obtain ⟨c10_0, c10_1, f10_0, f10_1⟩ := BK10.out.all2; clear hb hg bk))
  obtain ⟨x10, hx⟩ : ∃ W, ((w10.setCell ⟨g10, 0, none⟩ (.bool na)).setCell ⟨g10, 1, none⟩ (.slice Aa ka ca)) = W := ⟨_, rfl⟩
  have KP : Kp w10 x10 := hx ▸ BK10.out.kp2 (by decide) (.bool na) (.slice Aa ka ca)
  replace BK4 : Hid (Bx x10 g4 31 #[.bool false, .slice none 0 0, .bool false, .slice none 0 0]) := Lib.hid (hx ▸ BK4.out.far2 HN4_10.out _ _)
  replace BK10 : Hid (Bx x10 g10 27 #[.bool na, .slice Aa ka ca]) := Lib.hid (hx ▸ BK10.out.put2 _ _)
  clear ne4_10 en4_10
  replace HB : Hid (Below w.heap.size w x10) := Lib.hid (hx ▸ below_put2 HB.out HG10.out _ _)
  replace Ha := Lib.hid (Ha.out.kp KP)
  rw [hx]
  clear hx KP
  clear c4_0 c4_1 c4_2 c4_3 f4_0 f4_1 f4_2 f4_3
  clear c10_0 c10_1 f10_0 f10_1
  obtain ⟨c4_0, c4_1, c4_2, c4_3, f4_0, f4_1, f4_2, f4_3⟩ := BK4.out.all4
  obtain ⟨c10_0, c10_1, f10_0, f10_1⟩ := BK10.out.all2
  go_wp2_with fail
  refine (p_parseK d 0 y _ HY.out HYV.out).mono ?_
  rintro e u7 ⟨vb, rfl, hv, hb⟩
  replace HB := Lib.hid (bth HB.out hb)
  clear c4_0 c4_1 c4_2 c4_3 f4_0 f4_1 f4_2 f4_3
  replace BK4 := Lib.hid (BK4.out.below hb)
  obtain ⟨c4_0, c4_1, c4_2, c4_3, f4_0, f4_1, f4_2, f4_3⟩ := BK4.out.all4
  clear c10_0 c10_1 f10_0 f10_1
  replace BK10 := Lib.hid (BK10.out.below hb)
  obtain ⟨c10_0, c10_1, f10_0, f10_1⟩ := BK10.out.all2
  replace Ha := Lib.hid (Ha.out.below hb)
  clear hb
  have Hb := Lib.hid hv
  obtain ⟨nb, Ab, kb, cb, rfl⟩ := hv.shape
  clear hv
  go_wp2_with (first | ((with_reducible refine gate_dst (N := 12) rfl ?_); refine bx_event rfl (cs := #[.bool false, .slice none 0 0]) (t := 27) ?hr ?_; (case hr => first | (go_simp; done) | (go_simp; rfl)); intro g12 w12 hg bk hb; have HG12 := Lib.hid (Nat.le_trans HB.out.size hg); replace HB := Lib.hid (bth HB.out hb); have HN4_12 := Lib.hid (Nat.ne_of_lt (Nat.lt_of_lt_of_le BK4.out.lt hg)); have HN10_12 := Lib.hid (Nat.ne_of_lt (Nat.lt_of_lt_of_le BK10.out.lt hg)); have ne4_12 := HN4_12.out; have en4_12 := HN4_12.out.symm; have ne10_12 := HN10_12.out; have en10_12 := HN10_12.out.symm; clear c4_0 c4_1 c4_2 c4_3 f4_0 f4_1 f4_2 f4_3; replace BK4 := Lib.hid (BK4.out.below hb); obtain ⟨c4_0, c4_1, c4_2, c4_3, f4_0, f4_1, f4_2, f4_3⟩ := BK4.out.all4; clear c10_0 c10_1 f10_0 f10_1; replace BK10 := Lib.hid (BK10.out.below hb); obtain ⟨c10_0, c10_1, f10_0, f10_1⟩ := BK10.out.all2; replace Ha := Lib.hid (Ha.out.below hb); replace Hb := Lib.hid (Hb.out.below hb); have BK12 := Lib.hid bk; obtain ⟨c12_0, c12_1, f12_0, f12_1⟩ := BK12.out.all2; clear hb hg bk))
  obtain ⟨x12, hx⟩ : ∃ W, ((w12.setCell ⟨g12, 0, none⟩ (.bool nb)).setCell ⟨g12, 1, none⟩ (.slice Ab kb cb)) = W := ⟨_, rfl⟩
  have KP : Kp w12 x12 := hx ▸ BK12.out.kp2 (by decide) (.bool nb) (.slice Ab kb cb)
  replace BK4 : Hid (Bx x12 g4 31 #[.bool false, .slice none 0 0, .bool false, .slice none 0 0]) := Lib.hid (hx ▸ BK4.out.far2 HN4_12.out _ _)
  replace BK10 : Hid (Bx x12 g10 27 #[.bool na, .slice Aa ka ca]) := Lib.hid (hx ▸ BK10.out.far2 HN10_12.out _ _)
  replace BK12 : Hid (Bx x12 g12 27 #[.bool nb, .slice Ab kb cb]) := Lib.hid (hx ▸ BK12.out.put2 _ _)
  clear ne4_12 en4_12 ne10_12 en10_12
  replace HB : Hid (Below w.heap.size w x12) := Lib.hid (hx ▸ below_put2 HB.out HG12.out _ _)
  replace Ha := Lib.hid (Ha.out.kp KP)
  replace Hb := Lib.hid (Hb.out.kp KP)
  rw [hx]
  clear hx KP
  clear c4_0 c4_1 c4_2 c4_3 f4_0 f4_1 f4_2 f4_3
  clear c10_0 c10_1 f10_0 f10_1
  clear c12_0 c12_1 f12_0 f12_1
  obtain ⟨c4_0, c4_1, c4_2, c4_3, f4_0, f4_1, f4_2, f4_3⟩ := BK4.out.all4
  obtain ⟨c10_0, c10_1, f10_0, f10_1⟩ := BK10.out.all2
  obtain ⟨c12_0, c12_1, f12_0, f12_1⟩ := BK12.out.all2
  go_wp2_with fail
  have hb := below_drew (Below.refl x12.heap.size x12)
  replace HB := Lib.hid (bth HB.out hb)
  replace BK4 := Lib.hid (BK4.out.below hb)
  replace BK10 := Lib.hid (BK10.out.below hb)
  replace BK12 := Lib.hid (BK12.out.below hb)
  replace Ha := Lib.hid (Ha.out.below hb)
  replace Hb := Lib.hid (Hb.out.below hb)
  clear hb
  clear c4_0 c4_1 c4_2 c4_3 f4_0 f4_1 f4_2 f4_3
  clear c10_0 c10_1 f10_0 f10_1
  clear c12_0 c12_1 f12_0 f12_1
  refine wpL_start 1000 (fun w' => w'.cell? ⟨g10, 0, none⟩ = some (.bool na) ∧ w'.cell? ⟨g10, 1, none⟩ = some (.slice Aa ka ca) ∧ w'.cell? ⟨g12, 0, none⟩ = some (.bool nb) ∧ w'.cell? ⟨g12, 1, none⟩ = some (.slice Ab kb cb)) 1000 (fun w' => True) (by kernel_rfl) (⟨BK10.out.cell 0, BK10.out.cell 1, BK12.out.cell 0, BK12.out.cell 1⟩) (trivial) (fun hS => ?_)
  refine wpM1 (i := 0) (v := .int .i64 0) (some 65) rfl rfl (by kernel_rfl) (fun _ _ _ h => h) hS (Or.inl ⟨by rfl, fun w hSw => ?_⟩) (fun hS => ?_)
  · (try dsimp only at hSw); clear hS; first | (go_simp; done) | (go_simp; with_reducible rfl)
  (try simp only [Act.put, List.setIfInBounds_toArray, List.set_cons_zero, List.set_cons_succ])
  refine wpM1 (i := 1) (v := .bool false) (some 66) rfl rfl (by kernel_rfl) (fun _ _ _ h => h) hS (Or.inl ⟨by rfl, fun w hSw => ?_⟩) (fun hS => ?_)
  · (try dsimp only at hSw); clear hS; first | (go_simp; done) | (go_simp; with_reducible rfl)
  (try simp only [Act.put, List.setIfInBounds_toArray, List.set_cons_zero, List.set_cons_succ])
  refine wpM1 (i := 2) (v := .bool false) (some 67) rfl rfl (by kernel_rfl) (fun _ _ _ h => h) hS (Or.inl ⟨by rfl, fun w hSw => ?_⟩) (fun hS => ?_)
  · (try dsimp only at hSw); clear hS; first | (go_simp; done) | (go_simp; with_reducible rfl)
  (try simp only [Act.put, List.setIfInBounds_toArray, List.set_cons_zero, List.set_cons_succ])
  refine wpM1 (i := 3) (v := .agg #[.bool nb, .slice Ab kb cb]) (some 68) rfl rfl (by kernel_rfl) (fun _ _ _ h => h) hS (Or.inl ⟨by rfl, fun w hSw => ?_⟩) (fun hS => ?_)
  · (try dsimp only at hSw); clear hS; first | (go_simp; done) | (go_simp; with_reducible rfl)
  (try simp only [Act.put, List.setIfInBounds_toArray, List.set_cons_zero, List.set_cons_succ])
  refine wpL_one (i := 4) (by kernel_rfl) rfl (by rfl) (fun K hK => ?_)
  clear hS
  go_simp
  refine (p_one _).mono ?_
  rintro e u ⟨v1, rfl, hv1, hb⟩
  replace HB := Lib.hid (bth HB.out hb)
  replace BK4 := Lib.hid (BK4.out.below hb)
  replace BK10 := Lib.hid (BK10.out.below hb)
  replace BK12 := Lib.hid (BK12.out.below hb)
  replace Ha := Lib.hid (Ha.out.below hb)
  replace Hb := Lib.hid (Hb.out.below hb)
  clear hb
  obtain ⟨m1, B1, j1, d1, rfl, HV1⟩ := RetI.shape_ hv1
  clear hv1
  refine hK.out _ _ ⟨Or.inr (⟨BK10.out.cell 0, BK10.out.cell 1, BK12.out.cell 0, BK12.out.cell 1⟩), Or.inr (trivial)⟩ (fun hS => ?_)
  clear hK K
  (try simp only [Act.put, List.setIfInBounds_toArray, List.set_cons_zero, List.set_cons_succ])
  refine wpL_one (i := 5) (by kernel_rfl) rfl (by rfl) (fun K hK => ?_)
  clear hS
  go_simp
  refine (p_cmp _ _ y 1 _ Hb.out HV1.out (n := n) HTD.out.2.1 (Td_mono (Td_one 0) HTD.out.2.2.2.1) HTD.out.2.2.1).mono ?_
  rintro e u ⟨rfl, hb⟩
  replace HB := Lib.hid (bth HB.out hb)
  replace BK4 := Lib.hid (BK4.out.below hb)
  replace BK10 := Lib.hid (BK10.out.below hb)
  replace BK12 := Lib.hid (BK12.out.below hb)
  replace Ha := Lib.hid (Ha.out.below hb)
  replace Hb := Lib.hid (Hb.out.below hb)
  clear hb
  clear HV1
  refine hK.out _ _ ⟨Or.inr (⟨BK10.out.cell 0, BK10.out.cell 1, BK12.out.cell 0, BK12.out.cell 1⟩), Or.inr (trivial)⟩ (fun hS => ?_)
  clear hK K
  (try simp only [Act.put, List.setIfInBounds_toArray, List.set_cons_zero, List.set_cons_succ])
  refine wpM1 (i := 6) (v := .bool true) (some 71) rfl rfl (by kernel_rfl) (fun _ _ _ h => h) hS (Or.inl ⟨by rfl, fun w hSw => ?_⟩) (fun hS => ?_)
  · (try dsimp only at hSw); clear hS; first | (go_simp; done) | (go_simp; with_reducible rfl)
  (try simp only [Act.put, List.setIfInBounds_toArray, List.set_cons_zero, List.set_cons_succ])
  refine wpM1 (i := 7) (v := .bool true) (some 72) rfl rfl (by kernel_rfl) (fun _ _ _ h => h) hS (Or.inl ⟨by rfl, fun w hSw => ?_⟩) (fun hS => ?_)
  · (try dsimp only at hSw); clear hS; first | (go_simp; done) | (go_simp; with_reducible rfl)
  (try simp only [Act.put, List.setIfInBounds_toArray, List.set_cons_zero, List.set_cons_succ])
  refine wpM1 (i := 8) (v := .bool true) (some 73) rfl rfl (by kernel_rfl) (fun _ _ _ h => h) hS (Or.inl ⟨by rfl, fun w hSw => ?_⟩) (fun hS => ?_)
  · (try dsimp only at hSw); clear hS; first | (go_simp; done) | (go_simp; with_reducible rfl)
  (try simp only [Act.put, List.setIfInBounds_toArray, List.set_cons_zero, List.set_cons_succ])
  refine wpM2 (i := 9) (v := undef) (some 74) rfl rfl (by kernel_rfl) (fun _ _ _ h => h) hS (Or.inr ⟨by rfl, rfl⟩) (fun hS => ?_)
  (try simp only [Act.put, List.setIfInBounds_toArray, List.set_cons_zero, List.set_cons_succ])
  refine wpM2 (i := 10) (v := undef) (some 75) rfl rfl (by kernel_rfl) (fun _ _ _ h => h) hS (Or.inr ⟨by rfl, rfl⟩) (fun hS => ?_)
  (try simp only [Act.put, List.setIfInBounds_toArray, List.set_cons_zero, List.set_cons_succ])
  refine wpM2 (i := 11) (v := undef) (some 76) rfl rfl (by kernel_rfl) (fun _ _ _ h => h) hS (Or.inr ⟨by rfl, rfl⟩) (fun hS => ?_)
  (try simp only [Act.put, List.setIfInBounds_toArray, List.set_cons_zero, List.set_cons_succ])
  refine wpM2 (i := 12) (v := undef) (some 77) rfl rfl (by kernel_rfl) (fun _ _ _ h => h) hS (Or.inr ⟨by rfl, rfl⟩) (fun hS => ?_)
  (try simp only [Act.put, List.setIfInBounds_toArray, List.set_cons_zero, List.set_cons_succ])
  refine wpM2 (i := 13) (v := undef) (some 78) rfl rfl (by kernel_rfl) (fun _ _ _ h => h) hS (Or.inr ⟨by rfl, rfl⟩) (fun hS => ?_)
  (try simp only [Act.put, List.setIfInBounds_toArray, List.set_cons_zero, List.set_cons_succ])
  refine wpM2 (i := 14) (v := undef) (some 79) rfl rfl (by kernel_rfl) (fun _ _ _ h => h) hS (Or.inr ⟨by rfl, rfl⟩) (fun hS => ?_)
  (try simp only [Act.put, List.setIfInBounds_toArray, List.set_cons_zero, List.set_cons_succ])
  refine wpM1 (i := 15) (v := .bool true) (some 80) rfl rfl (by kernel_rfl) (fun _ _ _ h => h) hS (Or.inl ⟨by rfl, fun w hSw => ?_⟩) (fun hS => ?_)
  · (try dsimp only at hSw); clear hS; first | (go_simp; done) | (go_simp; with_reducible rfl)
  (try simp only [Act.put, List.setIfInBounds_toArray, List.set_cons_zero, List.set_cons_succ])
  refine wpL_done (by kernel_rfl) ?_ _
  clear hS
  obtain ⟨c4_0, c4_1, c4_2, c4_3, f4_0, f4_1, f4_2, f4_3⟩ := BK4.out.all4
  obtain ⟨c10_0, c10_1, f10_0, f10_1⟩ := BK10.out.all2
  obtain ⟨c12_0, c12_1, f12_0, f12_1⟩ := BK12.out.all2
  go_wp2_with fail
  refine bodyPost_ret (results_cell1 rfl _ _ g4 31 #[.bool false, .slice none 0 0, .bool false, .slice none 0 0] (0, 0) _ rfl (BK4.out.put4 _ _ _ _) Tryz.underlying31 rfl (by kernel_rfl)) rfl ?_
  exact ⟨_, rfl, RR.zero _, below_put4 HB.out HG4.out _ _ _ _⟩
set_option maxHeartbeats 3200000 in
theorem read_c9 (l p d pl t0 : List UInt8) (most c x y : Int) (w : World) (hm : mx3 w) (hl : l.length ≤ 1000000) (hc : pre l = p ∧ (if hasSl l = true then post l else []) = d ∧ hasSl l = true) (hp : plain p = pl) (h0 : decide (most < (l.length : Int)) = false) (hd : digs pl = true) (he : digs d = true) (ht : Lib.trimS d [48] = t0) (e0 : ((S t0).toList == []) = false) (hx : chkI p = 0) (hxv : (if chkI p = 0 then vI p else 0) = x) (hy : chkI d = 0) (hyv : (if chkI d = 0 then vI d else 0) = y) (e1 : (cmp y 1 == 0) = false) (e2 : (cmp (Int.gcd x y : Int) 1 != 0) = true) {n : Nat} (htx : Td n x) (hty : Td n y) (hn : n ≤ 900000) (hn1 : 1 ≤ n) (htg : Td n (Int.gcd x y : Int)) : Calls Tryz.prog 137 #[.string (S l), .int .i64 most] w (RetRE w 0 3) := by
  have HL := Lib.hid hl
  have HM := Lib.hid hm
  have HC := Lib.hid hc
  have HP := Lib.hid hp
  have hsz := S_size l
  have HLP : Hid (pl.length ≤ 1000000) := Lib.hid (by
    have h1 := pre_len l
    have h2 : (plain p).length ≤ p.length := by unfold plain; split <;> simp
    rw [hp] at h2; rw [hc.1] at h1; omega)
  have HLD : Hid (d.length ≤ 1000000) := Lib.hid (by
    rw [← hc.2.1]
    split
    · unfold post; rw [List.length_drop]; omega
    · simp)
  clear hl hm hc hp
  have HTD := Lib.hid (And.intro htx (And.intro hty (And.intro (show n ≤ 1000000 by omega) (And.intro hn1 htg))))
  clear htx hty hn hn1 htg
  have HD := Lib.hid hd
  have HE := Lib.hid he
  have HT := Lib.hid ht
  have HX := Lib.hid hx
  have HXV := Lib.hid hxv
  have HY := Lib.hid hy
  have HYV := Lib.hid hyv
  clear hd he ht hx hxv hy hyv
  have HB := Lib.hid (Below.refl w.heap.size w)
  go_enter Tryz.func137, Tryz.ntmps137
  go_wp2_with (first | ((with_reducible refine gate_dst (N := 4) rfl ?_); refine bx_event rfl (cs := #[.bool false, .slice none 0 0, .bool false, .slice none 0 0]) (t := 31) ?hr ?_; (case hr => first | (go_simp; done) | (go_simp; rfl)); intro g4 w4 hg bk hb; have HG4 := Lib.hid (Nat.le_trans HB.out.size hg); replace HB := Lib.hid (bth HB.out hb); have BK4 := Lib.hid bk; obtain ⟨c4_0, c4_1, c4_2, c4_3, f4_0, f4_1, f4_2, f4_3⟩ := BK4.out.all4; clear hb hg bk))
  refine (p_cutK l p d true _ HL.out (HM.out.below HB.out) HC.out).mono ?_
  rintro e u1 ⟨rfl, hb⟩
  replace HB := Lib.hid (bth HB.out hb)
  clear c4_0 c4_1 c4_2 c4_3 f4_0 f4_1 f4_2 f4_3
  replace BK4 := Lib.hid (BK4.out.below hb)
  obtain ⟨c4_0, c4_1, c4_2, c4_3, f4_0, f4_1, f4_2, f4_3⟩ := BK4.out.all4
  clear hb
  go_wp2_with fail
  refine (p_tpreK p pl _ HP.out).mono ?_
  rintro e u2 ⟨rfl, hb⟩
  replace HB := Lib.hid (bth HB.out hb)
  clear c4_0 c4_1 c4_2 c4_3 f4_0 f4_1 f4_2 f4_3
  replace BK4 := Lib.hid (BK4.out.below hb)
  obtain ⟨c4_0, c4_1, c4_2, c4_3, f4_0, f4_1, f4_2, f4_3⟩ := BK4.out.all4
  clear hb
  go_wp2_with fail
  refine (p_digsK pl true _ HLP.out HD.out).mono ?_
  rintro e u3 ⟨rfl, hb⟩
  replace HB := Lib.hid (bth HB.out hb)
  clear c4_0 c4_1 c4_2 c4_3 f4_0 f4_1 f4_2 f4_3
  replace BK4 := Lib.hid (BK4.out.below hb)
  obtain ⟨c4_0, c4_1, c4_2, c4_3, f4_0, f4_1, f4_2, f4_3⟩ := BK4.out.all4
  clear hb
  go_wp2_with fail
  refine (p_digsK d true _ HLD.out HE.out).mono ?_
  rintro e u4 ⟨rfl, hb⟩
  replace HB := Lib.hid (bth HB.out hb)
  clear c4_0 c4_1 c4_2 c4_3 f4_0 f4_1 f4_2 f4_3
  replace BK4 := Lib.hid (BK4.out.below hb)
  obtain ⟨c4_0, c4_1, c4_2, c4_3, f4_0, f4_1, f4_2, f4_3⟩ := BK4.out.all4
  clear hb
  go_wp2_with fail
  refine (p_trim0K d t0 _ HLD.out HT.out).mono ?_
  rintro e u5 ⟨rfl, hb⟩
  replace HB := Lib.hid (bth HB.out hb)
  clear c4_0 c4_1 c4_2 c4_3 f4_0 f4_1 f4_2 f4_3
  replace BK4 := Lib.hid (BK4.out.below hb)
  obtain ⟨c4_0, c4_1, c4_2, c4_3, f4_0, f4_1, f4_2, f4_3⟩ := BK4.out.all4
  clear hb
  go_wp2_with fail
  refine (p_parseK p 0 x _ HX.out HXV.out).mono ?_
  rintro e u6 ⟨va, rfl, hv, hb⟩
  replace HB := Lib.hid (bth HB.out hb)
  clear c4_0 c4_1 c4_2 c4_3 f4_0 f4_1 f4_2 f4_3
  replace BK4 := Lib.hid (BK4.out.below hb)
  obtain ⟨c4_0, c4_1, c4_2, c4_3, f4_0, f4_1, f4_2, f4_3⟩ := BK4.out.all4
  clear hb
  have Ha := Lib.hid hv
  obtain ⟨na, Aa, ka, ca, rfl⟩ := hv.shape
  clear hv
  go_wp2_with (first | ((with_reducible refine gate_dst (N := 10) rfl ?_); refine bx_event rfl (cs := #[.bool false, .slice none 0 0]) (t := 27) ?hr ?_; (case hr => first | (go_simp; done) | (go_simp; rfl)); intro g10 w10 hg bk hb; have HG10 := Lib.hid (Nat.le_trans HB.out.size hg); replace HB := Lib.hid (bth HB.out hb); have HN4_10 := Lib.hid (Nat.ne_of_lt (Nat.lt_of_lt_of_le BK4.out.lt hg)); have ne4_10 := HN4_10.out; have en4_10 := HN4_10.out.symm; clear c4_0 c4_1 c4_2 c4_3 f4_0 f4_1 f4_2 f4_3; replace BK4 := Lib.hid (BK4.out.below hb); obtain ⟨c4_0, c4_1, c4_2, c4_3, f4_0, f4_1, f4_2, f4_3⟩ := BK4.out.all4; replace Ha := Lib.hid (Ha.out.below hb); have BK10 := Lib.hid bk; obtain ⟨c10_0, c10_1, f10_0, f10_1⟩ := BK10.out.all2; clear hb hg bk))
  obtain ⟨x10, hx⟩ : ∃ W, ((w10.setCell ⟨g10, 0, none⟩ (.bool na)).setCell ⟨g10, 1, none⟩ (.slice Aa ka ca)) = W := ⟨_, rfl⟩
  have KP : Kp w10 x10 := hx ▸ BK10.out.kp2 (by decide) (.bool na) (.slice Aa ka ca)
  replace BK4 : Hid (Bx x10 g4 31 #[.bool false, .slice none 0 0, .bool false, .slice none 0 0]) := Lib.hid (hx ▸ BK4.out.far2 HN4_10.out _ _)
  replace BK10 : Hid (Bx x10 g10 27 #[.bool na, .slice Aa ka ca]) := Lib.hid (hx ▸ BK10.out.put2 _ _)
  clear ne4_10 en4_10
  replace HB : Hid (Below w.heap.size w x10) := Lib.hid (hx ▸ below_put2 HB.out HG10.out _ _)
  replace Ha := Lib.hid (Ha.out.kp KP)
  rw [hx]
  clear hx KP
  clear c4_0 c4_1 c4_2 c4_3 f4_0 f4_1 f4_2 f4_3
  clear c10_0 c10_1 f10_0 f10_1
  obtain ⟨c4_0, c4_1, c4_2, c4_3, f4_0, f4_1, f4_2, f4_3⟩ := BK4.out.all4
  obtain ⟨c10_0, c10_1, f10_0, f10_1⟩ := BK10.out.all2
  go_wp2_with fail
  refine (p_parseK d 0 y _ HY.out HYV.out).mono ?_
  rintro e u7 ⟨vb, rfl, hv, hb⟩
  replace HB := Lib.hid (bth HB.out hb)
  clear c4_0 c4_1 c4_2 c4_3 f4_0 f4_1 f4_2 f4_3
  replace BK4 := Lib.hid (BK4.out.below hb)
  obtain ⟨c4_0, c4_1, c4_2, c4_3, f4_0, f4_1, f4_2, f4_3⟩ := BK4.out.all4
  clear c10_0 c10_1 f10_0 f10_1
  replace BK10 := Lib.hid (BK10.out.below hb)
  obtain ⟨c10_0, c10_1, f10_0, f10_1⟩ := BK10.out.all2
  replace Ha := Lib.hid (Ha.out.below hb)
  clear hb
  have Hb := Lib.hid hv
  obtain ⟨nb, Ab, kb, cb, rfl⟩ := hv.shape
  clear hv
  go_wp2_with (first | ((with_reducible refine gate_dst (N := 12) rfl ?_); refine bx_event rfl (cs := #[.bool false, .slice none 0 0]) (t := 27) ?hr ?_; (case hr => first | (go_simp; done) | (go_simp; rfl)); intro g12 w12 hg bk hb; have HG12 := Lib.hid (Nat.le_trans HB.out.size hg); replace HB := Lib.hid (bth HB.out hb); have HN4_12 := Lib.hid (Nat.ne_of_lt (Nat.lt_of_lt_of_le BK4.out.lt hg)); have HN10_12 := Lib.hid (Nat.ne_of_lt (Nat.lt_of_lt_of_le BK10.out.lt hg)); have ne4_12 := HN4_12.out; have en4_12 := HN4_12.out.symm; have ne10_12 := HN10_12.out; have en10_12 := HN10_12.out.symm; clear c4_0 c4_1 c4_2 c4_3 f4_0 f4_1 f4_2 f4_3; replace BK4 := Lib.hid (BK4.out.below hb); obtain ⟨c4_0, c4_1, c4_2, c4_3, f4_0, f4_1, f4_2, f4_3⟩ := BK4.out.all4; clear c10_0 c10_1 f10_0 f10_1; replace BK10 := Lib.hid (BK10.out.below hb); obtain ⟨c10_0, c10_1, f10_0, f10_1⟩ := BK10.out.all2; replace Ha := Lib.hid (Ha.out.below hb); replace Hb := Lib.hid (Hb.out.below hb); have BK12 := Lib.hid bk; obtain ⟨c12_0, c12_1, f12_0, f12_1⟩ := BK12.out.all2; clear hb hg bk))
  obtain ⟨x12, hx⟩ : ∃ W, ((w12.setCell ⟨g12, 0, none⟩ (.bool nb)).setCell ⟨g12, 1, none⟩ (.slice Ab kb cb)) = W := ⟨_, rfl⟩
  have KP : Kp w12 x12 := hx ▸ BK12.out.kp2 (by decide) (.bool nb) (.slice Ab kb cb)
  replace BK4 : Hid (Bx x12 g4 31 #[.bool false, .slice none 0 0, .bool false, .slice none 0 0]) := Lib.hid (hx ▸ BK4.out.far2 HN4_12.out _ _)
  replace BK10 : Hid (Bx x12 g10 27 #[.bool na, .slice Aa ka ca]) := Lib.hid (hx ▸ BK10.out.far2 HN10_12.out _ _)
  replace BK12 : Hid (Bx x12 g12 27 #[.bool nb, .slice Ab kb cb]) := Lib.hid (hx ▸ BK12.out.put2 _ _)
  clear ne4_12 en4_12 ne10_12 en10_12
  replace HB : Hid (Below w.heap.size w x12) := Lib.hid (hx ▸ below_put2 HB.out HG12.out _ _)
  replace Ha := Lib.hid (Ha.out.kp KP)
  replace Hb := Lib.hid (Hb.out.kp KP)
  rw [hx]
  clear hx KP
  clear c4_0 c4_1 c4_2 c4_3 f4_0 f4_1 f4_2 f4_3
  clear c10_0 c10_1 f10_0 f10_1
  clear c12_0 c12_1 f12_0 f12_1
  obtain ⟨c4_0, c4_1, c4_2, c4_3, f4_0, f4_1, f4_2, f4_3⟩ := BK4.out.all4
  obtain ⟨c10_0, c10_1, f10_0, f10_1⟩ := BK10.out.all2
  obtain ⟨c12_0, c12_1, f12_0, f12_1⟩ := BK12.out.all2
  go_wp2_with fail
  have hb := below_drew (Below.refl x12.heap.size x12)
  replace HB := Lib.hid (bth HB.out hb)
  replace BK4 := Lib.hid (BK4.out.below hb)
  replace BK10 := Lib.hid (BK10.out.below hb)
  replace BK12 := Lib.hid (BK12.out.below hb)
  replace Ha := Lib.hid (Ha.out.below hb)
  replace Hb := Lib.hid (Hb.out.below hb)
  clear hb
  clear c4_0 c4_1 c4_2 c4_3 f4_0 f4_1 f4_2 f4_3
  clear c10_0 c10_1 f10_0 f10_1
  clear c12_0 c12_1 f12_0 f12_1
  refine wpL_start 1000 (fun w' => w'.cell? ⟨g10, 0, none⟩ = some (.bool na) ∧ w'.cell? ⟨g10, 1, none⟩ = some (.slice Aa ka ca) ∧ w'.cell? ⟨g12, 0, none⟩ = some (.bool nb) ∧ w'.cell? ⟨g12, 1, none⟩ = some (.slice Ab kb cb)) 1000 (fun w' => True) (by kernel_rfl) (⟨BK10.out.cell 0, BK10.out.cell 1, BK12.out.cell 0, BK12.out.cell 1⟩) (trivial) (fun hS => ?_)
  refine wpM1 (i := 0) (v := .int .i64 0) (some 65) rfl rfl (by kernel_rfl) (fun _ _ _ h => h) hS (Or.inl ⟨by rfl, fun w hSw => ?_⟩) (fun hS => ?_)
  · (try dsimp only at hSw); clear hS; first | (go_simp; done) | (go_simp; with_reducible rfl)
  (try simp only [Act.put, List.setIfInBounds_toArray, List.set_cons_zero, List.set_cons_succ])
  refine wpM1 (i := 1) (v := .bool false) (some 66) rfl rfl (by kernel_rfl) (fun _ _ _ h => h) hS (Or.inl ⟨by rfl, fun w hSw => ?_⟩) (fun hS => ?_)
  · (try dsimp only at hSw); clear hS; first | (go_simp; done) | (go_simp; with_reducible rfl)
  (try simp only [Act.put, List.setIfInBounds_toArray, List.set_cons_zero, List.set_cons_succ])
  refine wpM1 (i := 2) (v := .bool false) (some 67) rfl rfl (by kernel_rfl) (fun _ _ _ h => h) hS (Or.inl ⟨by rfl, fun w hSw => ?_⟩) (fun hS => ?_)
  · (try dsimp only at hSw); clear hS; first | (go_simp; done) | (go_simp; with_reducible rfl)
  (try simp only [Act.put, List.setIfInBounds_toArray, List.set_cons_zero, List.set_cons_succ])
  refine wpM1 (i := 3) (v := .agg #[.bool nb, .slice Ab kb cb]) (some 68) rfl rfl (by kernel_rfl) (fun _ _ _ h => h) hS (Or.inl ⟨by rfl, fun w hSw => ?_⟩) (fun hS => ?_)
  · (try dsimp only at hSw); clear hS; first | (go_simp; done) | (go_simp; with_reducible rfl)
  (try simp only [Act.put, List.setIfInBounds_toArray, List.set_cons_zero, List.set_cons_succ])
  refine wpL_one (i := 4) (by kernel_rfl) rfl (by rfl) (fun K hK => ?_)
  clear hS
  go_simp
  refine (p_one _).mono ?_
  rintro e u ⟨v1, rfl, hv1, hb⟩
  replace HB := Lib.hid (bth HB.out hb)
  replace BK4 := Lib.hid (BK4.out.below hb)
  replace BK10 := Lib.hid (BK10.out.below hb)
  replace BK12 := Lib.hid (BK12.out.below hb)
  replace Ha := Lib.hid (Ha.out.below hb)
  replace Hb := Lib.hid (Hb.out.below hb)
  clear hb
  obtain ⟨m1, B1, j1, d1, rfl, HV1⟩ := RetI.shape_ hv1
  clear hv1
  refine hK.out _ _ ⟨Or.inr (⟨BK10.out.cell 0, BK10.out.cell 1, BK12.out.cell 0, BK12.out.cell 1⟩), Or.inr (trivial)⟩ (fun hS => ?_)
  clear hK K
  (try simp only [Act.put, List.setIfInBounds_toArray, List.set_cons_zero, List.set_cons_succ])
  refine wpL_one (i := 5) (by kernel_rfl) rfl (by rfl) (fun K hK => ?_)
  clear hS
  go_simp
  refine (p_cmp _ _ y 1 _ Hb.out HV1.out (n := n) HTD.out.2.1 (Td_mono (Td_one 0) HTD.out.2.2.2.1) HTD.out.2.2.1).mono ?_
  rintro e u ⟨rfl, hb⟩
  replace HB := Lib.hid (bth HB.out hb)
  replace BK4 := Lib.hid (BK4.out.below hb)
  replace BK10 := Lib.hid (BK10.out.below hb)
  replace BK12 := Lib.hid (BK12.out.below hb)
  replace Ha := Lib.hid (Ha.out.below hb)
  replace Hb := Lib.hid (Hb.out.below hb)
  clear hb
  clear HV1
  refine hK.out _ _ ⟨Or.inr (⟨BK10.out.cell 0, BK10.out.cell 1, BK12.out.cell 0, BK12.out.cell 1⟩), Or.inr (trivial)⟩ (fun hS => ?_)
  clear hK K
  (try simp only [Act.put, List.setIfInBounds_toArray, List.set_cons_zero, List.set_cons_succ])
  refine wpM1 (i := 6) (v := .bool false) (some 71) rfl rfl (by kernel_rfl) (fun _ _ _ h => h) hS (Or.inl ⟨by rfl, fun w hSw => ?_⟩) (fun hS => ?_)
  · (try dsimp only at hSw); clear hS; first | (go_simp; done) | (go_simp; with_reducible rfl)
  (try simp only [Act.put, List.setIfInBounds_toArray, List.set_cons_zero, List.set_cons_succ])
  refine wpM1 (i := 7) (v := .bool false) (some 72) rfl rfl (by kernel_rfl) (fun _ _ _ h => h) hS (Or.inl ⟨by rfl, fun w hSw => ?_⟩) (fun hS => ?_)
  · (try dsimp only at hSw); clear hS; first | (go_simp; done) | (go_simp; with_reducible rfl)
  (try simp only [Act.put, List.setIfInBounds_toArray, List.set_cons_zero, List.set_cons_succ])
  refine wpM1 (i := 8) (v := .bool false) (some 73) rfl rfl (by kernel_rfl) (fun _ _ _ h => h) hS (Or.inl ⟨by rfl, fun w hSw => ?_⟩) (fun hS => ?_)
  · (try dsimp only at hSw); clear hS; first | (go_simp; done) | (go_simp; with_reducible rfl)
  (try simp only [Act.put, List.setIfInBounds_toArray, List.set_cons_zero, List.set_cons_succ])
  refine wpM1 (i := 9) (v := .agg #[.bool na, .slice Aa ka ca]) (some 74) rfl rfl (by kernel_rfl) (fun _ _ _ h => h) hS (Or.inl ⟨by rfl, fun w hSw => ?_⟩) (fun hS => ?_)
  · (try dsimp only at hSw); clear hS; first | (go_simp; done) | (go_simp; with_reducible rfl)
  (try simp only [Act.put, List.setIfInBounds_toArray, List.set_cons_zero, List.set_cons_succ])
  refine wpM1 (i := 10) (v := .agg #[.bool nb, .slice Ab kb cb]) (some 75) rfl rfl (by kernel_rfl) (fun _ _ _ h => h) hS (Or.inl ⟨by rfl, fun w hSw => ?_⟩) (fun hS => ?_)
  · (try dsimp only at hSw); clear hS; first | (go_simp; done) | (go_simp; with_reducible rfl)
  (try simp only [Act.put, List.setIfInBounds_toArray, List.set_cons_zero, List.set_cons_succ])
  refine wpL_one (i := 11) (by kernel_rfl) rfl (by rfl) (fun K hK => ?_)
  clear hS
  go_simp
  refine (p_gcd _ _ x y _ Ha.out Hb.out (n := n) HTD.out.1 HTD.out.2.1 HTD.out.2.2.1).mono ?_
  rintro e u ⟨vg, rfl, hvg, hb⟩
  replace HB := Lib.hid (bth HB.out hb)
  replace BK4 := Lib.hid (BK4.out.below hb)
  replace BK10 := Lib.hid (BK10.out.below hb)
  replace BK12 := Lib.hid (BK12.out.below hb)
  replace Ha := Lib.hid (Ha.out.below hb)
  replace Hb := Lib.hid (Hb.out.below hb)
  clear hb
  obtain ⟨mg, Bg, jg, dg, rfl, HVG⟩ := RetI.shape_ hvg
  clear hvg
  refine hK.out _ _ ⟨Or.inr (⟨BK10.out.cell 0, BK10.out.cell 1, BK12.out.cell 0, BK12.out.cell 1⟩), Or.inr (trivial)⟩ (fun hS => ?_)
  clear hK K
  (try simp only [Act.put, List.setIfInBounds_toArray, List.set_cons_zero, List.set_cons_succ])
  refine wpL_one (i := 12) (by kernel_rfl) rfl (by rfl) (fun K hK => ?_)
  clear hS
  go_simp
  refine (p_one _).mono ?_
  rintro e u ⟨v1, rfl, hv1, hb⟩
  replace HB := Lib.hid (bth HB.out hb)
  replace BK4 := Lib.hid (BK4.out.below hb)
  replace BK10 := Lib.hid (BK10.out.below hb)
  replace BK12 := Lib.hid (BK12.out.below hb)
  replace Ha := Lib.hid (Ha.out.below hb)
  replace Hb := Lib.hid (Hb.out.below hb)
  replace HVG := Lib.hid (HVG.out.below hb)
  clear hb
  obtain ⟨m2, B2, j2, d2, rfl, HV2⟩ := RetI.shape_ hv1
  clear hv1
  refine hK.out _ _ ⟨Or.inr (⟨BK10.out.cell 0, BK10.out.cell 1, BK12.out.cell 0, BK12.out.cell 1⟩), Or.inr (trivial)⟩ (fun hS => ?_)
  clear hK K
  (try simp only [Act.put, List.setIfInBounds_toArray, List.set_cons_zero, List.set_cons_succ])
  refine wpL_one (i := 13) (by kernel_rfl) rfl (by rfl) (fun K hK => ?_)
  clear hS
  go_simp
  refine (p_cmp _ _ (Int.gcd x y : Int) 1 _ HVG.out HV2.out (n := n) HTD.out.2.2.2.2 (Td_mono (Td_one 0) HTD.out.2.2.2.1) HTD.out.2.2.1).mono ?_
  rintro e u ⟨rfl, hb⟩
  replace HB := Lib.hid (bth HB.out hb)
  replace BK4 := Lib.hid (BK4.out.below hb)
  replace BK10 := Lib.hid (BK10.out.below hb)
  replace BK12 := Lib.hid (BK12.out.below hb)
  replace Ha := Lib.hid (Ha.out.below hb)
  replace Hb := Lib.hid (Hb.out.below hb)
  clear hb
  clear HVG HV2
  refine hK.out _ _ ⟨Or.inr (⟨BK10.out.cell 0, BK10.out.cell 1, BK12.out.cell 0, BK12.out.cell 1⟩), Or.inr (trivial)⟩ (fun hS => ?_)
  clear hK K
  (try simp only [Act.put, List.setIfInBounds_toArray, List.set_cons_zero, List.set_cons_succ])
  refine wpM1 (i := 14) (v := .bool true) (some 79) rfl rfl (by kernel_rfl) (fun _ _ _ h => h) hS (Or.inl ⟨by rfl, fun w hSw => ?_⟩) (fun hS => ?_)
  · (try dsimp only at hSw); clear hS; first | (go_simp; done) | (go_simp; with_reducible rfl)
  (try simp only [Act.put, List.setIfInBounds_toArray, List.set_cons_zero, List.set_cons_succ])
  refine wpM1 (i := 15) (v := .bool true) (some 80) rfl rfl (by kernel_rfl) (fun _ _ _ h => h) hS (Or.inl ⟨by rfl, fun w hSw => ?_⟩) (fun hS => ?_)
  · (try dsimp only at hSw); clear hS; first | (go_simp; done) | (go_simp; with_reducible rfl)
  (try simp only [Act.put, List.setIfInBounds_toArray, List.set_cons_zero, List.set_cons_succ])
  refine wpL_done (by kernel_rfl) ?_ _
  clear hS
  obtain ⟨c4_0, c4_1, c4_2, c4_3, f4_0, f4_1, f4_2, f4_3⟩ := BK4.out.all4
  obtain ⟨c10_0, c10_1, f10_0, f10_1⟩ := BK10.out.all2
  obtain ⟨c12_0, c12_1, f12_0, f12_1⟩ := BK12.out.all2
  go_wp2_with fail
  refine bodyPost_ret (results_cell1 rfl _ _ g4 31 #[.bool false, .slice none 0 0, .bool false, .slice none 0 0] (0, 0) _ rfl (BK4.out.put4 _ _ _ _) Tryz.underlying31 rfl (by kernel_rfl)) rfl ?_
  exact ⟨_, rfl, RR.zero _, below_put4 HB.out HG4.out _ _ _ _⟩
set_option maxHeartbeats 3200000 in
theorem read_c10 (l p d pl t0 : List UInt8) (most c x y : Int) (w : World) (hm : mx3 w) (hl : l.length ≤ 1000000) (hc : pre l = p ∧ (if hasSl l = true then post l else []) = d ∧ hasSl l = true) (hp : plain p = pl) (h0 : decide (most < (l.length : Int)) = false) (hd : digs pl = true) (he : digs d = true) (ht : Lib.trimS d [48] = t0) (e0 : ((S t0).toList == []) = false) (hx : chkI p = 0) (hxv : (if chkI p = 0 then vI p else 0) = x) (hy : chkI d = 0) (hyv : (if chkI d = 0 then vI d else 0) = y) (e1 : (cmp y 1 == 0) = false) (e2 : (cmp (Int.gcd x y : Int) 1 != 0) = false) {n : Nat} (htx : Td n x) (hty : Td n y) (hn : n ≤ 900000) (hn1 : 1 ≤ n) (htg : Td n (Int.gcd x y : Int)) (q : Rat) (hq : x = q.num ∧ y = (q.den : Int)) : Calls Tryz.prog 137 #[.string (S l), .int .i64 most] w (RetRE w q 0) := by
  have HL := Lib.hid hl
  have HM := Lib.hid hm
  have HC := Lib.hid hc
  have HP := Lib.hid hp
  have hsz := S_size l
  have HLP : Hid (pl.length ≤ 1000000) := Lib.hid (by
    have h1 := pre_len l
    have h2 : (plain p).length ≤ p.length := by unfold plain; split <;> simp
    rw [hp] at h2; rw [hc.1] at h1; omega)
  have HLD : Hid (d.length ≤ 1000000) := Lib.hid (by
    rw [← hc.2.1]
    split
    · unfold post; rw [List.length_drop]; omega
    · simp)
  clear hl hm hc hp
  have HTD := Lib.hid (And.intro htx (And.intro hty (And.intro (show n ≤ 1000000 by omega) (And.intro hn1 htg))))
  clear htx hty hn hn1 htg
  have HD := Lib.hid hd
  have HE := Lib.hid he
  have HT := Lib.hid ht
  have HX := Lib.hid hx
  have HXV := Lib.hid hxv
  have HY := Lib.hid hy
  have HYV := Lib.hid hyv
  have HQX := Lib.hid hq
  clear hd he ht hx hxv hy hyv hq
  have HB := Lib.hid (Below.refl w.heap.size w)
  go_enter Tryz.func137, Tryz.ntmps137
  go_wp2_with (first | ((with_reducible refine gate_dst (N := 4) rfl ?_); refine bx_event rfl (cs := #[.bool false, .slice none 0 0, .bool false, .slice none 0 0]) (t := 31) ?hr ?_; (case hr => first | (go_simp; done) | (go_simp; rfl)); intro g4 w4 hg bk hb; have HG4 := Lib.hid (Nat.le_trans HB.out.size hg); replace HB := Lib.hid (bth HB.out hb); have BK4 := Lib.hid bk; obtain ⟨c4_0, c4_1, c4_2, c4_3, f4_0, f4_1, f4_2, f4_3⟩ := BK4.out.all4; clear hb hg bk))
  refine (p_cutK l p d true _ HL.out (HM.out.below HB.out) HC.out).mono ?_
  rintro e u1 ⟨rfl, hb⟩
  replace HB := Lib.hid (bth HB.out hb)
  clear c4_0 c4_1 c4_2 c4_3 f4_0 f4_1 f4_2 f4_3
  replace BK4 := Lib.hid (BK4.out.below hb)
  obtain ⟨c4_0, c4_1, c4_2, c4_3, f4_0, f4_1, f4_2, f4_3⟩ := BK4.out.all4
  clear hb
  go_wp2_with fail
  refine (p_tpreK p pl _ HP.out).mono ?_
  rintro e u2 ⟨rfl, hb⟩
  replace HB := Lib.hid (bth HB.out hb)
  clear c4_0 c4_1 c4_2 c4_3 f4_0 f4_1 f4_2 f4_3
  replace BK4 := Lib.hid (BK4.out.below hb)
  obtain ⟨c4_0, c4_1, c4_2, c4_3, f4_0, f4_1, f4_2, f4_3⟩ := BK4.out.all4
  clear hb
  go_wp2_with fail
  refine (p_digsK pl true _ HLP.out HD.out).mono ?_
  rintro e u3 ⟨rfl, hb⟩
  replace HB := Lib.hid (bth HB.out hb)
  clear c4_0 c4_1 c4_2 c4_3 f4_0 f4_1 f4_2 f4_3
  replace BK4 := Lib.hid (BK4.out.below hb)
  obtain ⟨c4_0, c4_1, c4_2, c4_3, f4_0, f4_1, f4_2, f4_3⟩ := BK4.out.all4
  clear hb
  go_wp2_with fail
  refine (p_digsK d true _ HLD.out HE.out).mono ?_
  rintro e u4 ⟨rfl, hb⟩
  replace HB := Lib.hid (bth HB.out hb)
  clear c4_0 c4_1 c4_2 c4_3 f4_0 f4_1 f4_2 f4_3
  replace BK4 := Lib.hid (BK4.out.below hb)
  obtain ⟨c4_0, c4_1, c4_2, c4_3, f4_0, f4_1, f4_2, f4_3⟩ := BK4.out.all4
  clear hb
  go_wp2_with fail
  refine (p_trim0K d t0 _ HLD.out HT.out).mono ?_
  rintro e u5 ⟨rfl, hb⟩
  replace HB := Lib.hid (bth HB.out hb)
  clear c4_0 c4_1 c4_2 c4_3 f4_0 f4_1 f4_2 f4_3
  replace BK4 := Lib.hid (BK4.out.below hb)
  obtain ⟨c4_0, c4_1, c4_2, c4_3, f4_0, f4_1, f4_2, f4_3⟩ := BK4.out.all4
  clear hb
  go_wp2_with fail
  refine (p_parseK p 0 x _ HX.out HXV.out).mono ?_
  rintro e u6 ⟨va, rfl, hv, hb⟩
  replace HB := Lib.hid (bth HB.out hb)
  clear c4_0 c4_1 c4_2 c4_3 f4_0 f4_1 f4_2 f4_3
  replace BK4 := Lib.hid (BK4.out.below hb)
  obtain ⟨c4_0, c4_1, c4_2, c4_3, f4_0, f4_1, f4_2, f4_3⟩ := BK4.out.all4
  clear hb
  have Ha := Lib.hid hv
  obtain ⟨na, Aa, ka, ca, rfl⟩ := hv.shape
  clear hv
  go_wp2_with (first | ((with_reducible refine gate_dst (N := 10) rfl ?_); refine bx_event rfl (cs := #[.bool false, .slice none 0 0]) (t := 27) ?hr ?_; (case hr => first | (go_simp; done) | (go_simp; rfl)); intro g10 w10 hg bk hb; have HG10 := Lib.hid (Nat.le_trans HB.out.size hg); replace HB := Lib.hid (bth HB.out hb); have HN4_10 := Lib.hid (Nat.ne_of_lt (Nat.lt_of_lt_of_le BK4.out.lt hg)); have ne4_10 := HN4_10.out; have en4_10 := HN4_10.out.symm; clear c4_0 c4_1 c4_2 c4_3 f4_0 f4_1 f4_2 f4_3; replace BK4 := Lib.hid (BK4.out.below hb); obtain ⟨c4_0, c4_1, c4_2, c4_3, f4_0, f4_1, f4_2, f4_3⟩ := BK4.out.all4; replace Ha := Lib.hid (Ha.out.below hb); have BK10 := Lib.hid bk; obtain ⟨c10_0, c10_1, f10_0, f10_1⟩ := BK10.out.all2; clear hb hg bk))
  obtain ⟨x10, hx⟩ : ∃ W, ((w10.setCell ⟨g10, 0, none⟩ (.bool na)).setCell ⟨g10, 1, none⟩ (.slice Aa ka ca)) = W := ⟨_, rfl⟩
  have KP : Kp w10 x10 := hx ▸ BK10.out.kp2 (by decide) (.bool na) (.slice Aa ka ca)
  replace BK4 : Hid (Bx x10 g4 31 #[.bool false, .slice none 0 0, .bool false, .slice none 0 0]) := Lib.hid (hx ▸ BK4.out.far2 HN4_10.out _ _)
  replace BK10 : Hid (Bx x10 g10 27 #[.bool na, .slice Aa ka ca]) := Lib.hid (hx ▸ BK10.out.put2 _ _)
  clear ne4_10 en4_10
  replace HB : Hid (Below w.heap.size w x10) := Lib.hid (hx ▸ below_put2 HB.out HG10.out _ _)
  replace Ha := Lib.hid (Ha.out.kp KP)
  rw [hx]
  clear hx KP
  clear c4_0 c4_1 c4_2 c4_3 f4_0 f4_1 f4_2 f4_3
  clear c10_0 c10_1 f10_0 f10_1
  obtain ⟨c4_0, c4_1, c4_2, c4_3, f4_0, f4_1, f4_2, f4_3⟩ := BK4.out.all4
  obtain ⟨c10_0, c10_1, f10_0, f10_1⟩ := BK10.out.all2
  go_wp2_with fail
  refine (p_parseK d 0 y _ HY.out HYV.out).mono ?_
  rintro e u7 ⟨vb, rfl, hv, hb⟩
  replace HB := Lib.hid (bth HB.out hb)
  clear c4_0 c4_1 c4_2 c4_3 f4_0 f4_1 f4_2 f4_3
  replace BK4 := Lib.hid (BK4.out.below hb)
  obtain ⟨c4_0, c4_1, c4_2, c4_3, f4_0, f4_1, f4_2, f4_3⟩ := BK4.out.all4
  clear c10_0 c10_1 f10_0 f10_1
  replace BK10 := Lib.hid (BK10.out.below hb)
  obtain ⟨c10_0, c10_1, f10_0, f10_1⟩ := BK10.out.all2
  replace Ha := Lib.hid (Ha.out.below hb)
  clear hb
  have Hb := Lib.hid hv
  obtain ⟨nb, Ab, kb, cb, rfl⟩ := hv.shape
  clear hv
  go_wp2_with (first | ((with_reducible refine gate_dst (N := 12) rfl ?_); refine bx_event rfl (cs := #[.bool false, .slice none 0 0]) (t := 27) ?hr ?_; (case hr => first | (go_simp; done) | (go_simp; rfl)); intro g12 w12 hg bk hb; have HG12 := Lib.hid (Nat.le_trans HB.out.size hg); replace HB := Lib.hid (bth HB.out hb); have HN4_12 := Lib.hid (Nat.ne_of_lt (Nat.lt_of_lt_of_le BK4.out.lt hg)); have HN10_12 := Lib.hid (Nat.ne_of_lt (Nat.lt_of_lt_of_le BK10.out.lt hg)); have ne4_12 := HN4_12.out; have en4_12 := HN4_12.out.symm; have ne10_12 := HN10_12.out; have en10_12 := HN10_12.out.symm; clear c4_0 c4_1 c4_2 c4_3 f4_0 f4_1 f4_2 f4_3; replace BK4 := Lib.hid (BK4.out.below hb); obtain ⟨c4_0, c4_1, c4_2, c4_3, f4_0, f4_1, f4_2, f4_3⟩ := BK4.out.all4; clear c10_0 c10_1 f10_0 f10_1; replace BK10 := Lib.hid (BK10.out.below hb); obtain ⟨c10_0, c10_1, f10_0, f10_1⟩ := BK10.out.all2; replace Ha := Lib.hid (Ha.out.below hb); replace Hb := Lib.hid (Hb.out.below hb); have BK12 := Lib.hid bk; obtain ⟨c12_0, c12_1, f12_0, f12_1⟩ := BK12.out.all2; clear hb hg bk))
  obtain ⟨x12, hx⟩ : ∃ W, ((w12.setCell ⟨g12, 0, none⟩ (.bool nb)).setCell ⟨g12, 1, none⟩ (.slice Ab kb cb)) = W := ⟨_, rfl⟩
  have KP : Kp w12 x12 := hx ▸ BK12.out.kp2 (by decide) (.bool nb) (.slice Ab kb cb)
  replace BK4 : Hid (Bx x12 g4 31 #[.bool false, .slice none 0 0, .bool false, .slice none 0 0]) := Lib.hid (hx ▸ BK4.out.far2 HN4_12.out _ _)
  replace BK10 : Hid (Bx x12 g10 27 #[.bool na, .slice Aa ka ca]) := Lib.hid (hx ▸ BK10.out.far2 HN10_12.out _ _)
  replace BK12 : Hid (Bx x12 g12 27 #[.bool nb, .slice Ab kb cb]) := Lib.hid (hx ▸ BK12.out.put2 _ _)
  clear ne4_12 en4_12 ne10_12 en10_12
  replace HB : Hid (Below w.heap.size w x12) := Lib.hid (hx ▸ below_put2 HB.out HG12.out _ _)
  replace Ha := Lib.hid (Ha.out.kp KP)
  replace Hb := Lib.hid (Hb.out.kp KP)
  rw [hx]
  clear hx KP
  clear c4_0 c4_1 c4_2 c4_3 f4_0 f4_1 f4_2 f4_3
  clear c10_0 c10_1 f10_0 f10_1
  clear c12_0 c12_1 f12_0 f12_1
  obtain ⟨c4_0, c4_1, c4_2, c4_3, f4_0, f4_1, f4_2, f4_3⟩ := BK4.out.all4
  obtain ⟨c10_0, c10_1, f10_0, f10_1⟩ := BK10.out.all2
  obtain ⟨c12_0, c12_1, f12_0, f12_1⟩ := BK12.out.all2
  go_wp2_with fail
  have hb := below_drew (Below.refl x12.heap.size x12)
  replace HB := Lib.hid (bth HB.out hb)
  replace BK4 := Lib.hid (BK4.out.below hb)
  replace BK10 := Lib.hid (BK10.out.below hb)
  replace BK12 := Lib.hid (BK12.out.below hb)
  replace Ha := Lib.hid (Ha.out.below hb)
  replace Hb := Lib.hid (Hb.out.below hb)
  clear hb
  clear c4_0 c4_1 c4_2 c4_3 f4_0 f4_1 f4_2 f4_3
  clear c10_0 c10_1 f10_0 f10_1
  clear c12_0 c12_1 f12_0 f12_1
  refine wpL_start 1000 (fun w' => w'.cell? ⟨g10, 0, none⟩ = some (.bool na) ∧ w'.cell? ⟨g10, 1, none⟩ = some (.slice Aa ka ca) ∧ w'.cell? ⟨g12, 0, none⟩ = some (.bool nb) ∧ w'.cell? ⟨g12, 1, none⟩ = some (.slice Ab kb cb)) 1000 (fun w' => True) (by kernel_rfl) (⟨BK10.out.cell 0, BK10.out.cell 1, BK12.out.cell 0, BK12.out.cell 1⟩) (trivial) (fun hS => ?_)
  refine wpM1 (i := 0) (v := .int .i64 0) (some 65) rfl rfl (by kernel_rfl) (fun _ _ _ h => h) hS (Or.inl ⟨by rfl, fun w hSw => ?_⟩) (fun hS => ?_)
  · (try dsimp only at hSw); clear hS; first | (go_simp; done) | (go_simp; with_reducible rfl)
  (try simp only [Act.put, List.setIfInBounds_toArray, List.set_cons_zero, List.set_cons_succ])
  refine wpM1 (i := 1) (v := .bool false) (some 66) rfl rfl (by kernel_rfl) (fun _ _ _ h => h) hS (Or.inl ⟨by rfl, fun w hSw => ?_⟩) (fun hS => ?_)
  · (try dsimp only at hSw); clear hS; first | (go_simp; done) | (go_simp; with_reducible rfl)
  (try simp only [Act.put, List.setIfInBounds_toArray, List.set_cons_zero, List.set_cons_succ])
  refine wpM1 (i := 2) (v := .bool false) (some 67) rfl rfl (by kernel_rfl) (fun _ _ _ h => h) hS (Or.inl ⟨by rfl, fun w hSw => ?_⟩) (fun hS => ?_)
  · (try dsimp only at hSw); clear hS; first | (go_simp; done) | (go_simp; with_reducible rfl)
  (try simp only [Act.put, List.setIfInBounds_toArray, List.set_cons_zero, List.set_cons_succ])
  refine wpM1 (i := 3) (v := .agg #[.bool nb, .slice Ab kb cb]) (some 68) rfl rfl (by kernel_rfl) (fun _ _ _ h => h) hS (Or.inl ⟨by rfl, fun w hSw => ?_⟩) (fun hS => ?_)
  · (try dsimp only at hSw); clear hS; first | (go_simp; done) | (go_simp; with_reducible rfl)
  (try simp only [Act.put, List.setIfInBounds_toArray, List.set_cons_zero, List.set_cons_succ])
  refine wpL_one (i := 4) (by kernel_rfl) rfl (by rfl) (fun K hK => ?_)
  clear hS
  go_simp
  refine (p_one _).mono ?_
  rintro e u ⟨v1, rfl, hv1, hb⟩
  replace HB := Lib.hid (bth HB.out hb)
  replace BK4 := Lib.hid (BK4.out.below hb)
  replace BK10 := Lib.hid (BK10.out.below hb)
  replace BK12 := Lib.hid (BK12.out.below hb)
  replace Ha := Lib.hid (Ha.out.below hb)
  replace Hb := Lib.hid (Hb.out.below hb)
  clear hb
  obtain ⟨m1, B1, j1, d1, rfl, HV1⟩ := RetI.shape_ hv1
  clear hv1
  refine hK.out _ _ ⟨Or.inr (⟨BK10.out.cell 0, BK10.out.cell 1, BK12.out.cell 0, BK12.out.cell 1⟩), Or.inr (trivial)⟩ (fun hS => ?_)
  clear hK K
  (try simp only [Act.put, List.setIfInBounds_toArray, List.set_cons_zero, List.set_cons_succ])
  refine wpL_one (i := 5) (by kernel_rfl) rfl (by rfl) (fun K hK => ?_)
  clear hS
  go_simp
  refine (p_cmp _ _ y 1 _ Hb.out HV1.out (n := n) HTD.out.2.1 (Td_mono (Td_one 0) HTD.out.2.2.2.1) HTD.out.2.2.1).mono ?_
  rintro e u ⟨rfl, hb⟩
  replace HB := Lib.hid (bth HB.out hb)
  replace BK4 := Lib.hid (BK4.out.below hb)
  replace BK10 := Lib.hid (BK10.out.below hb)
  replace BK12 := Lib.hid (BK12.out.below hb)
  replace Ha := Lib.hid (Ha.out.below hb)
  replace Hb := Lib.hid (Hb.out.below hb)
  clear hb
  clear HV1
  refine hK.out _ _ ⟨Or.inr (⟨BK10.out.cell 0, BK10.out.cell 1, BK12.out.cell 0, BK12.out.cell 1⟩), Or.inr (trivial)⟩ (fun hS => ?_)
  clear hK K
  (try simp only [Act.put, List.setIfInBounds_toArray, List.set_cons_zero, List.set_cons_succ])
  refine wpM1 (i := 6) (v := .bool false) (some 71) rfl rfl (by kernel_rfl) (fun _ _ _ h => h) hS (Or.inl ⟨by rfl, fun w hSw => ?_⟩) (fun hS => ?_)
  · (try dsimp only at hSw); clear hS; first | (go_simp; done) | (go_simp; with_reducible rfl)
  (try simp only [Act.put, List.setIfInBounds_toArray, List.set_cons_zero, List.set_cons_succ])
  refine wpM1 (i := 7) (v := .bool false) (some 72) rfl rfl (by kernel_rfl) (fun _ _ _ h => h) hS (Or.inl ⟨by rfl, fun w hSw => ?_⟩) (fun hS => ?_)
  · (try dsimp only at hSw); clear hS; first | (go_simp; done) | (go_simp; with_reducible rfl)
  (try simp only [Act.put, List.setIfInBounds_toArray, List.set_cons_zero, List.set_cons_succ])
  refine wpM1 (i := 8) (v := .bool false) (some 73) rfl rfl (by kernel_rfl) (fun _ _ _ h => h) hS (Or.inl ⟨by rfl, fun w hSw => ?_⟩) (fun hS => ?_)
  · (try dsimp only at hSw); clear hS; first | (go_simp; done) | (go_simp; with_reducible rfl)
  (try simp only [Act.put, List.setIfInBounds_toArray, List.set_cons_zero, List.set_cons_succ])
  refine wpM1 (i := 9) (v := .agg #[.bool na, .slice Aa ka ca]) (some 74) rfl rfl (by kernel_rfl) (fun _ _ _ h => h) hS (Or.inl ⟨by rfl, fun w hSw => ?_⟩) (fun hS => ?_)
  · (try dsimp only at hSw); clear hS; first | (go_simp; done) | (go_simp; with_reducible rfl)
  (try simp only [Act.put, List.setIfInBounds_toArray, List.set_cons_zero, List.set_cons_succ])
  refine wpM1 (i := 10) (v := .agg #[.bool nb, .slice Ab kb cb]) (some 75) rfl rfl (by kernel_rfl) (fun _ _ _ h => h) hS (Or.inl ⟨by rfl, fun w hSw => ?_⟩) (fun hS => ?_)
  · (try dsimp only at hSw); clear hS; first | (go_simp; done) | (go_simp; with_reducible rfl)
  (try simp only [Act.put, List.setIfInBounds_toArray, List.set_cons_zero, List.set_cons_succ])
  refine wpL_one (i := 11) (by kernel_rfl) rfl (by rfl) (fun K hK => ?_)
  clear hS
  go_simp
  refine (p_gcd _ _ x y _ Ha.out Hb.out (n := n) HTD.out.1 HTD.out.2.1 HTD.out.2.2.1).mono ?_
  rintro e u ⟨vg, rfl, hvg, hb⟩
  replace HB := Lib.hid (bth HB.out hb)
  replace BK4 := Lib.hid (BK4.out.below hb)
  replace BK10 := Lib.hid (BK10.out.below hb)
  replace BK12 := Lib.hid (BK12.out.below hb)
  replace Ha := Lib.hid (Ha.out.below hb)
  replace Hb := Lib.hid (Hb.out.below hb)
  clear hb
  obtain ⟨mg, Bg, jg, dg, rfl, HVG⟩ := RetI.shape_ hvg
  clear hvg
  refine hK.out _ _ ⟨Or.inr (⟨BK10.out.cell 0, BK10.out.cell 1, BK12.out.cell 0, BK12.out.cell 1⟩), Or.inr (trivial)⟩ (fun hS => ?_)
  clear hK K
  (try simp only [Act.put, List.setIfInBounds_toArray, List.set_cons_zero, List.set_cons_succ])
  refine wpL_one (i := 12) (by kernel_rfl) rfl (by rfl) (fun K hK => ?_)
  clear hS
  go_simp
  refine (p_one _).mono ?_
  rintro e u ⟨v1, rfl, hv1, hb⟩
  replace HB := Lib.hid (bth HB.out hb)
  replace BK4 := Lib.hid (BK4.out.below hb)
  replace BK10 := Lib.hid (BK10.out.below hb)
  replace BK12 := Lib.hid (BK12.out.below hb)
  replace Ha := Lib.hid (Ha.out.below hb)
  replace Hb := Lib.hid (Hb.out.below hb)
  replace HVG := Lib.hid (HVG.out.below hb)
  clear hb
  obtain ⟨m2, B2, j2, d2, rfl, HV2⟩ := RetI.shape_ hv1
  clear hv1
  refine hK.out _ _ ⟨Or.inr (⟨BK10.out.cell 0, BK10.out.cell 1, BK12.out.cell 0, BK12.out.cell 1⟩), Or.inr (trivial)⟩ (fun hS => ?_)
  clear hK K
  (try simp only [Act.put, List.setIfInBounds_toArray, List.set_cons_zero, List.set_cons_succ])
  refine wpL_one (i := 13) (by kernel_rfl) rfl (by rfl) (fun K hK => ?_)
  clear hS
  go_simp
  refine (p_cmp _ _ (Int.gcd x y : Int) 1 _ HVG.out HV2.out (n := n) HTD.out.2.2.2.2 (Td_mono (Td_one 0) HTD.out.2.2.2.1) HTD.out.2.2.1).mono ?_
  rintro e u ⟨rfl, hb⟩
  replace HB := Lib.hid (bth HB.out hb)
  replace BK4 := Lib.hid (BK4.out.below hb)
  replace BK10 := Lib.hid (BK10.out.below hb)
  replace BK12 := Lib.hid (BK12.out.below hb)
  replace Ha := Lib.hid (Ha.out.below hb)
  replace Hb := Lib.hid (Hb.out.below hb)
  clear hb
  clear HVG HV2
  refine hK.out _ _ ⟨Or.inr (⟨BK10.out.cell 0, BK10.out.cell 1, BK12.out.cell 0, BK12.out.cell 1⟩), Or.inr (trivial)⟩ (fun hS => ?_)
  clear hK K
  (try simp only [Act.put, List.setIfInBounds_toArray, List.set_cons_zero, List.set_cons_succ])
  refine wpM1 (i := 14) (v := .bool false) (some 79) rfl rfl (by kernel_rfl) (fun _ _ _ h => h) hS (Or.inl ⟨by rfl, fun w hSw => ?_⟩) (fun hS => ?_)
  · (try dsimp only at hSw); clear hS; first | (go_simp; done) | (go_simp; with_reducible rfl)
  (try simp only [Act.put, List.setIfInBounds_toArray, List.set_cons_zero, List.set_cons_succ])
  refine wpM1 (i := 15) (v := .bool false) (some 80) rfl rfl (by kernel_rfl) (fun _ _ _ h => h) hS (Or.inl ⟨by rfl, fun w hSw => ?_⟩) (fun hS => ?_)
  · (try dsimp only at hSw); clear hS; first | (go_simp; done) | (go_simp; with_reducible rfl)
  (try simp only [Act.put, List.setIfInBounds_toArray, List.set_cons_zero, List.set_cons_succ])
  refine wpL_done (by kernel_rfl) ?_ _
  clear hS
  obtain ⟨c4_0, c4_1, c4_2, c4_3, f4_0, f4_1, f4_2, f4_3⟩ := BK4.out.all4
  obtain ⟨c10_0, c10_1, f10_0, f10_1⟩ := BK10.out.all2
  obtain ⟨c12_0, c12_1, f12_0, f12_1⟩ := BK12.out.all2
  go_wp2_with fail
  refine bodyPost_ret (results_cell1 rfl _ _ g4 31 #[.bool na, .slice Aa ka ca, .bool nb, .slice Ab kb cb] (0, 0) _ rfl (BK4.out.put4 _ _ _ _) Tryz.underlying31 rfl (by kernel_rfl)) rfl ?_
  have KP := BK4.out.kp4 (by decide) (.bool na) (.slice Aa ka ca) (.bool nb) (.slice Ab kb cb)
  exact ⟨_, rfl, RR.ofParts (Ha.out.kp KP) (Hb.out.kp KP) HQX.out.1 HQX.out.2, below_put4 HB.out HG4.out _ _ _ _⟩
end Go.Proofs.YtapckjeedekphaaGreatDoor

set_option linter.unusedVariables false
set_option linter.unusedSimpArgs false
namespace Go.Proofs.YtapckjeedekphaaGreatDoorW.PrintWords
open Go.RowKit

section
variable {P : Program} {ops : Array Oper} {rest : List Oper} {o : Oper} {a : Act} {Q : Exit → Act → World → Prop}

end

section
variable {P : Program}
end
section
variable {P : Program} {ops : Array Oper} {rest : List Oper} {o : Oper} {a : Act} {Q : Exit → Act → World → Prop}
end

section
variable {P : Program} {ops : Array Oper} {rest : List Oper} {o : Oper} {a : Act} {Q : Exit → Act → World → Prop}
end

section
variable {P : Program} {ops : Array Oper} {o : Oper} {a : Act} {Q : Exit → Act → World → Prop} {K : Act → World → Prop}
end
section
variable {α : Type} {enc : α → Value} {d : α}
end
section
variable {α : Type} {P : Program} {ops : Array Oper} {rest : List Oper} {o : Oper} {a : Act} {Q : Exit → Act → World → Prop}
end

section
variable {P : Program}
end
section
variable {α : Type} {R R' : α → List Value → Prop} {e : TypeId} {size : Nat} {w w1 : World} {base : Nat} {v : Value} {ps : List α}
end
section
variable {P : Program} {ops : Array Oper} {rest : List Oper} {o : Oper} {a : Act} {Q : Exit → Act → World → Prop} {α : Type} {R : α → List Value → Prop}
end
section
variable {P : Program} {ops : Array Oper} {o : Oper} {a : Act} {Q : Exit → Act → World → Prop} {K : Act → World → Prop} {α : Type} {R : α → List Value → Prop}
end
section
variable {α : Type} {P : Program}
end

section
variable {P : Program} {ops : Array Oper} {rest : List Oper} {o : Oper} {a : Act} {Q : Exit → Act → World → Prop}
end
namespace Kd
section
variable {α : Type} {d : Kd α} {e : Nat} {w w1 : World} {base : Nat} {ok ok' : Nat → Prop} {v : Value} {xs : List α}
theorem C_below {A : Option Addr} {n : Nat} (h : d.C w A n xs) (hb : Below w.heap.size w w1) : d.C w1 A n xs := ReadsRow.imp_ h hb (fun _ _ hp => d.K_below hb hp)
end

section
variable {P : Program} {ops : Array Oper} {rest : List Oper} {o : Oper} {a : Act} {Q : Exit → Act → World → Prop} {α : Type}
end
section
variable {P : Program} {ops : Array Oper} {o : Oper} {a : Act} {Q : Exit → Act → World → Prop} {Kc : Act → World → Prop} {α : Type}
end
end Kd
namespace Kd
section
variable {α : Type} {F : Kd α → Kd α} {sz : Nat} {E : List Nat} {hs : ∀ n, (upto F sz E n).sz = sz} {hE : ∀ n q, q ∈ (upto F sz E n).E → q ∈ E}
end
end Kd
namespace Kd
end Kd
namespace Kd
section
variable {α β : Type} {d : Kd α} {d' : Kd β} {e e' : Nat} {w w1 W : World} {base b b' : Nat} {ok ok' okv oku : Nat → Prop} {v u : Value} {xs : List α} {ys : List β}
end
section
variable {w W : World} {A : Option Addr} {n : Nat}
variable {α : Type} {enc : α → Value} {h1 : ∀ x, (enc x).oneCell' = true} {e base g cap : Nat} {ok : Nat → Prop} {xs : List α}
end

section
variable {P : Program} {ops : Array Oper} {rest : List Oper} {o : Oper} {a : Act} {Q : Exit → Act → World → Prop}
variable {α : Type}
end
end Kd
section
variable {P : Program}
end
section
variable {w w1 : World} {base n size : Nat} {e : TypeId} {v : Value} {xs : List Value}
end
section
variable {P : Program}
end
namespace Kd
section
variable {α : Type} {d : Kd α} {e : Nat} {w w1 W : World} {base : Nat} {ok ok' : Nat → Prop} {v : Value} {xs : List α}
end
section
variable {P : Program} {ops : Array Oper} {rest : List Oper} {o : Oper} {a : Act} {Q' : Exit → Act → World → Prop} {Kc : Act → World → Prop} {α : Type}
end
end Kd
namespace Kd
section
variable {α : Type} {d : Kd α} {e e' : Nat} {w w1 W : World} {base : Nat} {ok : Nat → Prop} {u v : Value} {xs : List α}
end
end Kd
namespace Kd
section
variable {α : Type} {d : Kd α} {e base g n cap : Nat} {ok okp : Nat → Prop} {W : World} {xs : List α}
end
end Kd
namespace Kd
section
variable {α : Type} {F : Kd α → Kd α} {sz : Nat} {E : List Nat} {hs : ∀ n, (upto F sz E n).sz = sz} {hE : ∀ n q, q ∈ (upto F sz E n).E → q ∈ E}
end
end Kd
namespace Kd
section
variable {P : Program} {ops : Array Oper} {rest : List Oper} {o : Oper} {a : Act} {Q : Exit → Act → World → Prop} {α : Type}
end
end Kd
namespace Kd
section
variable {P : Program} {ops : Array Oper} {rest : List Oper} {o : Oper} {a : Act} {Q : Exit → Act → World → Prop} {α : Type}
end
end Kd
namespace Kd
section
variable {α : Type} {k : Kd α} {w : World} {A : Option Addr} {xs : List α} {m c : Nat}
end
end Kd
section
variable {P : Program}
end
namespace Kd
section
variable {α β : Type} {d : Kd α} {d' : Kd β} {e e' base base' n : Nat} {ok ok' : Nat → Prop} {w W w1 W1 : World} {v u : Value} {xs : List α} {ys : List β} {A : Option Addr} {c : Nat}
end
section
variable {α : Type} {enc : α → Value} {h1 : ∀ x, (enc x).oneCell' = true} {w W : World} {A : Option Addr} {n g : Nat} {xs : List α}
end
end Kd
namespace Kd
section
variable {α : Type} {d : Kd α} {e base g : Nat} {ok : Nat → Prop} {w w1 : World} {v : Value} {xs : List α} {o : Obj}
end
end Kd
section
variable {P : Program} {ops : Array Oper} {rest : List Oper} {o : Oper} {a : Act} {Q : Exit → Act → World → Prop}
end
namespace Kd
section
variable {α : Type} {enc : α → Value} {h1 : ∀ x, (enc x).oneCell' = true} {e base g n cap : Nat} {ok : Nat → Prop} {W : World} {xs : List α}
end
end Kd
section
variable {P : Program} {ops : Array Oper} {rest : List Oper} {o : Oper} {a : Act} {Q : Exit → Act → World → Prop}
end
namespace Kd
section
variable {α : Type} {enc : α → Value} {h1 : ∀ x, (enc x).oneCell' = true} {e base g n cap : Nat} {ok : Nat → Prop} {W : World} {xs : List α}
end
end Kd
section
variable {P : Program} {ops : Array Oper} {rest : List Oper} {o : Oper} {a : Act} {Q : Exit → Act → World → Prop} {W : World}
end
section
variable {P : Program} {ops : Array Oper} {o : Oper} {a : Act} {Q : Exit → Act → World → Prop} {Kc : Act → World → Prop}
namespace Kd
variable {α : Type}
end Kd
end
section
variable {P : Program} {tmps : Array Value} {w : World}
end
namespace Kd
section
variable {P : Program} {α : Type}
end
section
variable {P : Program} {ops : Array Oper} {rest : List Oper} {o : Oper} {a : Act} {Q : Exit → Act → World → Prop} {Kc : Act → World → Prop} {α : Type}
end
end Kd

end Go.Proofs.YtapckjeedekphaaGreatDoorW.PrintWords

namespace Go.Proofs.YtapckjeedekphaaGreatDoor.PR
open Go.RowKit Go.Proofs.YtapckjeedekphaaGreatDoorW.PrintWords Go.Proofs.YtapckjeedekphaaGreatDoorW.PrintLast Go.Proofs.YtapckjeedekphaaGreatDoorW.PrintMore
set_option linter.unusedVariables false
set_option linter.unusedSimpArgs false

def dowelref02_digits.l0 : Nat → ByteArray → Int → Option (Bool)
  | 0, _, _ => none
  | k + 1, x0, x3 => if x3 < (x0.size : Int) then (if 0 ≤ x3 then (if (bt x0 x3) < 48 then (some false) else (if (bt x0 x3) > 57 then (some false) else (dowelref02_digits.l0 k x0 (wrap64 (x3 + 1))))) else (none)) else (some (decide ((x0.size : Int) > 0)))
def dowelref02_digits.f (k : Nat) (a0 : ByteArray) : Option (Bool) := dowelref02_digits.l0 k a0 0
set_option maxHeartbeats 8000000 in
set_option maxRecDepth 100000 in
theorem dowelref02_digits.calls (k : Nat) (a0 : ByteArray) (r : Bool) (w : World) (h : dowelref02_digits.f k a0 = some r) :
    Calls Tryz.prog 138 #[.string a0] w fun e w' => e = .returned (.bool r) ∧ Drawn0 w w' := by
  have H : (dowelref02_digits.l0 k a0 0) = some r := h
  clear h
  have H' := Aside0.mk H
  clear H
  go_enter Tryz.func138, Tryz.ntmps138
  go_wp2
  go_loopg [3] k (fun kq v3 w' => ∃ (x3_1 : Int), v3 = .int .i64 x3_1 ∧ Aside0 (dowelref02_digits.l0 kq a0 x3_1 = some r) ∧ Aside0 (kq ≤ k) ∧ Drawn0 w w')
  case atStart => exact ⟨(0), (by first | rfl | (simp; done) | (simp [*]; done)), H', ⟨Nat.le_refl _⟩, by repeat (first | exact Drawn0.refl _ | apply Drawn0.step)⟩
  case round =>
    clear H'
    try clear c1
    obtain ⟨x3_1, rfl, HA, HK1, ⟨m1, rfl⟩⟩ := hrel
    cases gk with
    | zero => exact absurd HA.out (by simp [dowelref02_digits.l0])
    | succ k1 =>
      have H := HA.out
      clear HA
      simp only [dowelref02_digits.l0] at H
      by_cases c2 : x3_1 < (a0.size : Int)
      · rw [if_pos c2] at H
        have c2b0 : decide (x3_1 < (a0.size : Int)) = true := decide_eq_true c2
        clear c2
        by_cases c3 : 0 ≤ x3_1
        · rw [if_pos c3] at H
          have c3b0 : decide (0 ≤ x3_1) = true := decide_eq_true c3
          clear c3
          by_cases c5 : (bt a0 x3_1) < 48
          · rw [if_pos c5] at H
            have c5b0 : decide ((bt a0 x3_1) < 48) = true := decide_eq_true c5
            clear c5
            obtain rfl := Option.some.inj H
            have p4 : 0 ≤ (x3_1 : Int) := of_decide_eq_true (by first | (with_reducible assumption) | assumption)
            have q4 : x3_1 < (a0.size : Int) := of_decide_eq_true (by first | (with_reducible assumption) | assumption)
            have hx4 := bt_at a0 x3_1
            replace p4 := eq_true p4
            replace q4 := eq_true q4
            go_wp2
            go_ret
            exact ⟨by first | rfl | (simp; done) | (simp [*]; done), by repeat (first | exact Drawn0.refl _ | apply Drawn0.step)⟩
          · rw [if_neg c5] at H
            have c5b0 : decide ((bt a0 x3_1) < 48) = false := decide_eq_false c5
            clear c5
            by_cases c7 : (bt a0 x3_1) > 57
            · rw [if_pos c7] at H
              have c7b0 : decide (57 < (bt a0 x3_1)) = true := decide_eq_true c7
              clear c7
              obtain rfl := Option.some.inj H
              have p4 : 0 ≤ (x3_1 : Int) := of_decide_eq_true (by first | (with_reducible assumption) | assumption)
              have q4 : x3_1 < (a0.size : Int) := of_decide_eq_true (by first | (with_reducible assumption) | assumption)
              have hx4 := bt_at a0 x3_1
              replace p4 := eq_true p4
              replace q4 := eq_true q4
              have p6 : 0 ≤ (x3_1 : Int) := of_decide_eq_true (by first | (with_reducible assumption) | assumption)
              have q6 : x3_1 < (a0.size : Int) := of_decide_eq_true (by first | (with_reducible assumption) | assumption)
              have hx6 := bt_at a0 x3_1
              replace p6 := eq_true p6
              replace q6 := eq_true q6
              go_wp2
              go_ret
              exact ⟨by first | rfl | (simp; done) | (simp [*]; done), by repeat (first | exact Drawn0.refl _ | apply Drawn0.step)⟩
            · rw [if_neg c7] at H
              have c7b0 : decide (57 < (bt a0 x3_1)) = false := decide_eq_false c7
              clear c7
              have H' := Aside0.mk H
              clear H
              have p4 : 0 ≤ (x3_1 : Int) := of_decide_eq_true (by first | (with_reducible assumption) | assumption)
              have q4 : x3_1 < (a0.size : Int) := of_decide_eq_true (by first | (with_reducible assumption) | assumption)
              have hx4 := bt_at a0 x3_1
              replace p4 := eq_true p4
              replace q4 := eq_true q4
              have p6 : 0 ≤ (x3_1 : Int) := of_decide_eq_true (by first | (with_reducible assumption) | assumption)
              have q6 : x3_1 < (a0.size : Int) := of_decide_eq_true (by first | (with_reducible assumption) | assumption)
              have hx6 := bt_at a0 x3_1
              replace p6 := eq_true p6
              replace q6 := eq_true q6
              go_wp2
              go_roundg k1
              case measure => have := HK1.out; omega
              case rel => exact ⟨(wrap64 (x3_1 + 1)), (by first | rfl | (simp; done) | (simp [*]; done)), H', ⟨by have := HK1.out; omega⟩, by repeat (first | exact Drawn0.refl _ | apply Drawn0.step)⟩
        · rw [if_neg c3] at H
          exact absurd H (by simp)
      · rw [if_neg c2] at H
        have c2b0 : decide (x3_1 < (a0.size : Int)) = false := decide_eq_false c2
        clear c2
        obtain rfl := Option.some.inj H
        go_wp2
        go_ret
        exact ⟨by first | rfl | (simp; done) | (simp [*]; done), by repeat (first | exact Drawn0.refl _ | apply Drawn0.step)⟩

def dowelref02_zeros.l0 : Nat → ByteArray → Int → Option (Bool)
  | 0, _, _ => none
  | k + 1, x0, x3 => if x3 < (x0.size : Int) then (if 0 ≤ x3 then (if (bt x0 x3) = 48 then (dowelref02_zeros.l0 k x0 (wrap64 (x3 + 1))) else (some false)) else (none)) else (some true)
def dowelref02_zeros.f (k : Nat) (a0 : ByteArray) : Option (Bool) := dowelref02_zeros.l0 k a0 0
set_option maxHeartbeats 8000000 in
set_option maxRecDepth 100000 in
theorem dowelref02_zeros.calls (k : Nat) (a0 : ByteArray) (r : Bool) (w : World) (h : dowelref02_zeros.f k a0 = some r) :
    Calls Tryz.prog 139 #[.string a0] w fun e w' => e = .returned (.bool r) ∧ Drawn0 w w' := by
  have H : (dowelref02_zeros.l0 k a0 0) = some r := h
  clear h
  have H' := Aside0.mk H
  clear H
  go_enter Tryz.func139, Tryz.ntmps139
  go_wp2
  go_loopg [3] k (fun kq v3 w' => ∃ (x3_1 : Int), v3 = .int .i64 x3_1 ∧ Aside0 (dowelref02_zeros.l0 kq a0 x3_1 = some r) ∧ Aside0 (kq ≤ k) ∧ Drawn0 w w')
  case atStart => exact ⟨(0), (by first | rfl | (simp; done) | (simp [*]; done)), H', ⟨Nat.le_refl _⟩, by repeat (first | exact Drawn0.refl _ | apply Drawn0.step)⟩
  case round =>
    clear H'
    try clear c1
    obtain ⟨x3_1, rfl, HA, HK1, ⟨m1, rfl⟩⟩ := hrel
    cases gk with
    | zero => exact absurd HA.out (by simp [dowelref02_zeros.l0])
    | succ k1 =>
      have H := HA.out
      clear HA
      simp only [dowelref02_zeros.l0] at H
      by_cases c2 : x3_1 < (a0.size : Int)
      · rw [if_pos c2] at H
        have c2b0 : decide (x3_1 < (a0.size : Int)) = true := decide_eq_true c2
        clear c2
        by_cases c3 : 0 ≤ x3_1
        · rw [if_pos c3] at H
          have c3b0 : decide (0 ≤ x3_1) = true := decide_eq_true c3
          clear c3
          by_cases c5 : (bt a0 x3_1) = 48
          · rw [if_pos c5] at H
            have c5b0 : ((bt a0 x3_1) == 48) = true := beq_iff_eq.mpr c5
            have c5b1 : ((bt a0 x3_1) != 48) = false := bne_eq_false_iff_eq.mpr c5
            clear c5
            have H' := Aside0.mk H
            clear H
            have p4 : 0 ≤ (x3_1 : Int) := of_decide_eq_true (by first | (with_reducible assumption) | assumption)
            have q4 : x3_1 < (a0.size : Int) := of_decide_eq_true (by first | (with_reducible assumption) | assumption)
            have hx4 := bt_at a0 x3_1
            replace p4 := eq_true p4
            replace q4 := eq_true q4
            go_wp2
            go_roundg k1
            case measure => have := HK1.out; omega
            case rel => exact ⟨(wrap64 (x3_1 + 1)), (by first | rfl | (simp; done) | (simp [*]; done)), H', ⟨by have := HK1.out; omega⟩, by repeat (first | exact Drawn0.refl _ | apply Drawn0.step)⟩
          · rw [if_neg c5] at H
            have c5b0 : ((bt a0 x3_1) == 48) = false := beq_eq_false_iff_ne.mpr c5
            have c5b1 : ((bt a0 x3_1) != 48) = true := bne_iff_ne.mpr c5
            obtain rfl := Option.some.inj H
            have p4 : 0 ≤ (x3_1 : Int) := of_decide_eq_true (by first | (with_reducible assumption) | assumption)
            have q4 : x3_1 < (a0.size : Int) := of_decide_eq_true (by first | (with_reducible assumption) | assumption)
            have hx4 := bt_at a0 x3_1
            replace p4 := eq_true p4
            replace q4 := eq_true q4
            go_wp2
            go_ret
            exact ⟨by first | rfl | (simp; done) | (simp [*]; done), by repeat (first | exact Drawn0.refl _ | apply Drawn0.step)⟩
        · rw [if_neg c3] at H
          exact absurd H (by simp)
      · rw [if_neg c2] at H
        have c2b0 : decide (x3_1 < (a0.size : Int)) = false := decide_eq_false c2
        clear c2
        obtain rfl := Option.some.inj H
        go_wp2
        go_ret
        exact ⟨by first | rfl | (simp; done) | (simp [*]; done), by repeat (first | exact Drawn0.refl _ | apply Drawn0.step)⟩

end Go.Proofs.YtapckjeedekphaaGreatDoor.PR

namespace Go.Proofs.YtapckjeedekphaaGreatDoor
open Go.RowKit Go.Proofs.YtapckjeedekphaaGreatDoorW.PrintWords PR
end Go.Proofs.YtapckjeedekphaaGreatDoor

namespace Go.Proofs.YtapckjeedekphaaGreatDoor
open Go.RowKit Go.Proofs.YtapckjeedekphaaGreatDoorW.PrintWords PR
end Go.Proofs.YtapckjeedekphaaGreatDoor

namespace Go.Proofs.YtapckjeedekphaaGreatDoor
open Go.RowKit Go.Proofs.YtapckjeedekphaaGreatDoorW.PrintWords PR
end Go.Proofs.YtapckjeedekphaaGreatDoor

namespace Go.Proofs.YtapckjeedekphaaGreatDoor
open Go.RowKit Go.Proofs.YtapckjeedekphaaGreatDoorW.PrintWords PR
theorem digits_loop (l : List UInt8) (hm : l.length ≤ 1000000) (d : Nat) : ∀ k n, d < k → n + d = l.length → dowelref02_digits.l0 k (S l) (n : Int) = some ((l.drop n).all isDig && !l.isEmpty) := by
  induction d with
  | zero =>
    intro k n hk hn
    obtain ⟨k, rfl⟩ : ∃ m, k = m + 1 := ⟨k - 1, by omega⟩
    simp only [dowelref02_digits.l0]
    rw [S_size, if_neg (by omega), List.drop_eq_nil_of_le (by omega)]
    cases l with
    | nil => simp
    | cons => simp
  | succ d ih =>
    intro k n hk hn
    obtain ⟨k, rfl⟩ : ∃ m, k = m + 1 := ⟨k - 1, by omega⟩
    have hlt : n < l.length := by omega
    simp only [dowelref02_digits.l0]
    rw [S_size, if_pos (by omega), if_pos (by omega), bt_S l n hlt, drop_get l n hlt]
    by_cases c1 : ((l[n].toNat : Int) < 48)
    · rw [if_pos c1]
      have : isDig l[n] = false := by unfold isDig; simp; omega
      rw [List.all_cons, this]; rfl
    · rw [if_neg c1]
      by_cases c2 : (l[n].toNat : Int) > 57
      · rw [if_pos c2]
        have : isDig l[n] = false := by unfold isDig; simp; omega
        rw [List.all_cons, this]; rfl
      · rw [if_neg c2, w64s n (by omega), ih k (n + 1) (by omega) (by omega)]
        have : isDig l[n] = true := by unfold isDig; simp; omega
        rw [List.all_cons, this, Bool.true_and]
theorem digits_eq (l : List UInt8) (hm : l.length ≤ 1000000) (k : Nat) (hk : l.length < k) : dowelref02_digits.f k (S l) = some (digs l) := by
  unfold dowelref02_digits.f
  have h := digits_loop l hm l.length k 0 hk (by omega)
  rw [show ((0 : Nat) : Int) = 0 from rfl, List.drop_zero] at h
  rw [h]
  unfold digs
  rw [Bool.and_comm]
theorem zeros_loop (l : List UInt8) (hm : l.length ≤ 1000000) (d : Nat) : ∀ k n, d < k → n + d = l.length → dowelref02_zeros.l0 k (S l) (n : Int) = some ((l.drop n).all (· == 48)) := by
  induction d with
  | zero =>
    intro k n hk hn
    obtain ⟨k, rfl⟩ : ∃ m, k = m + 1 := ⟨k - 1, by omega⟩
    simp only [dowelref02_zeros.l0]
    rw [S_size, if_neg (by omega), List.drop_eq_nil_of_le (by omega)]
    simp
  | succ d ih =>
    intro k n hk hn
    obtain ⟨k, rfl⟩ : ∃ m, k = m + 1 := ⟨k - 1, by omega⟩
    have hlt : n < l.length := by omega
    simp only [dowelref02_zeros.l0]
    rw [S_size, if_pos (by omega), if_pos (by omega), bt_S l n hlt, drop_get l n hlt]
    by_cases c : l[n] = 48
    · rw [if_pos (by rw [c]; rfl), w64s n (by omega), ih k (n + 1) (by omega) (by omega), List.all_cons]
      simp [c]
    · rw [if_neg (fun e : (l[n].toNat : Int) = 48 => c (byte_eq e)), List.all_cons]
      simp [c]
theorem zeros_eq (l : List UInt8) (hm : l.length ≤ 1000000) (k : Nat) (hk : l.length < k) : dowelref02_zeros.f k (S l) = some (l.all (· == 48)) := by
  unfold dowelref02_zeros.f
  have h := zeros_loop l hm l.length k 0 hk (by omega)
  rw [show ((0 : Nat) : Int) = 0 from rfl, List.drop_zero] at h
  exact h
end Go.Proofs.YtapckjeedekphaaGreatDoor

namespace Go.Proofs.YtapckjeedekphaaGreatDoor
open Go.RowKit Go.Proofs.YtapckjeedekphaaGreatDoorW.PrintWords PR
/-- The error of a text as a rational. -/
def chkQ (l : List UInt8) (most : Int) : Int :=
  if most < (l.length : Int) then 5
  else if (digs (plain (pre l)) && digs (dpart l)) = false then 14
  else if (dpart l).all (· == 48) = true then 19
  else if ((lead (plain (pre l)) && decide (1 < (pre l).length)) || lead (dpart l)) = true then 3
  else if (hasSl l && (decide (dpart l = [49]) || decide (Int.gcd (vI (pre l)) (vI (dpart l)) ≠ 1))) = true then 3 else 0
theorem pre_post {l : List UInt8} (h : hasSl l = true) : l = pre l ++ 47 :: post l := by
  unfold hasSl at h
  have h := of_decide_eq_true h
  obtain ⟨e1, e2⟩ := pre_take l
  conv => lhs; rw [← List.take_append_drop (pre l).length l]
  rw [drop_get l _ h, e2 h, ← e1]
  rfl
theorem TQ_qtx (q : Rat) (hn : 1 ≤ (qtx q).length) : TQ (qtx q).length q := by
  have h1 := Td_itx q.num
  have h2 := Td_itx (q.den : Int)
  unfold TQ
  unfold qtx at *
  by_cases c : q.den = 1
  · rw [if_pos c] at *
    refine ⟨h1, ?_⟩
    rw [c]
    refine Td_mono (m := 1) ?_ hn
    unfold Td; decide
  · rw [if_neg c] at *
    exact ⟨Td_mono h1 (by simp), Td_mono h2 (by simp; omega)⟩
theorem qtx_ne (q : Rat) : 1 ≤ (qtx q).length := by
  have := itx_ne_nil q.num
  have : 1 ≤ (itx q.num).length := by cases h : itx q.num with
    | nil => exact absurd h this
    | cons => simp
  unfold qtx
  split
  · exact this
  · simp; omega
theorem digs_plain_nonneg {l : List UInt8} (h : digs l = true) : plain l = l := by
  unfold plain
  rw [if_neg]
  intro h45
  cases l with
  | nil => cases h45
  | cons b r =>
    simp at h45
    subst h45
    unfold digs at h
    simp [isDig] at h
theorem chkQ_ok {l : List UInt8} {most : Int} (h : chkQ l most = 0) : ∃ q : Rat, l = qtx q ∧ (l.length : Int) ≤ most := by
  unfold chkQ at h
  by_cases c1 : most < (l.length : Int)
  · rw [if_pos c1] at h; exact absurd h (by decide)
  rw [if_neg c1] at h
  by_cases c2 : (digs (plain (pre l)) && digs (dpart l)) = false
  · rw [if_pos c2] at h; exact absurd h (by decide)
  rw [if_neg c2] at h
  by_cases c3 : (dpart l).all (· == 48) = true
  · rw [if_pos c3] at h; exact absurd h (by decide)
  rw [if_neg c3] at h
  by_cases c4 : ((lead (plain (pre l)) && decide (1 < (pre l).length)) || lead (dpart l)) = true
  · rw [if_pos c4] at h; exact absurd h (by decide)
  rw [if_neg c4] at h
  by_cases c5 : (hasSl l && (decide (dpart l = [49]) || decide (Int.gcd (vI (pre l)) (vI (dpart l)) ≠ 1))) = true
  · rw [if_pos c5] at h; exact absurd h (by decide)
  have c2' := (Bool.and_eq_true _ _).mp (by simpa using c2)
  have c4' : (lead (plain (pre l)) && decide (1 < (pre l).length)) = false ∧ lead (dpart l) = false := by
    rw [Bool.not_eq_true, Bool.or_eq_false_iff] at c4; exact c4
  have hp := itx_vI c2'.1 c4'.1
  by_cases hs : hasSl l = true
  · have ed : dpart l = post l := by unfold dpart; rw [if_pos hs]
    rw [hs, Bool.true_and, Bool.or_eq_true, not_or] at c5
    have g1 : dpart l ≠ [49] := by simpa using c5.1
    have g2 : Int.gcd (vI (pre l)) (vI (dpart l)) = 1 := by simpa using c5.2
    have hpl := digs_plain_nonneg c2'.2
    have hd := itx_vI (l := dpart l) (by rw [hpl]; exact c2'.2) (by rw [hpl, c4'.2]; rfl)
    have h0 : 0 ≤ vI (dpart l) := by
      unfold vI
      rw [if_neg]
      · have : (dpart l).all isDig = true := by have := c2'.2; unfold digs at this; simp at this; simpa using this.2
        exact V_nonneg (by omega) (dl_digs this).2.1
      · intro h45
        have : plain (dpart l) = (dpart l).tail := by unfold plain; rw [if_pos h45]
        rw [hpl] at this
        have h6 := congrArg List.length this
        have : dpart l ≠ [] := fun e => by rw [e] at h45; cases h45
        simp at h6
        have : (dpart l).length ≠ 0 := fun e => this (List.eq_nil_of_length_eq_zero e)
        omega
    have hne0 : vI (dpart l) ≠ 0 := by
      intro h0
      rw [h0, itx_zero] at hd
      rw [← hd] at c4'
      exact absurd c4'.2 (by decide)
    have hne1 : vI (dpart l) ≠ 1 := fun h1 => g1 (by rw [← hd, h1, itx_one])
    refine ⟨⟨vI (pre l), (vI (dpart l)).toNat, by omega, ?_⟩, ?_, by omega⟩
    · have : (vI (dpart l)).toNat = (vI (dpart l)).natAbs := by omega
      show Nat.gcd _ _ = 1
      rw [this]
      exact g2
    · unfold qtx
      rw [if_neg (by show (vI (dpart l)).toNat ≠ 1; omega)]
      show l = itx (vI (pre l)) ++ 47 :: itx ((vI (dpart l)).toNat : Int)
      rw [Int.toNat_of_nonneg h0, hp, hd, ed]
      exact pre_post hs
  · have hl : l = pre l := by
      have : ¬ (pre l).length < l.length := by unfold hasSl at hs; simpa using hs
      have e1 := (pre_take l).1
      rw [List.take_of_length_le (by omega)] at e1
      exact e1.symm
    refine ⟨((vI (pre l) : Int) : Rat), ?_, by omega⟩
    unfold qtx
    rw [if_pos (by rfl)]
    show l = itx (vI (pre l))
    rw [hp]
    exact hl
theorem chkQ_qtx (q : Rat) {most : Int} (h : ((qtx q).length : Int) ≤ most) : chkQ (qtx q) most = 0 := by
  obtain ⟨h1, h2, h3, h4⟩ := qtx_parts q
  obtain ⟨n1, n2, n3, n4⟩ := itx_right q.num
  obtain ⟨d1, d2, d3, d4⟩ := itx_right (q.den : Int)
  have hd0 := q.den_nz
  have d3 := d3 (by omega)
  rw [d3] at d1 d2
  have hz : itx (q.den : Int) ≠ [48] := fun e => hd0 (by have := D10_inj_itx (e.trans itx_zero.symm); omega)
  have hlead : lead (itx (q.den : Int)) = false := by
    cases hc : lead (itx (q.den : Int)) with
    | false => rfl
    | true =>
      rw [hc, Bool.true_and] at d2
      have := of_decide_eq_false d2
      exfalso
      cases he : itx (q.den : Int) with
      | nil => exact itx_ne_nil _ he
      | cons b r =>
        rw [he] at this hc
        have : r = [] := by simpa using this
        subst this
        unfold lead at hc
        simp at hc
        subst hc
        exact hz he
  have hall : (itx (q.den : Int)).all (· == 48) = false := by
    cases hc : (itx (q.den : Int)).all (· == 48) with
    | false => rfl
    | true =>
      exfalso
      cases he : itx (q.den : Int) with
      | nil => exact itx_ne_nil _ he
      | cons b r =>
        rw [he] at hlead hc
        simp at hc
        rw [hc.1] at hlead
        have : lead (48 :: r) = true := rfl
        rw [this] at hlead
        cases hlead
  unfold chkQ
  rw [if_neg (by omega), h1, h3, n1, d1, hall, n2, hlead, h2]
  rw [if_neg (by decide), if_neg (by decide), if_neg (by decide), vI_itx, vI_itx]
  by_cases c : q.den = 1
  · rw [if_neg]
    simp [c]
  · rw [if_neg]
    have e1 : itx (q.den : Int) ≠ [49] := fun e => c (by have := D10_inj_itx (e.trans itx_one.symm); omega)
    have e2 : Int.gcd q.num q.den = 1 := q.reduced
    simp [e1, e2]
end Go.Proofs.YtapckjeedekphaaGreatDoor

namespace Go.Proofs.YtapckjeedekphaaGreatDoor
open Go.RowKit Go.Proofs.YtapckjeedekphaaGreatDoorW.PrintWords PR
end Go.Proofs.YtapckjeedekphaaGreatDoor

namespace Go.Proofs.YtapckjeedekphaaGreatDoor
open Go.RowKit Go.Proofs.YtapckjeedekphaaGreatDoorW.PrintWords PR
section
variable {w w' : World} {g : Nat} {t : TypeId} {k : IntKind} {xs : List Int}
theorem IB.lt (h : IB w g t k xs) : g < w.heap.size := by
  rcases Nat.lt_or_ge g w.heap.size with hlt | hge
  · exact hlt
  · unfold IB at h; rw [Array.getElem?_eq_none hge] at h; cases h
theorem IB.drewN (h : IB w g t k xs) (n : Nat) : IB (w.drewN n) g t k xs := h
theorem IB.below {B : Nat} (h : IB w g t k xs) (hb : Below B w w') (hg : g < B) : IB w' g t k xs := (hb.block g hg).trans h
theorem IB.R (h : IB w g t k xs) {base : Nat} (hb : base ≤ g) (hl : xs.length ≤ 9223372036854775807) : Kd.R (Kd.int k) t w base (fun _ => True) (.slice (some ⟨g, 0, none⟩) xs.length xs.length) xs := by
  refine Kd.R_of_own ⟨by simp [encs], .inr ⟨g, xs.length, _, rfl, hb, h, Nat.le_refl _, by unfold maxLen; omega, by simp, by simp [encs, List.take_of_length_le]⟩⟩ (fun _ _ => trivial)
end
end Go.Proofs.YtapckjeedekphaaGreatDoor

namespace Go.Proofs.YtapckjeedekphaaGreatDoor
open Go.RowKit Go.Proofs.YtapckjeedekphaaGreatDoorW.PrintWords PR
/-- What is read at a place of a row. -/
theorem C_at {k : IntKind} {w w' : World} {A : Option Addr} {xs : List Int} (h : Kd.C (Kd.int k) w A xs.length xs) (hb : Below w.heap.size w w') (i : Nat) (hi : i < xs.length) : ∃ ad, A = some ad ∧ w'.cell? (ad.add i) = some (.int k (rd xs i)) := by
  obtain ⟨ad, e, hc⟩ := Kd.at_int (Kd.C_below h hb) (i : Int) (by omega) (by omega)
  exact ⟨ad, e, hc⟩
theorem mul_small {a b : Int} (ha : 0 ≤ a ∧ a < 10) (hb : 0 ≤ b ∧ b < 10) : 0 ≤ a * b ∧ a * b ≤ 81 := by
  refine ⟨Int.mul_nonneg ha.1 hb.1, ?_⟩
  have h1 : a * b ≤ 9 * b := Int.mul_le_mul_of_nonneg_right (by omega) hb.1
  omega
theorem info3' : ∃ i, Tryz.prog.info? 3 = some i ∧ i.zero = some (.int .i64 0) ∧ i.size = 1 ∧ i.bytes = 8 := by
  obtain ⟨i0, hi, hz, hs, hb⟩ := info_parts PR.info3
  exact ⟨i0, hi, hz, hs, hb⟩
theorem mul_sign (x y v : Int) (h : v = (x.natAbs : Int) * (y.natAbs : Int)) : x * y = if decide (wrap64 (cmp x 0 * cmp y 0) < 0) = true then - v else v := by
  rw [sgn_mul, h]
  by_cases hx : x < 0
  · have ex : (x.natAbs : Int) = -x := by omega
    by_cases hy : y < 0
    · have ey : (y.natAbs : Int) = -y := by omega
      rw [if_neg (by simp; omega), ex, ey, Int.neg_mul_neg]
    · have ey : (y.natAbs : Int) = y := by omega
      by_cases h0 : y = 0
      · subst h0; simp
      · rw [if_pos (by simp; omega), ex, ey, Int.neg_mul, Int.neg_neg]
  · have ex : (x.natAbs : Int) = x := by omega
    by_cases hy : y < 0
    · have ey : (y.natAbs : Int) = -y := by omega
      by_cases h0 : x = 0
      · subst h0; simp
      · rw [if_pos (by simp; omega), ex, ey, Int.mul_neg, Int.neg_neg]
    · have ey : (y.natAbs : Int) = y := by omega
      rw [if_neg (by simp; omega), ex, ey]
set_option maxHeartbeats 400000 in
theorem r_mul (x y : Int) (w : World) {n : Nat} (hx : Td n x) (hy : Td n y) (hn : n ≤ 100000) : Calls Tryz.prog 144 #[.string (S (itx x)), .string (S (itx y))] w fun e w' => e = .returned (.string (S (itx (x * y)))) ∧ Below w.heap.size w w' := by
  have HX := Lib.hid hx
  have HY := Lib.hid hy
  have LX : (D10 x.natAbs).length ≤ n := Td_len hx
  have LY : (D10 y.natAbs).length ≤ n := Td_len hy
  clear hx hy
  obtain ⟨i0, hi, hz, hs, hby⟩ := info3'
  have hmk := fun (m : Nat) (hm : m ≤ 1000000) (W : World) => run_make_ib (P := Tryz.prog) 165 3 i0 .i64 8 Tryz.underlying165 hi hz hs hby m (by omega) (by omega) W
  have HMK := Lib.hid hmk
  clear hmk hi hz hs hby
  go_enter Tryz.func144, Tryz.ntmps144
  go_wp2_with fail
  refine (r_digits x _ HX.out hn).mono ?_
  rintro e w1 ⟨va, rfl, hva, hb1⟩
  obtain ⟨Aa, ca, rfl, hca, ra⟩ := Kd.R_reads hva
  have RA := Lib.hid ra
  have HB1 := Lib.hid hb1
  clear hva hb1 ra
  go_wp2_with fail
  refine (r_digits y _ HY.out hn).mono ?_
  rintro e w2 ⟨vb, rfl, hvb, hb2⟩
  obtain ⟨Ab, cb, rfl, hcb, rb⟩ := Kd.R_reads hvb
  have RB := Lib.hid rb
  have RA2 := Lib.hid (Kd.C_below RA.out hb2)
  have HB2 := Lib.hid (bth HB1.out hb2)
  clear hvb hb2 rb RA HB1
  generalize hda : D10 x.natAbs = da at *
  generalize hdb : D10 y.natAbs = db at *
  have HDA := Lib.hid hda
  have HDB := Lib.hid hdb
  clear hda hdb
  have mk2 := HMK.out (da.length + db.length + 1) (by omega)
  rw [show ((da.length + db.length + 1 : Nat) : Int) = (da.length : Int) + (db.length : Int) + 1 by omega] at mk2
  clear HMK
  go_wp2_with fail
  clear mk2
  go_loopg [8] (da.length + 1) (fun gk v8 w' => ∃ i : Nat, i ≤ da.length ∧ da.length < gk + i ∧ v8 = .int .i64 i ∧ Hid (MulOut w2 w' w2.heap.size 3 .i64 10 da db (da.length + db.length + 1) i v8))
  case atStart => exact ⟨0, Nat.zero_le _, by omega, rfl, _, rfl, ⟨IB.new w2 3 .i64 _, by simp, Dg_replicate (by decide) _, (Below.refl _ _).alloc (Nat.le_refl _) _⟩, Zr_replicate _ _, by rw [V_replicate]; simp [V]⟩
  case round =>
    obtain ⟨i, hile, hgk, rfl, HM⟩ := hrel
    by_cases hi : i < da.length
    · go_wp2_with fail
      obtain ⟨wo, rfl⟩ : ∃ wo : World, wo = wr := ⟨_, rfl⟩
      obtain ⟨gi, rfl⟩ : ∃ g : Nat, g = gk := ⟨_, rfl⟩
      go_loopg [9, 10] (db.length + 2) (fun gj v9 v10 w' => ∃ (j : Nat) (c : Int), j ≤ db.length + 1 ∧ 0 ≤ c ∧ c < 10 ∧ db.length + 1 < gj + j ∧ v9 = .int .i64 c ∧ v10 = .int .i64 j ∧ Hid ((j = db.length + 1 → c = 0) ∧ MulIn w2 w' w2.heap.size 3 .i64 10 da db (da.length + db.length + 1) i (min j db.length) (i + max j db.length) c))
      case atStart => 
        obtain ⟨out, _, h1, h2, h3⟩ := HM
        exact ⟨0, 0, by omega, by omega, by omega, by omega, rfl, rfl, by omega, out, h1, Zr_mono h2 (by omega), by omega, by omega, by simp [h3, V]⟩
      case round =>
        obtain ⟨j, c, hj, hc0, hc1, hgj, rfl, rfl, HI⟩ := hrel
        by_cases hjl : j < db.length
        · obtain ⟨hj1, out, hm, hz, _, _, hV⟩ := HI.out
          have hlen := hm.len
          have hcell := hm.ib.cell (i + j) (by omega)
          have hfr := hm.ib.frozen (i + j)
          have ro := Dg_rd hm.dg (i + j) (by omega)
          have DA := D10_Dg x.natAbs
          have DB := D10_Dg y.natAbs
          rw [HDA.out] at DA
          rw [HDB.out] at DB
          have ra := Dg_rd DA i hi
          have rb := Dg_rd DB j hjl
          obtain ⟨ad, rfl, ca1⟩ := C_at RA2.out hm.bl i hi
          obtain ⟨bd, rfl, cb1⟩ := C_at RB.out hm.bl j hjl
          have hp := mul_small ra rb
          generalize ho : rd out ((i + j : Nat) : Int) = o at *
          generalize hai : rd da (i : Int) = ai at *
          generalize hbj : rd db (j : Int) = bj at *
          have HH := Lib.hid (And.intro ho (And.intro hai (And.intro hbj (And.intro hm (And.intro hz hV)))))
          have HL := Lib.hid hlen
          clear ho hai hbj hm hz hV hlen hj1 HI DA DB ra rb
          have hi0 : (0 : Int) ≤ (i : Int) := by omega
          have hi1 : (i : Int) < (da.length : Int) := by omega
          have hj0 : (0 : Int) ≤ (j : Int) := by omega
          have hj2 : (j : Int) < (db.length : Int) := by omega
          go_wp2_with fail
          go_quiet (fail)
          go_wp2_with fail
          obtain ⟨ho, hai, hbj, hm, hz, hV⟩ := HH.out
          have hlen := HL.out
          go_roundg (gk - 1)
          case measure => omega
          case rel =>
            refine ⟨j + 1, (o + c + ai * bj) / 10, by omega, by omega, by omega, by omega, rfl, rfl, by omega, out.set (i + j) ((o + c + ai * bj) % 10), ⟨(hm.ib.drewN nq).set_ _ _, by simpa using hlen, Dg_set hm.dg _ (by omega), (pw_below_drewN hm.bl nq).setCell (Nat.le_refl _) _⟩, Zr_set (Zr_mono hz (by omega)) (by omega), by omega, by omega, ?_⟩
            rw [Nat.min_eq_left (by omega)] at hV ⊢
            rw [← hai] at hV ⊢
            exact mul_inner hjl (by omega) (by rw [ho, hai, hbj]) hV
        · obtain ⟨hj1, out, hm, hz, _, _, hV⟩ := HI.out
          rw [Nat.min_eq_right (by omega)] at hV
          by_cases hc : c = 0
          · subst hc
            have HH := Lib.hid (And.intro hm (And.intro hz hV))
            clear hm hz hV hj1 HI
            go_wp2_with fail
            go_roundg (gi - 1)
            case measure => omega
            case rel =>
              obtain ⟨hm, hz, hV⟩ := HH.out
              refine ⟨i + 1, by omega, by omega, rfl, out, rfl, hm, Zr_mono hz (by omega), ?_⟩
              rw [List.take_length] at hV
              rw [← mul_outer hi, ← hV]
              omega
          · have hjd : j = db.length := by
              apply Classical.byContradiction
              intro h
              exact hc (hj1 (by omega))
            subst hjd
            have hlen := hm.len
            have hcell := hm.ib.cell (i + db.length) (by omega)
            have hfr := hm.ib.frozen (i + db.length)
            have hz0 := hz (i + db.length) (by omega) (by omega)
            rw [hz0] at hcell
            have HH := Lib.hid (And.intro hm (And.intro hz hV))
            have HL := Lib.hid hlen
            clear hm hz hV hlen hj1 HI hz0
            have hcp : 0 < c := by omega
            go_wp2_with fail
            obtain ⟨hm, hz, hV⟩ := HH.out
            have hlen := HL.out
            go_roundg (gk - 1)
            case measure => omega
            case rel =>
              have e1 : c % 10 = c := by omega
              have e2 : c / 10 = 0 := by omega
              refine ⟨db.length + 1, c / 10, by omega, by omega, by omega, by omega, by simp, rfl, by omega, out.set (i + db.length) (c % 10), ⟨?_, by simpa using hlen, Dg_set hm.dg _ (by omega), hm.bl.setCell (Nat.le_refl _) _⟩, Zr_set (Zr_mono hz (by omega)) (by omega), by omega, by omega, ?_⟩
              · simpa using hm.ib.set_ (i + db.length) (c % 10)
              · rw [Nat.min_eq_right (by omega), e1, e2, mul_carry (by omega) (Zr_mono hz (by omega)) (by rw [List.take_length] at hV; exact hV), List.take_length]
                omega
    · obtain rfl : i = da.length := by omega
      go_wp2_with fail
      refine (r_sign x _).mono ?_
      rintro e w3 ⟨rfl, hb3⟩
      have HB3 := Lib.hid hb3
      clear hb3
      go_wp2_with fail
      refine (r_sign y _).mono ?_
      rintro e w4 ⟨rfl, hb4⟩
      have HB4 := Lib.hid (bth HB3.out hb4)
      clear hb4 HB3
      go_wp2_with fail
      obtain ⟨out, _, hm, _, hV⟩ := HM.out
      have hlen := hm.len
      have hl1 : out.length ≤ 1000000 := by omega
      have hib := hm.ib.below HB4.out hm.ib.lt
      have hR := hib.R (base := w2.heap.size) (Nat.le_refl _) (by omega)
      rw [hlen] at hR
      rw [List.take_length, ← HDA.out, ← HDB.out, Vab, Vab] at hV
      have hz := mul_sign x y _ hV
      have HT := Lib.hid (r_text (decide (wrap64 (cmp x 0 * cmp y 0) < 0)) _ out w2 w4 (bth hm.bl HB4.out) hR hm.dg hl1 (x * y) hz)
      clear hm hV hlen hl1 hib hR hz
      refine HT.out.mono ?_
      rintro e w5 ⟨rfl, hb5⟩
      have HB5 := Lib.hid (bth HB2.out hb5)
      clear hb5
      go_wp2_with fail
      go_ret
      exact ⟨rfl, HB5.out⟩
end Go.Proofs.YtapckjeedekphaaGreatDoor

namespace Go.Proofs.YtapckjeedekphaaGreatDoor
open Go.RowKit Go.Proofs.YtapckjeedekphaaGreatDoorW.PrintWords PR
end Go.Proofs.YtapckjeedekphaaGreatDoor

namespace Go.Proofs.YtapckjeedekphaaGreatDoor
open Go.RowKit Go.Proofs.YtapckjeedekphaaGreatDoorW.PrintWords PR
theorem mul_eq (q r : Rat) : Rat.divInt (q.num * r.num) (q.den * r.den) = q * r := by
  rw [Rat.mul_def', ← Rat.divInt_ofNat]
  simp
theorem div_eq (q r : Rat) : Rat.divInt (q.num * r.den) (q.den * r.num) = q / r := by
  rw [Rat.div_def, Rat.inv_def, ← Rat.divInt_mul_divInt, Rat.num_divInt_den]
theorem TQ_mono {m n : Nat} {q : Rat} (h : TQ m q) (hmn : m ≤ n) : TQ n q := ⟨Td_mono h.1 hmn, Td_mono h.2 hmn⟩
theorem TQ_mul {m n : Nat} {q r : Rat} (hq : TQ m q) (hr : TQ n r) : TQ (m + n) (q * r) := by
  rw [← mul_eq]
  exact TQ_divInt (Td_mul hq.1 hr.1) (Td_mul hq.2 hr.2) (Int.mul_ne_zero (den_ne q) (den_ne r))
theorem num_ne {q : Rat} (h : q ≠ 0) : q.num ≠ 0 := fun e => h (Rat.num_eq_zero.1 e)
theorem TQ_div {m n : Nat} {q r : Rat} (hq : TQ m q) (hr : TQ n r) (h0 : r ≠ 0) : TQ (m + n) (q / r) := by
  rw [← div_eq]
  exact TQ_divInt (Td_mul hq.1 hr.2) (Td_mul hq.2 hr.1) (Int.mul_ne_zero (den_ne q) (num_ne h0))
set_option maxHeartbeats 400000 in
theorem r_qmul (q r : Rat) (w : World) {n : Nat} (hq : TQ n q) (hr : TQ n r) (hn : n ≤ 20000) : Calls Tryz.prog 71 #[.string (S (qtx q)), .string (S (qtx r))] w fun e w' => e = .returned (.string (S (qtx (q * r)))) ∧ Below w.heap.size w w' := by
  have HQ := Lib.hid hq
  have LQ := Lib.hid (qtx_len hq)
  have HR := Lib.hid hr
  have LR := Lib.hid (qtx_len hr)
  clear hq hr
  have HB := Lib.hid (Below.refl w.heap.size w)
  go_enter Tryz.func71, Tryz.ntmps71
  go_wp2_with fail
  refine (r_partsq q _ (by have := LQ.out; omega)).mono ?_
  rintro e w1 ⟨rfl, hb⟩
  replace HB := Lib.hid (bth HB.out hb)
  clear hb
  go_wp2_with fail
  refine (r_partsq r _ (by have := LR.out; omega)).mono ?_
  rintro e w2 ⟨rfl, hb⟩
  replace HB := Lib.hid (bth HB.out hb)
  clear hb
  go_wp2_with fail
  refine (r_mul q.num r.num _ (n := n) HQ.out.1 HR.out.1 (by omega)).mono ?_
  rintro e w3 ⟨rfl, hb⟩
  replace HB := Lib.hid (bth HB.out hb)
  clear hb
  go_wp2_with fail
  refine (r_mul q.den r.den _ (n := n) HQ.out.2 HR.out.2 (by omega)).mono ?_
  rintro e w4 ⟨rfl, hb⟩
  replace HB := Lib.hid (bth HB.out hb)
  clear hb
  go_wp2_with fail
  refine (r_qtext (q.num * r.num) (q.den * r.den) _ (Int.mul_ne_zero (den_ne q) (den_ne r)) (m := n + n) (Td_mul HQ.out.1 HR.out.1) (Td_mul HQ.out.2 HR.out.2) (by omega)).mono ?_
  rintro e w7 ⟨rfl, hb⟩
  replace HB := Lib.hid (bth HB.out hb)
  clear hb
  go_wp2_with fail
  go_ret
  exact ⟨by rw [← mul_eq]; rfl, (by repeat (first | exact HB.out | apply below_alloc | apply pw_below_drewN | apply below_drew))⟩
set_option maxHeartbeats 400000 in
theorem r_qdiv (q r : Rat) (w : World) (h0 : r ≠ 0) {n : Nat} (hq : TQ n q) (hr : TQ n r) (hn : n ≤ 20000) : Calls Tryz.prog 68 #[.string (S (qtx q)), .string (S (qtx r))] w fun e w' => e = .returned (.string (S (qtx (q / r)))) ∧ Below w.heap.size w w' := by
  have HQ := Lib.hid hq
  have LQ := Lib.hid (qtx_len hq)
  have HR := Lib.hid hr
  have LR := Lib.hid (qtx_len hr)
  clear hq hr
  have H0 := Lib.hid (num_ne h0)
  clear h0
  have HB := Lib.hid (Below.refl w.heap.size w)
  go_enter Tryz.func68, Tryz.ntmps68
  go_wp2_with fail
  refine (r_partsq q _ (by have := LQ.out; omega)).mono ?_
  rintro e w1 ⟨rfl, hb⟩
  replace HB := Lib.hid (bth HB.out hb)
  clear hb
  go_wp2_with fail
  refine (r_partsq r _ (by have := LR.out; omega)).mono ?_
  rintro e w2 ⟨rfl, hb⟩
  replace HB := Lib.hid (bth HB.out hb)
  clear hb
  go_wp2_with fail
  refine (r_mul q.num r.den _ (n := n) HQ.out.1 HR.out.2 (by omega)).mono ?_
  rintro e w3 ⟨rfl, hb⟩
  replace HB := Lib.hid (bth HB.out hb)
  clear hb
  go_wp2_with fail
  refine (r_mul q.den r.num _ (n := n) HQ.out.2 HR.out.1 (by omega)).mono ?_
  rintro e w4 ⟨rfl, hb⟩
  replace HB := Lib.hid (bth HB.out hb)
  clear hb
  go_wp2_with fail
  refine (r_qtext (q.num * r.den) (q.den * r.num) _ (Int.mul_ne_zero (den_ne q) H0.out) (m := n + n) (Td_mul HQ.out.1 HR.out.2) (Td_mul HQ.out.2 HR.out.1) (by omega)).mono ?_
  rintro e w7 ⟨rfl, hb⟩
  replace HB := Lib.hid (bth HB.out hb)
  clear hb
  go_wp2_with fail
  go_ret
  exact ⟨by rw [← div_eq]; rfl, (by repeat (first | exact HB.out | apply below_alloc | apply pw_below_drewN | apply below_drew))⟩
end Go.Proofs.YtapckjeedekphaaGreatDoor

namespace Go.Proofs.YtapckjeedekphaaGreatDoor
open Go.RowKit Go.Proofs.YtapckjeedekphaaGreatDoorW.PrintWords PR
theorem r_digs (l : List UInt8) (w : World) (hl : l.length ≤ 1000000) : Calls Tryz.prog 138 #[.string (S l)] w fun e w' => e = .returned (.bool (digs l)) ∧ Below w.heap.size w w' :=
  (dowelref02_digits.calls _ _ _ w (digits_eq l hl (l.length + 1) (by omega))).mono fun _ _ ⟨h1, h2⟩ => ⟨h1, h2.below⟩
/-- All digits are 0. -/
def zers (l : List UInt8) : Bool := l.all (· == 48)
theorem r_zeros (l : List UInt8) (w : World) (hl : l.length ≤ 1000000) : Calls Tryz.prog 139 #[.string (S l)] w fun e w' => e = .returned (.bool (zers l)) ∧ Below w.heap.size w w' :=
  (dowelref02_zeros.calls _ _ _ w (zeros_eq l hl (l.length + 1) (by omega))).mono fun _ _ ⟨h1, h2⟩ => ⟨h1, h2.below⟩
theorem r_slash (l : List UInt8) (w : World) (hl : l.length ≤ 1000000) : Calls Tryz.prog 130 #[.string (S l)] w fun e w' => e = .returned (.int .i64 ((pre l).length : Int)) ∧ Below w.heap.size w w' :=
  (dowelref02_slash.calls _ _ _ w (slash_eq l hl (l.length + 1) (by omega))).mono fun _ _ ⟨h1, h2⟩ => ⟨h1, h2.below⟩
theorem S_cons_extract (b : UInt8) (r : List UInt8) : (S (b :: r)).extract 1 (r.length + 1) = S r := S_extract (b :: r) 1 (r.length + 1) rfl
/-- The steps of the test of a text as a rational. -/
theorem chkQ_steps (l : List UInt8) (most : Int) :
    (most < (l.length : Int) → chkQ l most = 5) ∧
    (¬ most < (l.length : Int) → digs (plain (pre l)) = false → chkQ l most = 14) ∧
    (¬ most < (l.length : Int) → digs (dpart l) = false → chkQ l most = 14) ∧
    (¬ most < (l.length : Int) → digs (plain (pre l)) = true → digs (dpart l) = true → zers (dpart l) = true → chkQ l most = 19) ∧
    (¬ most < (l.length : Int) → digs (plain (pre l)) = true → digs (dpart l) = true → zers (dpart l) = false → ((lead (plain (pre l)) && decide (1 < (pre l).length)) || lead (dpart l)) = true → chkQ l most = 3) ∧
    (¬ most < (l.length : Int) → digs (plain (pre l)) = true → digs (dpart l) = true → zers (dpart l) = false → ((lead (plain (pre l)) && decide (1 < (pre l).length)) || lead (dpart l)) = false →
      chkQ l most = if (hasSl l && (decide (dpart l = [49]) || decide (Int.gcd (vI (pre l)) (vI (dpart l)) ≠ 1))) = true then 3 else 0) := by
  unfold chkQ
  unfold zers
  refine ⟨fun h => by rw [if_pos h], fun h h1 => by rw [if_neg h, h1, Bool.false_and, if_pos rfl], fun h h1 => by rw [if_neg h, h1, Bool.and_false, if_pos rfl],
    fun h h1 h2 h3 => by rw [if_neg h, h1, h2, if_neg (by decide), if_pos h3], fun h h1 h2 h3 h4 => by rw [if_neg h, h1, h2, h3, if_neg (by decide), if_neg (by decide), if_pos h4], fun h h1 h2 h3 h4 => by rw [if_neg h, h1, h2, h3, h4, if_neg (by decide), if_neg (by decide), if_neg (by decide)]⟩
theorem digs_cons {l : List UInt8} (h : digs l = true) : ∃ b r, l = b :: r := by
  cases l with
  | nil => exact absurd h (by decide)
  | cons b r => exact ⟨b, r, rfl⟩
theorem r_gcdT (p q : List UInt8) (hp : itx (vI p) = p) (hq : itx (vI q) = q) (lp : p.length ≤ 100000) (lq : q.length ≤ 100000) (w : World) : Calls Tryz.prog 128 #[.string (S p), .string (S q)] w fun e w' => e = .returned (.string (S (itx (Int.gcd (vI p) (vI q))))) ∧ Below w.heap.size w w' := by
  have h := r_gcd (vI p) (vI q) w (n := max p.length q.length) (Td_mono (Td_itx _) (by rw [hp]; omega)) (Td_mono (Td_itx _) (by rw [hq]; omega)) (by omega)
  rw [hp, hq] at h
  exact h
theorem plain_not {p : List UInt8} (h : ¬ ∃ r, p = 45 :: r) : plain p = p := by
  unfold plain
  rw [if_neg]
  intro h1
  cases p with
  | nil => cases h1
  | cons b r => exact h ⟨r, by simp at h1; rw [h1]⟩
theorem parts_ok {p pl dn : List UInt8} (h0 : plain p = pl) (h1 : digs pl = true) (h2 : ((lead pl && decide (1 < p.length)) || lead dn) = false) : itx (vI p) = p ∧ True := by
  subst h0
  rw [Bool.or_eq_false_iff] at h2
  exact ⟨itx_vI h1 h2.1, trivial⟩
theorem parts_ok2 {x : Bool} {dn : List UInt8} (h1 : digs dn = true) (h2 : (x || lead dn) = false) : itx (vI dn) = dn := by
  rw [Bool.or_eq_false_iff] at h2
  have h := digs_plain_nonneg h1
  exact itx_vI (by rw [h]; exact h1) (by rw [h, h2.2]; rfl)
theorem neg_zero_lead {c : UInt8} {r1 dn : List UInt8} (h : 45 :: c :: r1 = [45, 48]) (_ : ¬ (0 < r1.length ∧ c = 48)) : ((lead (c :: r1) && decide (1 < (45 :: c :: r1).length)) || lead dn) = true := by
  have : c = 48 := by simp at h; exact h.1
  rw [lead_cons, this]
  simp
theorem neg_lead {c d : UInt8} {r1 r2 : List UInt8} (h1 : ¬ (0 < r1.length ∧ c = 48)) (h2 : 45 :: c :: r1 ≠ [45, 48]) (h3 : ¬ d = 48) : ((lead (c :: r1) && decide (1 < (45 :: c :: r1).length)) || lead (d :: r2)) = false := by
  have h4 : c ≠ 48 := by
    intro e
    by_cases h : 0 < r1.length
    · exact h1 ⟨h, e⟩
    · have : r1 = [] := List.eq_nil_of_length_eq_zero (by omega)
      exact h2 (by rw [e, this])
  rw [lead_cons, lead_cons]
  simp [h3, h4]
theorem pos_lead {c d : UInt8} {r1 r2 : List UInt8} (h1 : ¬ (0 < r1.length ∧ c = 48)) (_ : c :: r1 ≠ [45, 48]) (h3 : ¬ d = 48) : ((lead (c :: r1) && decide (1 < (c :: r1).length)) || lead (d :: r2)) = false := by
  rw [lead_cons, lead_cons]
  by_cases h4 : c = 48
  · have : r1 = [] := List.eq_nil_of_length_eq_zero (by
      by_cases h : 0 < r1.length
      · exact absurd ⟨h, h4⟩ h1
      · omega)
    simp [h3, this]
  · simp [h3, h4]
set_option maxHeartbeats 800000 in
theorem r_check (l : List UInt8) (most : Int) (w : World) (hl : l.length ≤ 100000) : Calls Tryz.prog 36 #[.string (S l), .int .i64 most] w fun e w' => e = .returned (.int .i64 (chkQ l most)) ∧ Below w.heap.size w w' := by
  have HS := Lib.hid (chkQ_steps l most)
  have HZ := Lib.hid (S_size l)
  by_cases hm : most < (l.length : Int)
  · have hm' : most < ((S l).size : Int) := by rw [HZ.out]; exact hm
    have HM := Lib.hid hm
    clear hm
    have HB := Lib.hid (Below.refl w.heap.size w)
    go_enter Tryz.func36, Tryz.ntmps36
    go_wp2_with fail
    go_ret
    exact ⟨by rw [HS.out.1 HM.out]; rfl, HB.out⟩
  · have hm' : ¬ most < ((S l).size : Int) := by rw [HZ.out]; exact hm
    have HM := Lib.hid hm
    clear hm
    have lp := pre_len l
    have ld : (dpart l).length ≤ 100000 := by unfold dpart post; split <;> simp <;> omega
    have HB := Lib.hid (Below.refl w.heap.size w)
    go_enter Tryz.func36, Tryz.ntmps36
    go_wp2_with fail
    refine (r_parts l _ (by omega)).mono ?_
    rintro e w1 ⟨rfl, hb⟩
    replace HB := Lib.hid (bth HB.out hb)
    clear hb
    have HP0 := Lib.hid (Eq.refl (pre l))
    generalize hp : pre l = p at HS lp HP0 ⊢
    generalize hpl : plain p = pl at HS
    generalize hdn : dpart l = dn at *
    have HP := Lib.hid hp
    have HDN := Lib.hid hdn
    clear hp hdn HP0
    by_cases hneg : ∃ r, p = 45 :: r
    · obtain ⟨r0, rfl⟩ := hneg
      have e0 : pl = r0 := hpl.symm
      subst e0
      clear hpl
      have lp' : pl.length ≤ 100000 := by simp at lp; omega
      have h1 := S_cons_size 45 pl
      have h2 := S_idx 45 pl
      have h3 := S_cons_extract 45 pl
      go_wp2_with fail
      refine (r_digs pl _ (by omega)).mono ?_
      rintro e w2 ⟨rfl, hb⟩
      replace HB := Lib.hid (bth HB.out hb)
      clear hb
      by_cases d1 : digs pl = false
      · go_wp2_with fail
        go_ret
        exact ⟨by rw [HS.out.2.1 HM.out d1]; rfl, HB.out⟩
      replace d1 : digs pl = true := by simpa using d1
      go_wp2_with fail
      refine (r_digs dn _ (by omega)).mono ?_
      rintro e w3 ⟨rfl, hb⟩
      replace HB := Lib.hid (bth HB.out hb)
      clear hb
      by_cases d2 : digs dn = false
      · go_wp2_with fail
        go_ret
        exact ⟨by rw [HS.out.2.2.1 HM.out d2]; rfl, HB.out⟩
      replace d2 : digs dn = true := by simpa using d2
      go_wp2_with fail
      refine (r_zeros dn _ (by omega)).mono ?_
      rintro e w4 ⟨rfl, hb⟩
      replace HB := Lib.hid (bth HB.out hb)
      clear hb
      by_cases d3 : zers dn = true
      · go_wp2_with fail
        go_ret
        exact ⟨by rw [HS.out.2.2.2.1 HM.out d1 d2 d3]; rfl, HB.out⟩
      replace d3 : zers dn = false := by simpa using d3
      have H4 := Lib.hid (HS.out.2.2.2.2.1 HM.out d1 d2 d3)
      have H5 := Lib.hid (HS.out.2.2.2.2.2 HM.out d1 d2 d3)
      obtain ⟨c, r1, rfl⟩ := digs_cons d1
      obtain ⟨d, r2, rfl⟩ := digs_cons d2
      have HT := Lib.hid (And.intro d1 (And.intro d2 d3))
      clear HS d1 d2
      have q1 := S_cons_size c r1
      have q2 := S_idx c r1
      have q3 := S_cons_size d r2
      have q4 := S_idx d r2
      have HC := Lib.hid (byte_test c 48 48 rfl)
      have HD := Lib.hid (byte_test d 48 48 rfl)
      have HPT := Lib.hid (S_toList (45 :: c :: r1))
      by_cases c1 : 0 < r1.length ∧ c = 48
      · have c2 : ((c.toNat : Int) == 48) = true := by rw [HC.out, c1.2]; rfl
        have c3 : 0 < r1.length := c1.1
        have C1 := Lib.hid c1
        clear c1
        go_wp2_with fail
        go_ret
        exact ⟨by rw [H4.out (by rw [lead_cons, C1.out.2]; have h := C1.out.1; first | (simp; done) | (simp; exact .inl h))]; rfl, HB.out⟩
      have C1 := Lib.hid c1
      clear c1
      by_cases c2 : 45 :: c :: r1 = [45, 48]
      · have c3 : ((S (45 :: c :: r1)).toList == [45, 48]) = true := by rw [HPT.out, c2]; rfl
        have C2 := Lib.hid c2
        clear c2
        by_cases c4 : 0 < r1.length
        · have c5 : ((c.toNat : Int) == 48) = false := by rw [HC.out]; exact beq_eq_false_iff_ne.2 (fun e => C1.out ⟨c4, e⟩)
          go_wp2_with fail
          go_ret
          exact ⟨by rw [H4.out (neg_zero_lead C2.out C1.out)]; rfl, HB.out⟩
        · go_wp2_with fail
          go_ret
          exact ⟨by rw [H4.out (neg_zero_lead C2.out C1.out)]; rfl, HB.out⟩
      have c3 : ((S (45 :: c :: r1)).toList == [45, 48]) = false := by rw [HPT.out]; exact beq_eq_false_iff_ne.2 c2
      have C2 := Lib.hid c2
      clear c2
      have c5 : 0 < r1.length → ((c.toNat : Int) == 48) = false := fun h => by rw [HC.out]; exact beq_eq_false_iff_ne.2 (fun e => C1.out ⟨h, e⟩)
      by_cases c6 : d = 48
      · have c7 : ((d.toNat : Int) == 48) = true := by rw [HD.out, c6]; rfl
        have C6 := Lib.hid c6
        clear c6
        by_cases c4 : 0 < r1.length
        · have c5 := c5 c4
          go_wp2_with fail
          go_ret
          exact ⟨by rw [H4.out (by rw [lead_cons d, C6.out]; simp)]; rfl, HB.out⟩
        · clear c5
          go_wp2_with fail
          go_ret
          exact ⟨by rw [H4.out (by rw [lead_cons d, C6.out]; simp)]; rfl, HB.out⟩
      have c7 : ((d.toNat : Int) == 48) = false := by rw [HD.out]; exact beq_eq_false_iff_ne.2 c6
      have HL := Lib.hid (neg_lead (r2 := r2) C1.out C2.out c6)
      have H6 := Lib.hid (H5.out HL.out)
      have HQ := Lib.hid (r_gcdT (45 :: c :: r1) (d :: r2) (parts_ok (pl := c :: r1) rfl HT.out.1 HL.out).1 (parts_ok2 HT.out.2.1 HL.out) (by omega) (by omega))
      clear c6 H4 H5
      by_cases c4 : 0 < r1.length
      · have c5 := c5 c4
        go_wp2_with fail
        refine (r_slash l _ (by omega)).mono ?_
        rintro e w5 ⟨rfl, hb⟩
        replace HB := Lib.hid (bth HB.out hb)
        clear hb
        by_cases hs : hasSl l = true
        · have hs1 : ((pre l).length : Int) < ((S l).size : Int) := by rw [HZ.out]; unfold hasSl at hs; have := of_decide_eq_true hs; omega
          have HS1 := Lib.hid hs
          clear hs
          have HDT := Lib.hid (S_toList (d :: r2))
          by_cases e1 : d :: r2 = [49]
          · have e2 : ((S (d :: r2)).toList == [49]) = true := by rw [HDT.out, e1]; rfl
            have E1 := Lib.hid e1
            clear e1
            go_wp2_with fail
            go_ret
            exact ⟨by rw [H6.out, HS1.out, if_pos (by rw [decide_eq_true E1.out]; rfl)]; rfl, HB.out⟩
          · have e2 : ((S (d :: r2)).toList == [49]) = false := by rw [HDT.out]; exact beq_eq_false_iff_ne.2 e1
            have E1 := Lib.hid e1
            clear e1
            go_wp2_with fail
            refine (HQ.out _).mono ?_
            rintro e w6 ⟨rfl, hb⟩
            replace HB := Lib.hid (bth HB.out hb)
            clear hb
            generalize hg : Int.gcd (vI (45 :: c :: r1)) (vI (d :: r2)) = g at *
            clear hg
            have HGT := Lib.hid (S_toList (itx (g : Int)))
            by_cases e3 : g = 1
            · have e4 : ((S (itx (g : Int))).toList == [49]) = true := by rw [HGT.out, itx_eq_one, e3]; rfl
              have E3 := Lib.hid e3
              clear e3
              go_wp2_with fail
              go_ret
              exact ⟨by rw [H6.out, if_neg (by rw [decide_eq_false E1.out, E3.out]; simp)]; rfl, HB.out⟩
            · have e4 : ((S (itx (g : Int))).toList == [49]) = false := by rw [HGT.out, itx_eq_one]; exact beq_eq_false_iff_ne.2 (by omega)
              have E3 := Lib.hid e3
              clear e3
              go_wp2_with fail
              go_ret
              exact ⟨by rw [H6.out, HS1.out, if_pos (by rw [decide_eq_true E3.out]; simp)]; rfl, HB.out⟩
        · have hs1 : ¬ ((pre l).length : Int) < ((S l).size : Int) := by rw [HZ.out]; intro h; exact hs (by unfold hasSl; exact decide_eq_true (by omega))
          have HS1 := Lib.hid hs
          clear hs
          go_wp2_with fail
          go_ret
          exact ⟨by rw [H6.out, if_neg (by intro h; exact HS1.out ((Bool.and_eq_true _ _).mp h).1)]; rfl, HB.out⟩
      · clear c5
        go_wp2_with fail
        refine (r_slash l _ (by omega)).mono ?_
        rintro e w5 ⟨rfl, hb⟩
        replace HB := Lib.hid (bth HB.out hb)
        clear hb
        by_cases hs : hasSl l = true
        · have hs1 : ((pre l).length : Int) < ((S l).size : Int) := by rw [HZ.out]; unfold hasSl at hs; have := of_decide_eq_true hs; omega
          have HS1 := Lib.hid hs
          clear hs
          have HDT := Lib.hid (S_toList (d :: r2))
          by_cases e1 : d :: r2 = [49]
          · have e2 : ((S (d :: r2)).toList == [49]) = true := by rw [HDT.out, e1]; rfl
            have E1 := Lib.hid e1
            clear e1
            go_wp2_with fail
            go_ret
            exact ⟨by rw [H6.out, HS1.out, if_pos (by rw [decide_eq_true E1.out]; rfl)]; rfl, HB.out⟩
          · have e2 : ((S (d :: r2)).toList == [49]) = false := by rw [HDT.out]; exact beq_eq_false_iff_ne.2 e1
            have E1 := Lib.hid e1
            clear e1
            go_wp2_with fail
            refine (HQ.out _).mono ?_
            rintro e w6 ⟨rfl, hb⟩
            replace HB := Lib.hid (bth HB.out hb)
            clear hb
            generalize hg : Int.gcd (vI (45 :: c :: r1)) (vI (d :: r2)) = g at *
            clear hg
            have HGT := Lib.hid (S_toList (itx (g : Int)))
            by_cases e3 : g = 1
            · have e4 : ((S (itx (g : Int))).toList == [49]) = true := by rw [HGT.out, itx_eq_one, e3]; rfl
              have E3 := Lib.hid e3
              clear e3
              go_wp2_with fail
              go_ret
              exact ⟨by rw [H6.out, if_neg (by rw [decide_eq_false E1.out, E3.out]; simp)]; rfl, HB.out⟩
            · have e4 : ((S (itx (g : Int))).toList == [49]) = false := by rw [HGT.out, itx_eq_one]; exact beq_eq_false_iff_ne.2 (by omega)
              have E3 := Lib.hid e3
              clear e3
              go_wp2_with fail
              go_ret
              exact ⟨by rw [H6.out, HS1.out, if_pos (by rw [decide_eq_true E3.out]; simp)]; rfl, HB.out⟩
        · have hs1 : ¬ ((pre l).length : Int) < ((S l).size : Int) := by rw [HZ.out]; intro h; exact hs (by unfold hasSl; exact decide_eq_true (by omega))
          have HS1 := Lib.hid hs
          clear hs
          go_wp2_with fail
          go_ret
          exact ⟨by rw [H6.out, if_neg (by intro h; exact HS1.out ((Bool.and_eq_true _ _).mp h).1)]; rfl, HB.out⟩
    · have e0 : p = pl := by rw [← hpl]; exact (plain_not hneg).symm
      subst e0
      clear hpl
      have lp' : p.length ≤ 100000 := by omega
      have NN := Lib.hid hneg
      clear hneg
      cases p with
      | nil =>
        have h1 : ((S []).size : Int) = 0 := rfl
        go_wp2_with fail
        refine (r_digs [] _ (by simp)).mono ?_
        rintro e w2 ⟨rfl, hb⟩
        replace HB := Lib.hid (bth HB.out hb)
        clear hb
        have h0 : digs [] = false := rfl
        go_wp2_with fail
        go_ret
        exact ⟨by rw [HS.out.2.1 HM.out rfl]; rfl, HB.out⟩
      | cons c r1 =>
        have h1 := S_cons_size c r1
        have h2 := S_idx c r1
        have h3 : ((c.toNat : Int) == 45) = false := by rw [byte_test c 45 45 rfl]; exact beq_eq_false_iff_ne.2 (fun e => NN.out ⟨r1, by rw [e]⟩)
        go_wp2_with fail
        refine (r_digs (c :: r1) _ (by omega)).mono ?_
        rintro e w2 ⟨rfl, hb⟩
        replace HB := Lib.hid (bth HB.out hb)
        clear hb
        by_cases d1 : digs (c :: r1) = false
        · go_wp2_with fail
          go_ret
          exact ⟨by rw [HS.out.2.1 HM.out d1]; rfl, HB.out⟩
        replace d1 : digs (c :: r1) = true := by simpa using d1
        go_wp2_with fail
        refine (r_digs dn _ (by omega)).mono ?_
        rintro e w3 ⟨rfl, hb⟩
        replace HB := Lib.hid (bth HB.out hb)
        clear hb
        by_cases d2 : digs dn = false
        · go_wp2_with fail
          go_ret
          exact ⟨by rw [HS.out.2.2.1 HM.out d2]; rfl, HB.out⟩
        replace d2 : digs dn = true := by simpa using d2
        go_wp2_with fail
        refine (r_zeros dn _ (by omega)).mono ?_
        rintro e w4 ⟨rfl, hb⟩
        replace HB := Lib.hid (bth HB.out hb)
        clear hb
        by_cases d3 : zers dn = true
        · go_wp2_with fail
          go_ret
          exact ⟨by rw [HS.out.2.2.2.1 HM.out d1 d2 d3]; rfl, HB.out⟩
        replace d3 : zers dn = false := by simpa using d3
        have H4 := Lib.hid (HS.out.2.2.2.2.1 HM.out d1 d2 d3)
        have H5 := Lib.hid (HS.out.2.2.2.2.2 HM.out d1 d2 d3)
        obtain ⟨d, r2, rfl⟩ := digs_cons d2
        have HT := Lib.hid (And.intro d1 (And.intro d2 d3))
        clear HS d1 d2
        have q3 := S_cons_size d r2
        have q4 := S_idx d r2
        have HC := Lib.hid (byte_test c 48 48 rfl)
        have HD := Lib.hid (byte_test d 48 48 rfl)
        have HPT := Lib.hid (S_toList (c :: r1))
        by_cases c1 : 0 < r1.length ∧ c = 48
        · have c2 : ((c.toNat : Int) == 48) = true := by rw [HC.out, c1.2]; rfl
          have c3 : 0 < r1.length := c1.1
          have C1 := Lib.hid c1
          clear c1
          go_wp2_with fail
          go_ret
          exact ⟨by rw [H4.out (by rw [lead_cons, C1.out.2]; have h := C1.out.1; first | (simp; done) | (simp; exact .inl h))]; rfl, HB.out⟩
        have C1 := Lib.hid c1
        clear c1
        by_cases c2 : c :: r1 = [45, 48]
        · have c3 : ((S (c :: r1)).toList == [45, 48]) = true := by rw [HPT.out, c2]; rfl
          have C2 := Lib.hid c2
          clear c2
          by_cases c4 : 0 < r1.length
          · have c5 : ((c.toNat : Int) == 48) = false := by rw [HC.out]; exact beq_eq_false_iff_ne.2 (fun e => C1.out ⟨c4, e⟩)
            go_wp2_with fail
            go_ret
            exact ⟨by rw [H4.out (by exfalso; have := C2.out; have := NN.out; simp_all)]; rfl, HB.out⟩
          · go_wp2_with fail
            go_ret
            exact ⟨by rw [H4.out (by exfalso; have := C2.out; have := NN.out; simp_all)]; rfl, HB.out⟩
        have c3 : ((S (c :: r1)).toList == [45, 48]) = false := by rw [HPT.out]; exact beq_eq_false_iff_ne.2 c2
        have C2 := Lib.hid c2
        clear c2
        have c5 : 0 < r1.length → ((c.toNat : Int) == 48) = false := fun h => by rw [HC.out]; exact beq_eq_false_iff_ne.2 (fun e => C1.out ⟨h, e⟩)
        by_cases c6 : d = 48
        · have c7 : ((d.toNat : Int) == 48) = true := by rw [HD.out, c6]; rfl
          have C6 := Lib.hid c6
          clear c6
          by_cases c4 : 0 < r1.length
          · have c5 := c5 c4
            go_wp2_with fail
            go_ret
            exact ⟨by rw [H4.out (by rw [lead_cons d, C6.out]; simp)]; rfl, HB.out⟩
          · clear c5
            go_wp2_with fail
            go_ret
            exact ⟨by rw [H4.out (by rw [lead_cons d, C6.out]; simp)]; rfl, HB.out⟩
        have c7 : ((d.toNat : Int) == 48) = false := by rw [HD.out]; exact beq_eq_false_iff_ne.2 c6
        have HL := Lib.hid (pos_lead (r2 := r2) C1.out C2.out c6)
        have H6 := Lib.hid (H5.out HL.out)
        have HQ := Lib.hid (r_gcdT (c :: r1) (d :: r2) (parts_ok (pl := c :: r1) (plain_not NN.out) HT.out.1 HL.out).1 (parts_ok2 HT.out.2.1 HL.out) (by omega) (by omega))
        clear c6 H4 H5
        by_cases c4 : 0 < r1.length
        · have c5 := c5 c4
          go_wp2_with fail
          refine (r_slash l _ (by omega)).mono ?_
          rintro e w5 ⟨rfl, hb⟩
          replace HB := Lib.hid (bth HB.out hb)
          clear hb
          by_cases hs : hasSl l = true
          · have hs1 : ((pre l).length : Int) < ((S l).size : Int) := by rw [HZ.out]; unfold hasSl at hs; have := of_decide_eq_true hs; omega
            have HS1 := Lib.hid hs
            clear hs
            have HDT := Lib.hid (S_toList (d :: r2))
            by_cases e1 : d :: r2 = [49]
            · have e2 : ((S (d :: r2)).toList == [49]) = true := by rw [HDT.out, e1]; rfl
              have E1 := Lib.hid e1
              clear e1
              go_wp2_with fail
              go_ret
              exact ⟨by rw [H6.out, HS1.out, if_pos (by rw [decide_eq_true E1.out]; rfl)]; rfl, HB.out⟩
            · have e2 : ((S (d :: r2)).toList == [49]) = false := by rw [HDT.out]; exact beq_eq_false_iff_ne.2 e1
              have E1 := Lib.hid e1
              clear e1
              go_wp2_with fail
              refine (HQ.out _).mono ?_
              rintro e w6 ⟨rfl, hb⟩
              replace HB := Lib.hid (bth HB.out hb)
              clear hb
              generalize hg : Int.gcd (vI (c :: r1)) (vI (d :: r2)) = g at *
              clear hg
              have HGT := Lib.hid (S_toList (itx (g : Int)))
              by_cases e3 : g = 1
              · have e4 : ((S (itx (g : Int))).toList == [49]) = true := by rw [HGT.out, itx_eq_one, e3]; rfl
                have E3 := Lib.hid e3
                clear e3
                go_wp2_with fail
                go_ret
                exact ⟨by rw [H6.out, if_neg (by rw [decide_eq_false E1.out, E3.out]; simp)]; rfl, HB.out⟩
              · have e4 : ((S (itx (g : Int))).toList == [49]) = false := by rw [HGT.out, itx_eq_one]; exact beq_eq_false_iff_ne.2 (by omega)
                have E3 := Lib.hid e3
                clear e3
                go_wp2_with fail
                go_ret
                exact ⟨by rw [H6.out, HS1.out, if_pos (by rw [decide_eq_true E3.out]; simp)]; rfl, HB.out⟩
          · have hs1 : ¬ ((pre l).length : Int) < ((S l).size : Int) := by rw [HZ.out]; intro h; exact hs (by unfold hasSl; exact decide_eq_true (by omega))
            have HS1 := Lib.hid hs
            clear hs
            go_wp2_with fail
            go_ret
            exact ⟨by rw [H6.out, if_neg (by intro h; exact HS1.out ((Bool.and_eq_true _ _).mp h).1)]; rfl, HB.out⟩
        · clear c5
          go_wp2_with fail
          refine (r_slash l _ (by omega)).mono ?_
          rintro e w5 ⟨rfl, hb⟩
          replace HB := Lib.hid (bth HB.out hb)
          clear hb
          by_cases hs : hasSl l = true
          · have hs1 : ((pre l).length : Int) < ((S l).size : Int) := by rw [HZ.out]; unfold hasSl at hs; have := of_decide_eq_true hs; omega
            have HS1 := Lib.hid hs
            clear hs
            have HDT := Lib.hid (S_toList (d :: r2))
            by_cases e1 : d :: r2 = [49]
            · have e2 : ((S (d :: r2)).toList == [49]) = true := by rw [HDT.out, e1]; rfl
              have E1 := Lib.hid e1
              clear e1
              go_wp2_with fail
              go_ret
              exact ⟨by rw [H6.out, HS1.out, if_pos (by rw [decide_eq_true E1.out]; rfl)]; rfl, HB.out⟩
            · have e2 : ((S (d :: r2)).toList == [49]) = false := by rw [HDT.out]; exact beq_eq_false_iff_ne.2 e1
              have E1 := Lib.hid e1
              clear e1
              go_wp2_with fail
              refine (HQ.out _).mono ?_
              rintro e w6 ⟨rfl, hb⟩
              replace HB := Lib.hid (bth HB.out hb)
              clear hb
              generalize hg : Int.gcd (vI (c :: r1)) (vI (d :: r2)) = g at *
              clear hg
              have HGT := Lib.hid (S_toList (itx (g : Int)))
              by_cases e3 : g = 1
              · have e4 : ((S (itx (g : Int))).toList == [49]) = true := by rw [HGT.out, itx_eq_one, e3]; rfl
                have E3 := Lib.hid e3
                clear e3
                go_wp2_with fail
                go_ret
                exact ⟨by rw [H6.out, if_neg (by rw [decide_eq_false E1.out, E3.out]; simp)]; rfl, HB.out⟩
              · have e4 : ((S (itx (g : Int))).toList == [49]) = false := by rw [HGT.out, itx_eq_one]; exact beq_eq_false_iff_ne.2 (by omega)
                have E3 := Lib.hid e3
                clear e3
                go_wp2_with fail
                go_ret
                exact ⟨by rw [H6.out, HS1.out, if_pos (by rw [decide_eq_true E3.out]; simp)]; rfl, HB.out⟩
          · have hs1 : ¬ ((pre l).length : Int) < ((S l).size : Int) := by rw [HZ.out]; intro h; exact hs (by unfold hasSl; exact decide_eq_true (by omega))
            have HS1 := Lib.hid hs
            clear hs
            go_wp2_with fail
            go_ret
            exact ⟨by rw [H6.out, if_neg (by intro h; exact HS1.out ((Bool.and_eq_true _ _).mp h).1)]; rfl, HB.out⟩
end Go.Proofs.YtapckjeedekphaaGreatDoor

namespace Go.Proofs.YtapckjeedekphaaGreatDoor
open Go.RowKit Go.Proofs.YtapckjeedekphaaGreatDoorW.PrintWords PR
end Go.Proofs.YtapckjeedekphaaGreatDoor

namespace Go.Proofs.YtapckjeedekphaaGreatDoor
open Go.RowKit Go.Proofs.YtapckjeedekphaaGreatDoorW.PrintWords PR
section
variable {w w' : World} {g : Nat} {t : TypeId} {cs : Array Value}
end
end Go.Proofs.YtapckjeedekphaaGreatDoor

namespace Go.Proofs.YtapckjeedekphaaGreatDoor
open Go.RowKit Go.Proofs.YtapckjeedekphaaGreatDoorW.PrintWords PR
end Go.Proofs.YtapckjeedekphaaGreatDoor

namespace Go.Proofs.YtapckjeedekphaaGreatDoor
open Go.RowKit Go.Proofs.YtapckjeedekphaaGreatDoorW.PrintWords PR
end Go.Proofs.YtapckjeedekphaaGreatDoor

namespace Go.Proofs.YtapckjeedekphaaGreatDoor
open Go.RowKit Go.Proofs.YtapckjeedekphaaGreatDoorW.PrintWords PR
end Go.Proofs.YtapckjeedekphaaGreatDoor

namespace Go.Proofs.YtapckjeedekphaaGreatDoor
open Go.RowKit Go.Proofs.YtapckjeedekphaaGreatDoorW.PrintWords PR
section
variable {w w' : World} {g : Nat} {xs : List Int}
end
end Go.Proofs.YtapckjeedekphaaGreatDoor

namespace Go.Proofs.YtapckjeedekphaaGreatDoor
open Go.RowKit Go.Proofs.YtapckjeedekphaaGreatDoorW.PrintWords PR
end Go.Proofs.YtapckjeedekphaaGreatDoor

namespace Go.Proofs.YtapckjeedekphaaGreatDoor
open Go.RowKit Go.Proofs.YtapckjeedekphaaGreatDoorW.PrintWords PR
end Go.Proofs.YtapckjeedekphaaGreatDoor

namespace Go.Proofs.YtapckjeedekphaaGreatDoor
open Go.RowKit Go.Proofs.YtapckjeedekphaaGreatDoorW.PrintWords PR
set_option maxHeartbeats 800000 in
theorem p_qsign (v : Value) (q : Rat) (w : World) (hv : RR w v q) : Calls Tryz.prog 81 #[v] w fun e w' => e = .returned (.int .i64 (cmp q.num 0)) ∧ Below w.heap.size w w' := by
  obtain ⟨na1, Aa1, ka1, ca1, na2, Aa2, ka2, ca2, za, rfl, hna, hza, hda⟩ := hv
  have HNa := Lib.hid hna
  have HZa := Lib.hid hza
  have HDa := Lib.hid hda
  clear hna hza hda
  have HB := Lib.hid (Below.refl w.heap.size w)
  go_enter Tryz.func81, Tryz.ntmps81
  go_wp2_with (first | ((with_reducible refine gate_dst (N := 1) rfl ?_); refine bx_event rfl (cs := #[.bool na1, .slice Aa1 ka1 ca1, .bool na2, .slice Aa2 ka2 ca2]) (t := 31) ?hr ?_; (case hr => first | (go_simp; done) | (go_simp; rfl)); intro g1 w1 hg bk hb; have HG1 := Lib.hid (Nat.le_trans HB.out.size hg); replace HB := Lib.hid (bth HB.out hb); replace HNa := Lib.hid (HNa.out.below hb); have BK1 := Lib.hid bk; obtain ⟨c1_0, c1_1, c1_2, c1_3, f1_0, f1_1, f1_2, f1_3⟩ := BK1.out.all4; clear hb hg bk))
  refine (p_sign _ q.num _ HNa.out).mono ?_
  rintro e u1 ⟨rfl, hb⟩
  replace HB := Lib.hid (bth HB.out hb)
  clear c1_0 c1_1 c1_2 c1_3 f1_0 f1_1 f1_2 f1_3
  replace BK1 := Lib.hid (BK1.out.below hb)
  obtain ⟨c1_0, c1_1, c1_2, c1_3, f1_0, f1_1, f1_2, f1_3⟩ := BK1.out.all4
  replace HNa := Lib.hid (HNa.out.below hb)
  clear hb
  go_wp2_with fail
  go_ret
  exact ⟨rfl, HB.out⟩
end Go.Proofs.YtapckjeedekphaaGreatDoor

namespace Go.Proofs.YtapckjeedekphaaGreatDoor
open Go.RowKit Go.Proofs.YtapckjeedekphaaGreatDoorW.PrintWords PR
theorem whole_mul {q r : Rat} (hq : q.den = 1) (hr : r.den = 1) : (((q.num * r.num : Int)) : Rat) = q * r := by rw [Rat.intCast_mul, whole_eq hq, whole_eq hr]
end Go.Proofs.YtapckjeedekphaaGreatDoor


namespace Go.Proofs.YtapckjeedekphaaGreatDoor
open Go.RowKit Go.Proofs.YtapckjeedekphaaGreatDoorW.PrintWords PR
theorem td_zero {n : Nat} (h : 1 ≤ n) : Td n 0 := Td_of_le (Td_mono (Td_one 0) h) (by decide)
theorem chkI_of {p pl : List UInt8} (hp : plain p = pl) (hd : digs pl = true) (hl : p.length ≤ 65536) : chkI p = if (lead pl && decide (1 < p.length)) = true then 3 else 0 := by
  unfold chkI
  rw [if_neg (by omega), hp, hd, if_neg (by decide)]
theorem td_vI {p : List UInt8} {n : Nat} (h : chkI p = 0) (hl : p.length ≤ n) : Td n (vI p) := by
  have := Td_itx (vI p)
  rw [chkI_ok h] at this
  exact Td_mono this hl
/-- What Parse and Read return. -/
def RetQt (w : World) (l : List UInt8) (most : Int) (e : Ending) (w' : World) : Prop := ∃ v q, e = .returned (.tuple #[v, .int .i64 (chkQ l most)]) ∧ RR w' v q ∧ (chkQ l most = 0 → l = qtx q) ∧ (chkQ l most ≠ 0 → q = 0) ∧ Below w.heap.size w w'
theorem RetQt.err {w : World} {l : List UInt8} {most c : Int} {e : Ending} {w' : World} (h : RetRE w 0 c e w') (hc : chkQ l most = c) (h0 : c ≠ 0) : RetQt w l most e w' := by
  obtain ⟨v, h1, h2, h3⟩ := h
  exact ⟨v, 0, by rw [hc]; exact h1, h2, fun h => absurd (hc ▸ h) h0, fun _ => rfl, h3⟩
theorem RetQt.ok {w : World} {l : List UInt8} {most : Int} {q : Rat} {e : Ending} {w' : World} (h : RetRE w q 0 e w') (hc : chkQ l most = 0) (hq : l = qtx q) : RetQt w l most e w' := by
  obtain ⟨v, h1, h2, h3⟩ := h
  exact ⟨v, q, by rw [hc]; exact h1, h2, fun _ => hq, fun h => absurd hc h, h3⟩
theorem p_readQ (l : List UInt8) (most : Int) (hmost : most ≤ 65536) (hl : l.length ≤ 1000000) (w : World) (hm : mx3 w) : Calls Tryz.prog 137 #[.string (S l), .int .i64 most] w (RetQt w l most) := by
  obtain ⟨s1, s2, s3, s4, s5, s6⟩ := chkQ_steps l most
  by_cases h0 : most < (l.length : Int)
  · cases hs : hasSl l
    · exact (read_c1f l _ [] _ [] most 0 0 0 w hm hl ⟨rfl, by rw [hs]; rfl, hs⟩ rfl (decide_eq_true h0)).mono fun _ _ h => .err h (s1 h0) (by decide)
    · exact (read_c1 l _ _ _ [] most 0 0 0 w hm hl ⟨rfl, rfl, hs⟩ rfl (decide_eq_true h0)).mono fun _ _ h => .err h (s1 h0) (by decide)
  have n0 : decide (most < (l.length : Int)) = false := decide_eq_false h0
  have hpl := pre_len l
  have hl2 : l.length ≤ 65536 := by omega
  cases hd : digs (plain (pre l))
  · cases hs : hasSl l
    · exact (read_c2f l _ [] _ [] most 0 0 0 w hm hl ⟨rfl, by rw [hs]; rfl, hs⟩ rfl n0 hd).mono fun _ _ h => .err h (s2 h0 hd) (by decide)
    · exact (read_c2 l _ _ _ [] most 0 0 0 w hm hl ⟨rfl, rfl, hs⟩ rfl n0 hd).mono fun _ _ h => .err h (s2 h0 hd) (by decide)
  cases hs : hasSl l
  · have hdp : dpart l = [49] := by unfold dpart; rw [hs]; rfl
    have hz : zers (dpart l) = false := by rw [hdp]; decide
    have hdd : digs (dpart l) = true := by rw [hdp]; decide
    have hx := chkI_of (p := pre l) rfl hd (by omega)
    have hh : (if hasSl l = true then post l else []) = [] := by rw [hs]; rfl
    cases hle : (lead (plain (pre l)) && decide (1 < (pre l).length))
    · rw [hle, if_neg (by decide)] at hx
      have c0 : chkQ l most = 0 := by
        rw [s6 h0 hd hdd hz (by rw [hle, hdp]; rfl), hs]
        first | done | rfl
      obtain ⟨q, rfl, _⟩ := chkQ_ok c0
      have hqp := qtx_parts q
      rw [hqp.2.1] at hs
      have hq1 : q.den = 1 := by simpa using of_decide_eq_false hs
      have e1 : vI (pre (qtx q)) = q.num := by rw [hqp.1, vI_itx]
      refine (read_c6 (qtx q) _ [] _ [] most 0 (vI (pre (qtx q))) 0 w hm hl ⟨rfl, hh, by rw [hqp.2.1]; exact hs⟩ rfl n0 hd hx (by rw [if_pos hx])).mono fun _ _ h => .ok (q := q) ?_ c0 rfl
      rw [e1, whole_eq hq1] at h
      exact h
    · rw [hle, if_pos rfl] at hx
      exact (read_c5f l _ [] _ [] most 3 _ 0 w hm hl ⟨rfl, hh, hs⟩ rfl n0 hd hx rfl (by decide)).mono fun _ _ h => .err h (s5 h0 hd hdd hz (by rw [hle, hdp]; rfl)) (by decide)
  · have hdp : dpart l = post l := by unfold dpart; rw [if_pos hs]
    have hh : (if hasSl l = true then post l else []) = post l := if_pos hs
    have hpo : (post l).length ≤ l.length := by unfold post; rw [List.length_drop]; omega
    have hc : pre l = pre l ∧ (if hasSl l = true then post l else []) = post l ∧ hasSl l = true := ⟨rfl, hh, hs⟩
    rw [hdp] at s3 s4 s5 s6
    cases hdd : digs (post l)
    · exact (read_c3 l _ _ _ [] most 0 0 0 w hm hl hc rfl n0 hd hdd).mono fun _ _ h => .err h (s3 h0 hdd) (by decide)
    have hzt : ((S (Lib.trimS (post l) [48])).toList == []) = zers (post l) := by
      rw [S_nil_eq]
      exact dec_iff (trim_zero (post l))
    cases hz : zers (post l)
    · rw [hz] at hzt
      have hx := chkI_of (p := pre l) rfl hd (by omega)
      cases hle : (lead (plain (pre l)) && decide (1 < (pre l).length))
      · rw [hle, if_neg (by decide)] at hx
        have hplain := digs_plain_nonneg hdd
        have hy := chkI_of (p := post l) hplain hdd (by omega)
        have htx := td_vI (n := l.length + 1) hx (by omega)
        cases hlo : lead (post l)
        · rw [hlo, Bool.false_and, if_neg (by decide)] at hy
          have hty := td_vI (n := l.length + 1) hy (by omega)
          have s7 := s6 h0 hd hdd hz (by rw [hle, hlo]; rfl)
          rw [hs, Bool.true_and] at s7
          have hone : decide (post l = [49]) = (cmp (vI (post l)) 1 == 0) := by
            have e := itx_eq_one (vI (post l))
            rw [chkI_ok hy] at e
            have e2 : (cmp (vI (post l)) 1 == 0) = (vI (post l) == 1) := by
              rcases Int.lt_trichotomy (vI (post l)) 1 with h | h | h
              · have h1 : (vI (post l) == 1) = false := beq_eq_false_iff_ne.2 (by omega)
                rw [h1, cmp_lt h]; rfl
              · rw [h]; rfl
              · have h1 : (vI (post l) == 1) = false := beq_eq_false_iff_ne.2 (by omega)
                rw [h1, cmp_gt h]; rfl
            rw [e2, ← e]
            by_cases h : post l = [49]
            · rw [h, decide_eq_true rfl]; rfl
            · rw [decide_eq_false h, beq_eq_false_iff_ne.2 h]
          have hg1 : decide (Int.gcd (vI (pre l)) (vI (post l)) ≠ 1) = (cmp (Int.gcd (vI (pre l)) (vI (post l)) : Int) 1 != 0) := by
            generalize Int.gcd (vI (pre l)) (vI (post l)) = g
            rcases Nat.lt_trichotomy g 1 with h | h | h
            · rw [cmp_lt (by omega), decide_eq_true (by omega)]; rfl
            · rw [h]; rfl
            · rw [cmp_gt (by omega), decide_eq_true (by omega)]; rfl
          have hpos : vI (post l) ≠ 0 := by
            intro e
            have := chkI_ok hy
            rw [e, itx_zero] at this
            rw [← this] at hz
            exact absurd hz (by decide)
          have htg : Td (l.length + 1) (Int.gcd (vI (pre l)) (vI (post l)) : Int) := by
            have h1 : Int.gcd (vI (pre l)) (vI (post l)) ≤ (vI (post l)).natAbs := Nat.le_of_dvd (by omega) (Nat.gcd_dvd_right _ _)
            exact Td_of_le hty (by omega)
          rw [hone, hg1] at s7
          cases ho : (cmp (vI (post l)) 1 == 0)
          · cases hg : (cmp (Int.gcd (vI (pre l)) (vI (post l)) : Int) 1 != 0)
            · have c0 : chkQ l most = 0 := by rw [s7, ho, hg]; rfl
              obtain ⟨q, rfl, _⟩ := chkQ_ok c0
              have hqp := qtx_parts q
              have hq1 : q.den ≠ 1 := by
                have := hqp.2.1.symm.trans hs
                exact of_decide_eq_true this
              have e1 : vI (pre (qtx q)) = q.num := by rw [hqp.1, vI_itx]
              have e2 : vI (post (qtx q)) = (q.den : Int) := by rw [hqp.2.2.2 hq1, vI_itx]
              exact (read_c10 (qtx q) _ _ _ _ most 0 _ _ w hm hl hc rfl n0 hd hdd rfl hzt hx (if_pos hx) hy (if_pos hy) ho hg htx hty (by omega) (by omega) htg q ⟨e1, e2⟩).mono fun _ _ h => .ok h c0 rfl
            · exact (read_c9 l _ _ _ _ most 0 _ _ w hm hl hc rfl n0 hd hdd rfl hzt hx (if_pos hx) hy (if_pos hy) ho hg htx hty (by omega) (by omega) htg).mono fun _ _ h => .err h (by rw [s7, ho, hg]; rfl) (by decide)
          · exact (read_c8 l _ _ _ _ most 0 _ _ w hm hl hc rfl n0 hd hdd rfl hzt hx (if_pos hx) hy (if_pos hy) ho htx hty (by omega) (by omega) htg).mono fun _ _ h => .err h (by rw [s7, ho]; rfl) (by decide)
        · rw [hlo, Bool.true_and] at hy
          have h1 : 1 < (post l).length := by
            cases h : post l with
            | nil => rw [h] at hdd; exact absurd hdd (by decide)
            | cons b r =>
              rw [h, lead_cons] at hlo
              cases r with
              | nil =>
                have hb : b = 48 := by simpa using hlo
                rw [h, hb] at hz
                exact absurd hz (by decide)
              | cons => simp
          rw [decide_eq_true h1, if_pos rfl] at hy
          exact (read_c7 l _ _ _ _ most 3 _ 0 w hm hl hc rfl n0 hd hdd rfl hzt hx (if_pos hx) hy (by rw [if_neg (by rw [hy]; decide)]) (by decide) htx (td_zero (by omega)) (by omega) (by omega) (by
            rw [Int.gcd_zero_right]; exact Td_abs htx)).mono fun _ _ h => .err h (s5 h0 hd hdd hz (by rw [hlo, Bool.or_true])) (by decide)
      · rw [hle, if_pos rfl] at hx
        exact (read_c5 l _ _ _ _ most 3 _ 0 w hm hl hc rfl n0 hd hdd rfl hzt hx rfl (by decide)).mono fun _ _ h => .err h (s5 h0 hd hdd hz (by rw [hle]; rfl)) (by decide)
    · rw [hz] at hzt
      exact (read_c4 l _ _ _ _ most 0 0 0 w hm hl hc rfl n0 hd hdd rfl hzt).mono fun _ _ h => .err h (s4 h0 hd hdd hz) (by decide)
end Go.Proofs.YtapckjeedekphaaGreatDoor

namespace Go.Proofs.YtapckjeedekphaaGreatDoor
open Go.RowKit Go.Proofs.YtapckjeedekphaaGreatDoorW.PrintWords PR
set_option maxHeartbeats 800000 in
theorem p_rd34 (l : List UInt8) (w : World) (hl : l.length ≤ 1000000) (hm : mx3 w) : Calls Tryz.prog 34 #[.string (S l)] w (RetQt w l 400) := by
  have HM := Lib.hid hm
  have HL := Lib.hid hl
  obtain ⟨c, hc⟩ : ∃ c, chkQ l 400 = c := ⟨_, rfl⟩
  have HC := Lib.hid hc
  clear hc hl hm
  have HB := Lib.hid (Below.refl w.heap.size w)
  go_enter Tryz.func34, Tryz.ntmps34
  go_wp2_with (first | ((with_reducible refine gate_dst (N := 2) rfl ?_); refine bx_event rfl (cs := #[.bool false, .slice none 0 0, .bool false, .slice none 0 0]) (t := 31) ?hr ?_; (case hr => first | (go_simp; done) | (go_simp; rfl)); intro g2 w2 hg bk hb; have HG2 := Lib.hid (Nat.le_trans HB.out.size hg); replace HB := Lib.hid (bth HB.out hb); have BK2 := Lib.hid bk; obtain ⟨c2_0, c2_1, c2_2, c2_3, f2_0, f2_1, f2_2, f2_3⟩ := BK2.out.all4; clear hb hg bk))
  refine (p_readQ l 400 (by decide) HL.out _ (HM.out.below HB.out)).mono ?_
  rintro e u1 ⟨vr, q, rfl, hv, h1, h2, hb⟩
  replace HB := Lib.hid (bth HB.out hb)
  clear c2_0 c2_1 c2_2 c2_3 f2_0 f2_1 f2_2 f2_3
  replace BK2 := Lib.hid (BK2.out.below hb)
  obtain ⟨c2_0, c2_1, c2_2, c2_3, f2_0, f2_1, f2_2, f2_3⟩ := BK2.out.all4
  clear hb
  rw [HC.out]
  have HQ := Lib.hid (And.intro h1 h2)
  clear h1 h2
  have Hr := Lib.hid hv
  obtain ⟨nr1, Ar1, kr1, cr1, nr2, Ar2, kr2, cr2, rfl⟩ := hv.shape
  clear hv
  go_wp2_with fail
  refine bodyPost_ret (results_cell1 rfl _ _ g2 31 #[.bool nr1, .slice Ar1 kr1 cr1, .bool nr2, .slice Ar2 kr2 cr2] (0, 0) _ rfl (BK2.out.put4 _ _ _ _) Tryz.underlying31 rfl (by kernel_rfl)) rfl ?_
  have KP := BK2.out.kp4 (by decide) (.bool nr1) (.slice Ar1 kr1 cr1) (.bool nr2) (.slice Ar2 kr2 cr2)
  exact ⟨_, q, by rw [HC.out]; rfl, Hr.out.kp KP, HQ.out.1, HQ.out.2, below_put4 (HB.out) HG2.out _ _ _ _⟩
theorem qtx_inj {q r : Rat} (h : qtx q = qtx r) : q = r := by
  have h1 := qtx_parts q
  have h2 := qtx_parts r
  rw [h] at h1
  have e1 : q.num = r.num := itx_inj (h1.1.symm.trans h2.1)
  have e2 : (q.den : Int) = (r.den : Int) := itx_inj (h1.2.2.1.symm.trans h2.2.2.1)
  exact Rat.ext e1 (by omega)
theorem p_parse_q (q : Rat) (w : World) (hl : (qtx q).length ≤ 400) (hm : mx3 w) : Calls Tryz.prog 34 #[.string (S (qtx q))] w (RetRE w q 0) := by
  refine (p_rd34 (qtx q) w (by omega) hm).mono ?_
  rintro e w' ⟨v, r, rfl, h1, h2, h3, hb⟩
  have c0 : chkQ (qtx q) 400 = 0 := chkQ_qtx q (by omega)
  rw [c0]
  obtain rfl : q = r := qtx_inj (h2 c0)
  exact ⟨v, rfl, h1, hb⟩
set_option maxHeartbeats 800000 in
theorem l_read (q : Rat) (w : World) (hl : (qtx q).length ≤ 400) (hm : mx3 w) : Calls Tryz.prog 38 #[.string (S (qtx q))] w (RetR w q) := by
  have HM := Lib.hid hm
  have HL := Lib.hid hl
  clear hl hm
  have HB := Lib.hid (Below.refl w.heap.size w)
  go_enter Tryz.func38, Tryz.ntmps38
  go_wp2_with (first | ((with_reducible refine gate_dst (N := 2) rfl ?_); refine bx_event rfl (cs := #[.bool false, .slice none 0 0, .bool false, .slice none 0 0]) (t := 31) ?hr ?_; (case hr => first | (go_simp; done) | (go_simp; rfl)); intro g2 w2 hg bk hb; have HG2 := Lib.hid (Nat.le_trans HB.out.size hg); replace HB := Lib.hid (bth HB.out hb); have BK2 := Lib.hid bk; obtain ⟨c2_0, c2_1, c2_2, c2_3, f2_0, f2_1, f2_2, f2_3⟩ := BK2.out.all4; clear hb hg bk))
  refine (p_parse_q q _ HL.out (HM.out.below HB.out)).mono ?_
  rintro e u1 ⟨vr, rfl, hv, hb⟩
  replace HB := Lib.hid (bth HB.out hb)
  clear c2_0 c2_1 c2_2 c2_3 f2_0 f2_1 f2_2 f2_3
  replace BK2 := Lib.hid (BK2.out.below hb)
  obtain ⟨c2_0, c2_1, c2_2, c2_3, f2_0, f2_1, f2_2, f2_3⟩ := BK2.out.all4
  clear hb
  have Hr := Lib.hid hv
  obtain ⟨nr1, Ar1, kr1, cr1, nr2, Ar2, kr2, cr2, rfl⟩ := hv.shape
  clear hv
  go_wp2_with (first | ((with_reducible refine gate_dst (N := 3) rfl ?_); refine bx_event rfl (cs := #[.bool false, .slice none 0 0, .bool false, .slice none 0 0]) (t := 31) ?hr ?_; (case hr => first | (go_simp; done) | (go_simp; rfl)); intro g3 w3 hg bk hb; have HG3 := Lib.hid (Nat.le_trans HB.out.size hg); replace HB := Lib.hid (bth HB.out hb); have HN2_3 := Lib.hid (Nat.ne_of_lt (Nat.lt_of_lt_of_le BK2.out.lt hg)); have ne2_3 := HN2_3.out; have en2_3 := HN2_3.out.symm; clear c2_0 c2_1 c2_2 c2_3 f2_0 f2_1 f2_2 f2_3; replace BK2 := Lib.hid (BK2.out.below hb); obtain ⟨c2_0, c2_1, c2_2, c2_3, f2_0, f2_1, f2_2, f2_3⟩ := BK2.out.all4; replace Hr := Lib.hid (Hr.out.below hb); have BK3 := Lib.hid bk; obtain ⟨c3_0, c3_1, c3_2, c3_3, f3_0, f3_1, f3_2, f3_3⟩ := BK3.out.all4; clear hb hg bk))
  obtain ⟨x3, hx⟩ : ∃ W, ((((w3.setCell ⟨g3, 0, none⟩ (.bool nr1)).setCell ⟨g3, 1, none⟩ (.slice Ar1 kr1 cr1)).setCell ⟨g3, 2, none⟩ (.bool nr2)).setCell ⟨g3, 3, none⟩ (.slice Ar2 kr2 cr2)) = W := ⟨_, rfl⟩
  have KP : Kp w3 x3 := hx ▸ BK3.out.kp4 (by decide) (.bool nr1) (.slice Ar1 kr1 cr1) (.bool nr2) (.slice Ar2 kr2 cr2)
  replace BK2 : Hid (Bx x3 g2 31 #[.bool false, .slice none 0 0, .bool false, .slice none 0 0]) := Lib.hid (hx ▸ BK2.out.far4 HN2_3.out _ _ _ _)
  replace BK3 : Hid (Bx x3 g3 31 #[.bool nr1, .slice Ar1 kr1 cr1, .bool nr2, .slice Ar2 kr2 cr2]) := Lib.hid (hx ▸ BK3.out.put4 _ _ _ _)
  clear ne2_3 en2_3
  replace HB : Hid (Below w.heap.size w x3) := Lib.hid (hx ▸ below_put4 HB.out HG3.out _ _ _ _)
  replace Hr := Lib.hid (Hr.out.kp KP)
  rw [hx]
  clear hx KP
  clear c2_0 c2_1 c2_2 c2_3 f2_0 f2_1 f2_2 f2_3
  clear c3_0 c3_1 c3_2 c3_3 f3_0 f3_1 f3_2 f3_3
  obtain ⟨c2_0, c2_1, c2_2, c2_3, f2_0, f2_1, f2_2, f2_3⟩ := BK2.out.all4
  obtain ⟨c3_0, c3_1, c3_2, c3_3, f3_0, f3_1, f3_2, f3_3⟩ := BK3.out.all4
  go_wp2_with fail
  refine bodyPost_ret (results_cell_row rfl _ _ g2 31 #[.bool nr1, .slice Ar1 kr1 cr1, .bool nr2, .slice Ar2 kr2 cr2] (0, 0) _ rfl (BK2.out.put4 _ _ _ _) Tryz.underlying31 rfl (by kernel_rfl)) rfl ?_
  have KP := BK2.out.kp4 (by decide) (.bool nr1) (.slice Ar1 kr1 cr1) (.bool nr2) (.slice Ar2 kr2 cr2)
  exact ⟨_, rfl, Hr.out.kp KP, below_put4 (HB.out) HG2.out _ _ _ _⟩
/-- Right texts of at most 40 bytes. -/
def okQ (l : List UInt8) : Bool := chkQ l 40 == 0
def RgtRel (w w' : World) (xs : List (List UInt8)) (i : Nat) : Prop := i ≤ xs.length ∧ (xs.take i).all okQ = true ∧ Below w.heap.size w w'
theorem okQ_long {l : List UInt8} (h : 40 < l.length) : okQ l = false := by
  have := (chkQ_steps l 40).1 (by omega)
  unfold okQ; rw [this]; rfl
theorem all_false {α : Type} {p : α → Bool} {xs : List α} {i : Nat} {x : α} (h : xs[i]? = some x) (hp : p x = false) : xs.all p = false := by
  rw [Bool.eq_false_iff]
  intro h2
  rw [List.all_eq_true] at h2
  have := h2 x (List.mem_of_getElem? h)
  rw [hp] at this; cases this
theorem all_take_succ {α : Type} {p : α → Bool} {xs : List α} {i : Nat} {x : α} (h : xs[i]? = some x) (h1 : (xs.take i).all p = true) (hp : p x = true) : (xs.take (i + 1)).all p = true := by
  rw [List.take_add_one, h, List.all_append, h1]
  simp [hp]
set_option maxHeartbeats 1600000 in
theorem l_right (b c : Nat) (xs : List (List UInt8)) (w : World) (hc : ∀ j x, xs[j]? = some x → w.cell? ⟨b, j, none⟩ = some (.string (S x))) (hb : b < w.heap.size) (hl : xs.length ≤ 1000) : Calls Tryz.prog 37 #[.slice (some ⟨b, 0, none⟩) xs.length c] w fun e w' => e = .returned (.bool (xs.all okQ)) ∧ Below w.heap.size w w' := by
  have HC := Lib.hid hc
  have HB0 := Lib.hid hb
  obtain ⟨n, hn⟩ : ∃ n, xs.length = n := ⟨_, rfl⟩
  rw [hn] at hl ⊢
  have HN := Lib.hid hn
  clear hc hb hn
  go_enter Tryz.func37, Tryz.ntmps37
  go_wp2_with fail
  go_loopg [7] (n + 1) (fun gk v7 w' => ∃ i : Nat, i ≤ n ∧ n < gk + i ∧ v7 = .int .i64 (i : Int) ∧ Hid (RgtRel w w' xs i))
  case atStart => exact ⟨0, by omega, by omega, rfl, Nat.zero_le _, rfl, Below.refl _ _⟩
  case round =>
    obtain ⟨i, hi, hgk, rfl, HR⟩ := hrel
    by_cases hlt : i < n
    · obtain ⟨x, hx⟩ : ∃ x, xs[i]? = some x := ⟨_, List.getElem?_eq_getElem (by have := HN.out; omega)⟩
      have hcell := (HR.out.2.2.cell (p := ⟨b, i, none⟩) HB0.out).trans (HC.out i x hx)
      have HX := Lib.hid hx
      clear hx
      have hsz := S_size x
      have hw : wrap64 ((i : Int) + 1) = ((i + 1 : Nat) : Int) := by rw [w64 (by omega) (by omega)]; omega
      by_cases h40 : 40 < x.length
      · have d1 : decide ((40 : Int) < (x.length : Int)) = true := decide_eq_true (by omega)
        have HF := Lib.hid (all_false HX.out (okQ_long h40))
        clear h40
        go_wp2_with fail
        go_ret
        exact ⟨by rw [HF.out]; rfl, HR.out.2.2⟩
      · have d1 : decide ((40 : Int) < (x.length : Int)) = false := decide_eq_false (by omega)
        have HL4 := Lib.hid h40
        clear h40
        obtain ⟨z, hz⟩ : ∃ z, chkQ x 40 = z := ⟨_, rfl⟩
        have HZ := Lib.hid hz
        clear hz
        have HQ := Lib.hid (r_check x 40 wr (by have := HL4.out; omega))
        by_cases h0 : z = 0
        · have d2 : (z != 0) = false := by rw [h0]; rfl
          have HO : Hid (okQ x = true) := Lib.hid (by unfold okQ; rw [HZ.out, h0]; rfl)
          clear h0
          go_wp2_with fail
          refine HQ.out.mono ?_
          rintro e y1 ⟨rfl, hb⟩
          rw [HZ.out]
          have HB2 := Lib.hid (bth HR.out.2.2 hb)
          clear hb
          go_wp2_with fail
          go_roundg (gk - 1)
          case measure => omega
          case rel => exact ⟨i + 1, by omega, by omega, rfl, by have := HN.out; omega, all_take_succ HX.out HR.out.2.1 HO.out, HB2.out⟩
        · have d2 : (z != 0) = true := bne_iff_ne.2 h0
          have HF : Hid (xs.all okQ = false) := Lib.hid (all_false HX.out (by unfold okQ; rw [HZ.out]; exact beq_eq_false_iff_ne.2 h0))
          clear h0
          go_wp2_with fail
          refine HQ.out.mono ?_
          rintro e y1 ⟨rfl, hb⟩
          rw [HZ.out]
          have HB2 := Lib.hid (bth HR.out.2.2 hb)
          clear hb
          go_wp2_with fail
          go_ret
          exact ⟨by rw [HF.out]; rfl, HB2.out⟩
    · obtain rfl : i = n := by omega
      have HA : Hid (xs.all okQ = true) := Lib.hid (by
        have h := HR.out.2.1
        rw [List.take_of_length_le (by have := HN.out; omega)] at h
        exact h)
      go_wp2_with fail
      go_ret
      exact ⟨by rw [HA.out]; rfl, HR.out.2.2⟩
end Go.Proofs.YtapckjeedekphaaGreatDoor

namespace Go.Proofs.YtapckjeedekphaaGreatDoor
open Go.RowKit Go.Proofs.YtapckjeedekphaaGreatDoorW.PrintWords PR
theorem strs_cells {w : World} {g : Nat} (xs : List (List UInt8)) (h : Bx w g 9 (xs.map (fun x => Value.string (S x))).toArray) : ∀ j x, xs[j]? = some x → w.cell? ⟨g, j, none⟩ = some (.string (S x)) := by
  intro j x hx
  rw [h.cell j]
  simp [hx]
theorem okQ_qtx {q : Rat} (h : (qtx q).length ≤ 40) : okQ (qtx q) = true := by
  unfold okQ; rw [chkQ_qtx q (by omega)]; rfl
theorem okQ_of {l : List UInt8} (h : okQ l = true) : ∃ q : Rat, l = qtx q ∧ (qtx q).length ≤ 40 := by
  unfold okQ at h
  obtain ⟨q, rfl, h2⟩ := chkQ_ok (eq_of_beq h)
  exact ⟨q, rfl, by omega⟩
end Go.Proofs.YtapckjeedekphaaGreatDoor

namespace Go.Proofs.YtapckjeedekphaaGreatDoor
open Go.RowKit Go.Proofs.YtapckjeedekphaaGreatDoorW.PrintWords PR
set_option maxHeartbeats 1600000 in
theorem p_qmul (va vb : Value) (q r : Rat) (w : World) (ha : RR w va q) (hb : RR w vb r) {n : Nat} (hq : TQ n q) (hr : TQ n r) (hn : n ≤ 400000) (hn1 : 1 ≤ n) : Calls Tryz.prog 70 #[va, vb] w (RetR w (q * r)) := by
  have HA := Lib.hid ha
  have HC := Lib.hid hb
  obtain ⟨na1, Aa1, ka1, ca1, na2, Aa2, ka2, ca2, rfl⟩ := ha.shape
  obtain ⟨nb1, Ab1, kb1, cb1, nb2, Ab2, kb2, cb2, rfl⟩ := hb.shape
  clear ha hb
  have HP := Lib.hid (And.intro hq (And.intro hr (And.intro hn hn1)))
  clear hq hr hn hn1
  by_cases h1 : q.den = 1
  · have HE1 := Lib.hid (decide_eq_true h1)
    have H1 := Lib.hid h1
    clear h1
    by_cases h2 : r.den = 1
    · have HE2 := Lib.hid (decide_eq_true h2)
      have H2 := Lib.hid h2
      clear h2
      have HB := Lib.hid (Below.refl w.heap.size w)
      go_enter Tryz.func70, Tryz.ntmps70
      go_wp2_with (first | ((with_reducible refine gate_dst (N := 2) rfl ?_); refine bx_event rfl (cs := #[.bool na1, .slice Aa1 ka1 ca1, .bool na2, .slice Aa2 ka2 ca2]) (t := 31) ?hr ?_; (case hr => first | (go_simp; done) | (go_simp; rfl)); intro g2 w2 hg bk hb; have HG2 := Lib.hid (Nat.le_trans HB.out.size hg); replace HB := Lib.hid (bth HB.out hb); replace HA := Lib.hid (HA.out.below hb); replace HC := Lib.hid (HC.out.below hb); have BK2 := Lib.hid bk; obtain ⟨c2_0, c2_1, c2_2, c2_3, f2_0, f2_1, f2_2, f2_3⟩ := BK2.out.all4; clear hb hg bk) | ((with_reducible refine gate_dst (N := 3) rfl ?_); refine bx_event rfl (cs := #[.bool nb1, .slice Ab1 kb1 cb1, .bool nb2, .slice Ab2 kb2 cb2]) (t := 31) ?hr ?_; (case hr => first | (go_simp; done) | (go_simp; rfl)); intro g3 w3 hg bk hb; have HG3 := Lib.hid (Nat.le_trans HB.out.size hg); replace HB := Lib.hid (bth HB.out hb); have HN2_3 := Lib.hid (Nat.ne_of_lt (Nat.lt_of_lt_of_le BK2.out.lt hg)); clear c2_0 c2_1 c2_2 c2_3 f2_0 f2_1 f2_2 f2_3; replace BK2 := Lib.hid (BK2.out.below hb); obtain ⟨c2_0, c2_1, c2_2, c2_3, f2_0, f2_1, f2_2, f2_3⟩ := BK2.out.all4; replace HA := Lib.hid (HA.out.below hb); replace HC := Lib.hid (HC.out.below hb); have BK3 := Lib.hid bk; obtain ⟨c3_0, c3_1, c3_2, c3_3, f3_0, f3_1, f3_2, f3_3⟩ := BK3.out.all4; clear hb hg bk) | ((with_reducible refine gate_dst (N := 4) rfl ?_); refine bx_event rfl (cs := #[.bool false, .slice none 0 0, .bool false, .slice none 0 0]) (t := 31) ?hr ?_; (case hr => first | (go_simp; done) | (go_simp; rfl)); intro g4 w4 hg bk hb; have HG4 := Lib.hid (Nat.le_trans HB.out.size hg); replace HB := Lib.hid (bth HB.out hb); have HN2_4 := Lib.hid (Nat.ne_of_lt (Nat.lt_of_lt_of_le BK2.out.lt hg)); have HN3_4 := Lib.hid (Nat.ne_of_lt (Nat.lt_of_lt_of_le BK3.out.lt hg)); clear c2_0 c2_1 c2_2 c2_3 f2_0 f2_1 f2_2 f2_3; replace BK2 := Lib.hid (BK2.out.below hb); obtain ⟨c2_0, c2_1, c2_2, c2_3, f2_0, f2_1, f2_2, f2_3⟩ := BK2.out.all4; clear c3_0 c3_1 c3_2 c3_3 f3_0 f3_1 f3_2 f3_3; replace BK3 := Lib.hid (BK3.out.below hb); obtain ⟨c3_0, c3_1, c3_2, c3_3, f3_0, f3_1, f3_2, f3_3⟩ := BK3.out.all4; replace HA := Lib.hid (HA.out.below hb); replace HC := Lib.hid (HC.out.below hb); have BK4 := Lib.hid bk; obtain ⟨c4_0, c4_1, c4_2, c4_3, f4_0, f4_1, f4_2, f4_3⟩ := BK4.out.all4; clear hb hg bk))
      refine (p_whole _ q _ HA.out (n := n) HP.out.1 (by have := HP.out.2.2.1; omega) HP.out.2.2.2).mono ?_
      rintro e u1 ⟨rfl, hb⟩
      replace HB := Lib.hid (bth HB.out hb)
      clear c2_0 c2_1 c2_2 c2_3 f2_0 f2_1 f2_2 f2_3
      replace BK2 := Lib.hid (BK2.out.below hb)
      obtain ⟨c2_0, c2_1, c2_2, c2_3, f2_0, f2_1, f2_2, f2_3⟩ := BK2.out.all4
      clear c3_0 c3_1 c3_2 c3_3 f3_0 f3_1 f3_2 f3_3
      replace BK3 := Lib.hid (BK3.out.below hb)
      obtain ⟨c3_0, c3_1, c3_2, c3_3, f3_0, f3_1, f3_2, f3_3⟩ := BK3.out.all4
      clear c4_0 c4_1 c4_2 c4_3 f4_0 f4_1 f4_2 f4_3
      replace BK4 := Lib.hid (BK4.out.below hb)
      obtain ⟨c4_0, c4_1, c4_2, c4_3, f4_0, f4_1, f4_2, f4_3⟩ := BK4.out.all4
      replace HA := Lib.hid (HA.out.below hb)
      replace HC := Lib.hid (HC.out.below hb)
      clear hb
      rw [HE1.out]
      go_wp2_with fail
      refine (p_whole _ r _ HC.out (n := n) HP.out.2.1 (by have := HP.out.2.2.1; omega) HP.out.2.2.2).mono ?_
      rintro e u2 ⟨rfl, hb⟩
      replace HB := Lib.hid (bth HB.out hb)
      clear c2_0 c2_1 c2_2 c2_3 f2_0 f2_1 f2_2 f2_3
      replace BK2 := Lib.hid (BK2.out.below hb)
      obtain ⟨c2_0, c2_1, c2_2, c2_3, f2_0, f2_1, f2_2, f2_3⟩ := BK2.out.all4
      clear c3_0 c3_1 c3_2 c3_3 f3_0 f3_1 f3_2 f3_3
      replace BK3 := Lib.hid (BK3.out.below hb)
      obtain ⟨c3_0, c3_1, c3_2, c3_3, f3_0, f3_1, f3_2, f3_3⟩ := BK3.out.all4
      clear c4_0 c4_1 c4_2 c4_3 f4_0 f4_1 f4_2 f4_3
      replace BK4 := Lib.hid (BK4.out.below hb)
      obtain ⟨c4_0, c4_1, c4_2, c4_3, f4_0, f4_1, f4_2, f4_3⟩ := BK4.out.all4
      replace HA := Lib.hid (HA.out.below hb)
      replace HC := Lib.hid (HC.out.below hb)
      clear hb
      rw [HE2.out]
      go_wp2_with fail
      refine (p_mul _ _ q.num r.num _ HA.out.num HC.out.num (n := n) HP.out.1.1 HP.out.2.1.1 (by have := HP.out.2.2.1; omega)).mono ?_
      rintro e u3 ⟨vr, rfl, hvr, hb⟩
      replace HB := Lib.hid (bth HB.out hb)
      clear c2_0 c2_1 c2_2 c2_3 f2_0 f2_1 f2_2 f2_3
      replace BK2 := Lib.hid (BK2.out.below hb)
      obtain ⟨c2_0, c2_1, c2_2, c2_3, f2_0, f2_1, f2_2, f2_3⟩ := BK2.out.all4
      clear c3_0 c3_1 c3_2 c3_3 f3_0 f3_1 f3_2 f3_3
      replace BK3 := Lib.hid (BK3.out.below hb)
      obtain ⟨c3_0, c3_1, c3_2, c3_3, f3_0, f3_1, f3_2, f3_3⟩ := BK3.out.all4
      clear c4_0 c4_1 c4_2 c4_3 f4_0 f4_1 f4_2 f4_3
      replace BK4 := Lib.hid (BK4.out.below hb)
      obtain ⟨c4_0, c4_1, c4_2, c4_3, f4_0, f4_1, f4_2, f4_3⟩ := BK4.out.all4
      replace HA := Lib.hid (HA.out.below hb)
      replace HC := Lib.hid (HC.out.below hb)
      clear hb
      have HR := Lib.hid hvr
      obtain ⟨nr, Ar, kr, cr, rfl⟩ := hvr.shape
      clear hvr
      go_wp2_with fail
      refine bodyPost_ret (results_cell_row rfl _ _ g4 31 #[.bool nr, .slice Ar kr cr, .bool false, .slice none 0 0] (0, 0) _ rfl (BK4.out.put4 _ _ _ _) Tryz.underlying31 rfl (by kernel_rfl)) rfl ?_
      have KP := BK4.out.kp4 (by decide) (.bool nr) (.slice Ar kr cr) (.bool false) (.slice none 0 0)
      exact ⟨_, rfl, RR.whole (HR.out.kp KP) (whole_mul H1.out H2.out), below_put4 HB.out HG4.out _ _ _ _⟩
    · have HE2 := Lib.hid (decide_eq_false h2)
      clear h2
      have HB := Lib.hid (Below.refl w.heap.size w)
      go_enter Tryz.func70, Tryz.ntmps70
      go_wp2_with (first | ((with_reducible refine gate_dst (N := 2) rfl ?_); refine bx_event rfl (cs := #[.bool na1, .slice Aa1 ka1 ca1, .bool na2, .slice Aa2 ka2 ca2]) (t := 31) ?hr ?_; (case hr => first | (go_simp; done) | (go_simp; rfl)); intro g2 w2 hg bk hb; have HG2 := Lib.hid (Nat.le_trans HB.out.size hg); replace HB := Lib.hid (bth HB.out hb); replace HA := Lib.hid (HA.out.below hb); replace HC := Lib.hid (HC.out.below hb); have BK2 := Lib.hid bk; obtain ⟨c2_0, c2_1, c2_2, c2_3, f2_0, f2_1, f2_2, f2_3⟩ := BK2.out.all4; clear hb hg bk) | ((with_reducible refine gate_dst (N := 3) rfl ?_); refine bx_event rfl (cs := #[.bool nb1, .slice Ab1 kb1 cb1, .bool nb2, .slice Ab2 kb2 cb2]) (t := 31) ?hr ?_; (case hr => first | (go_simp; done) | (go_simp; rfl)); intro g3 w3 hg bk hb; have HG3 := Lib.hid (Nat.le_trans HB.out.size hg); replace HB := Lib.hid (bth HB.out hb); have HN2_3 := Lib.hid (Nat.ne_of_lt (Nat.lt_of_lt_of_le BK2.out.lt hg)); clear c2_0 c2_1 c2_2 c2_3 f2_0 f2_1 f2_2 f2_3; replace BK2 := Lib.hid (BK2.out.below hb); obtain ⟨c2_0, c2_1, c2_2, c2_3, f2_0, f2_1, f2_2, f2_3⟩ := BK2.out.all4; replace HA := Lib.hid (HA.out.below hb); replace HC := Lib.hid (HC.out.below hb); have BK3 := Lib.hid bk; obtain ⟨c3_0, c3_1, c3_2, c3_3, f3_0, f3_1, f3_2, f3_3⟩ := BK3.out.all4; clear hb hg bk) | ((with_reducible refine gate_dst (N := 4) rfl ?_); refine bx_event rfl (cs := #[.bool false, .slice none 0 0, .bool false, .slice none 0 0]) (t := 31) ?hr ?_; (case hr => first | (go_simp; done) | (go_simp; rfl)); intro g4 w4 hg bk hb; have HG4 := Lib.hid (Nat.le_trans HB.out.size hg); replace HB := Lib.hid (bth HB.out hb); have HN2_4 := Lib.hid (Nat.ne_of_lt (Nat.lt_of_lt_of_le BK2.out.lt hg)); have HN3_4 := Lib.hid (Nat.ne_of_lt (Nat.lt_of_lt_of_le BK3.out.lt hg)); clear c2_0 c2_1 c2_2 c2_3 f2_0 f2_1 f2_2 f2_3; replace BK2 := Lib.hid (BK2.out.below hb); obtain ⟨c2_0, c2_1, c2_2, c2_3, f2_0, f2_1, f2_2, f2_3⟩ := BK2.out.all4; clear c3_0 c3_1 c3_2 c3_3 f3_0 f3_1 f3_2 f3_3; replace BK3 := Lib.hid (BK3.out.below hb); obtain ⟨c3_0, c3_1, c3_2, c3_3, f3_0, f3_1, f3_2, f3_3⟩ := BK3.out.all4; replace HA := Lib.hid (HA.out.below hb); replace HC := Lib.hid (HC.out.below hb); have BK4 := Lib.hid bk; obtain ⟨c4_0, c4_1, c4_2, c4_3, f4_0, f4_1, f4_2, f4_3⟩ := BK4.out.all4; clear hb hg bk))
      refine (p_whole _ q _ HA.out (n := n) HP.out.1 (by have := HP.out.2.2.1; omega) HP.out.2.2.2).mono ?_
      rintro e u1 ⟨rfl, hb⟩
      replace HB := Lib.hid (bth HB.out hb)
      clear c2_0 c2_1 c2_2 c2_3 f2_0 f2_1 f2_2 f2_3
      replace BK2 := Lib.hid (BK2.out.below hb)
      obtain ⟨c2_0, c2_1, c2_2, c2_3, f2_0, f2_1, f2_2, f2_3⟩ := BK2.out.all4
      clear c3_0 c3_1 c3_2 c3_3 f3_0 f3_1 f3_2 f3_3
      replace BK3 := Lib.hid (BK3.out.below hb)
      obtain ⟨c3_0, c3_1, c3_2, c3_3, f3_0, f3_1, f3_2, f3_3⟩ := BK3.out.all4
      clear c4_0 c4_1 c4_2 c4_3 f4_0 f4_1 f4_2 f4_3
      replace BK4 := Lib.hid (BK4.out.below hb)
      obtain ⟨c4_0, c4_1, c4_2, c4_3, f4_0, f4_1, f4_2, f4_3⟩ := BK4.out.all4
      replace HA := Lib.hid (HA.out.below hb)
      replace HC := Lib.hid (HC.out.below hb)
      clear hb
      rw [HE1.out]
      go_wp2_with fail
      refine (p_whole _ r _ HC.out (n := n) HP.out.2.1 (by have := HP.out.2.2.1; omega) HP.out.2.2.2).mono ?_
      rintro e u2 ⟨rfl, hb⟩
      replace HB := Lib.hid (bth HB.out hb)
      clear c2_0 c2_1 c2_2 c2_3 f2_0 f2_1 f2_2 f2_3
      replace BK2 := Lib.hid (BK2.out.below hb)
      obtain ⟨c2_0, c2_1, c2_2, c2_3, f2_0, f2_1, f2_2, f2_3⟩ := BK2.out.all4
      clear c3_0 c3_1 c3_2 c3_3 f3_0 f3_1 f3_2 f3_3
      replace BK3 := Lib.hid (BK3.out.below hb)
      obtain ⟨c3_0, c3_1, c3_2, c3_3, f3_0, f3_1, f3_2, f3_3⟩ := BK3.out.all4
      clear c4_0 c4_1 c4_2 c4_3 f4_0 f4_1 f4_2 f4_3
      replace BK4 := Lib.hid (BK4.out.below hb)
      obtain ⟨c4_0, c4_1, c4_2, c4_3, f4_0, f4_1, f4_2, f4_3⟩ := BK4.out.all4
      replace HA := Lib.hid (HA.out.below hb)
      replace HC := Lib.hid (HC.out.below hb)
      clear hb
      rw [HE2.out]
      go_wp2_with fail
      have HI : Hid (TwoI w na1 Aa1 ka1 ca1 na2 Aa2 ka2 ca2 nb1 Ab1 kb1 cb1 nb2 Ab2 kb2 cb2 q r g2 g3 u2) := ⟨BK2.out, BK3.out, HB.out, HA.out, HC.out⟩
      clear c2_0 c2_1 c2_2 c2_3 f2_0 f2_1 f2_2 f2_3 BK2
      clear c3_0 c3_1 c3_2 c3_3 f3_0 f3_1 f3_2 f3_3 BK3
      clear c4_0 c4_1 c4_2 c4_3 f4_0 f4_1 f4_2 f4_3
      clear HB HA HC
      have BKr := BK4
      clear BK4
      first
      | (go_region_held3 (fun w' => w'.cell? ⟨g2, 0, none⟩ = some (.bool na1) ∧ w'.cell? ⟨g2, 1, none⟩ = some (.slice Aa1 ka1 ca1) ∧ w'.cell? ⟨g2, 2, none⟩ = some (.bool na2) ∧ w'.cell? ⟨g2, 3, none⟩ = some (.slice Aa2 ka2 ca2) ∧ w'.cell? ⟨g3, 0, none⟩ = some (.bool nb1) ∧ w'.cell? ⟨g3, 1, none⟩ = some (.slice Ab1 kb1 cb1) ∧ w'.cell? ⟨g3, 2, none⟩ = some (.bool nb2) ∧ w'.cell? ⟨g3, 3, none⟩ = some (.slice Ab2 kb2 cb2) ∧ Hid (TwoI w na1 Aa1 ka1 ca1 na2 Aa2 ka2 ca2 nb1 Ab1 kb1 cb1 nb2 Ab2 kb2 cb2 q r g2 g3 w')) (first | exact (HI.out.below (below_drew (Below.refl _ _))).cells | exact (HQ.out.below hb).cells | exact (((((HQ.out.below hb).store BKr.out HG4.out HN2_4.out HN3_4.out 0 _).store (BKr.out.set_ 0 _) HG4.out HN2_4.out HN3_4.out 1 _).store ((BKr.out.set_ 0 _).set_ 1 _) HG4.out HN2_4.out HN3_4.out 2 _).store (((BKr.out.set_ 0 _).set_ 1 _).set_ 2 _) HG4.out HN2_4.out HN3_4.out 3 _).cells)
          (first | (go_at_call_of 142 Aa1; have HQ0 := ‹_ ∧ _ ∧ _ ∧ _ ∧ _ ∧ _ ∧ _ ∧ _ ∧ Hid (TwoI w na1 Aa1 ka1 ca1 na2 Aa2 ka2 ca2 nb1 Ab1 kb1 cb1 nb2 Ab2 kb2 cb2 q r g2 g3 _)›; have HQ := HQ0.2.2.2.2.2.2.2.2; clear HQ0; refine (p_mul _ _ q.num r.num _ HQ.out.2.2.2.1.num HQ.out.2.2.2.2.num (n := n) HP.out.1.1 HP.out.2.1.1 (by have := HP.out.2.2.1; omega)).mono ?_; rintro e u ⟨vm1, rfl, hv, hb⟩; have BKr' : Hid (Bx u g4 31 #[.bool false, .slice none 0 0, .bool false, .slice none 0 0]) := (by first | exact BKr.out.below hb | exact BKr.out.drew.below hb); clear BKr; have BKr := BKr'; clear BKr'; have cr0 := BKr.out.cell 0; have fr0 := BKr.out.frozen 0; have cr1 := BKr.out.cell 1; have fr1 := BKr.out.frozen 1; have cr2 := BKr.out.cell 2; have fr2 := BKr.out.frozen 2; have cr3 := BKr.out.cell 3; have fr3 := BKr.out.frozen 3; (try (replace HDa := Lib.hid (HDa.out.below hb))); (try (replace HDb := Lib.hid (HDb.out.below hb))); (try (replace HM2 := Lib.hid (HM2.out.below hb))); (try (replace HS := Lib.hid (HS.out.below hb))); (try (replace HM3 := Lib.hid (HM3.out.below hb))); have HM1 := Lib.hid hv; clear hv) | (go_at_call_of 33 Aa1; have HQ0 := ‹_ ∧ _ ∧ _ ∧ _ ∧ _ ∧ _ ∧ _ ∧ _ ∧ Hid (TwoI w na1 Aa1 ka1 ca1 na2 Aa2 ka2 ca2 nb1 Ab1 kb1 cb1 nb2 Ab2 kb2 cb2 q r g2 g3 _)›; have HQ := HQ0.2.2.2.2.2.2.2.2; clear HQ0; refine (p_den _ q _ HQ.out.2.2.2.1).mono ?_; rintro e u ⟨vda, rfl, hv, hb⟩; have BKr' : Hid (Bx u g4 31 #[.bool false, .slice none 0 0, .bool false, .slice none 0 0]) := (by first | exact BKr.out.below hb | exact BKr.out.drew.below hb); clear BKr; have BKr := BKr'; clear BKr'; have cr0 := BKr.out.cell 0; have fr0 := BKr.out.frozen 0; have cr1 := BKr.out.cell 1; have fr1 := BKr.out.frozen 1; have cr2 := BKr.out.cell 2; have fr2 := BKr.out.frozen 2; have cr3 := BKr.out.cell 3; have fr3 := BKr.out.frozen 3; (try (replace HDb := Lib.hid (HDb.out.below hb))); (try (replace HM1 := Lib.hid (HM1.out.below hb))); (try (replace HM2 := Lib.hid (HM2.out.below hb))); (try (replace HS := Lib.hid (HS.out.below hb))); (try (replace HM3 := Lib.hid (HM3.out.below hb))); have HDa := Lib.hid hv; clear hv) | (go_at_call_of 33 Ab1; have HQ0 := ‹_ ∧ _ ∧ _ ∧ _ ∧ _ ∧ _ ∧ _ ∧ _ ∧ Hid (TwoI w na1 Aa1 ka1 ca1 na2 Aa2 ka2 ca2 nb1 Ab1 kb1 cb1 nb2 Ab2 kb2 cb2 q r g2 g3 _)›; have HQ := HQ0.2.2.2.2.2.2.2.2; clear HQ0; refine (p_den _ r _ HQ.out.2.2.2.2).mono ?_; rintro e u ⟨vdb, rfl, hv, hb⟩; have BKr' : Hid (Bx u g4 31 #[.bool false, .slice none 0 0, .bool false, .slice none 0 0]) := (by first | exact BKr.out.below hb | exact BKr.out.drew.below hb); clear BKr; have BKr := BKr'; clear BKr'; have cr0 := BKr.out.cell 0; have fr0 := BKr.out.frozen 0; have cr1 := BKr.out.cell 1; have fr1 := BKr.out.frozen 1; have cr2 := BKr.out.cell 2; have fr2 := BKr.out.frozen 2; have cr3 := BKr.out.cell 3; have fr3 := BKr.out.frozen 3; (try (replace HDa := Lib.hid (HDa.out.below hb))); (try (replace HM1 := Lib.hid (HM1.out.below hb))); (try (replace HM2 := Lib.hid (HM2.out.below hb))); (try (replace HS := Lib.hid (HS.out.below hb))); (try (replace HM3 := Lib.hid (HM3.out.below hb))); have HDb := Lib.hid hv; clear hv) | (go_at_call 142; have HQ0 := ‹_ ∧ _ ∧ _ ∧ _ ∧ _ ∧ _ ∧ _ ∧ _ ∧ Hid (TwoI w na1 Aa1 ka1 ca1 na2 Aa2 ka2 ca2 nb1 Ab1 kb1 cb1 nb2 Ab2 kb2 cb2 q r g2 g3 _)›; have HQ := HQ0.2.2.2.2.2.2.2.2; clear HQ0; refine (p_mul _ _ q.den r.den _ HDa.out HDb.out (n := n) HP.out.1.2 HP.out.2.1.2 (by have := HP.out.2.2.1; omega)).mono ?_; rintro e u ⟨vm3, rfl, hv, hb⟩; have BKr' : Hid (Bx u g4 31 #[.bool false, .slice none 0 0, .bool false, .slice none 0 0]) := (by first | exact BKr.out.below hb | exact BKr.out.drew.below hb); clear BKr; have BKr := BKr'; clear BKr'; have cr0 := BKr.out.cell 0; have fr0 := BKr.out.frozen 0; have cr1 := BKr.out.cell 1; have fr1 := BKr.out.frozen 1; have cr2 := BKr.out.cell 2; have fr2 := BKr.out.frozen 2; have cr3 := BKr.out.cell 3; have fr3 := BKr.out.frozen 3; (try (replace HDa := Lib.hid (HDa.out.below hb))); (try (replace HDb := Lib.hid (HDb.out.below hb))); (try (replace HM1 := Lib.hid (HM1.out.below hb))); (try (replace HM2 := Lib.hid (HM2.out.below hb))); (try (replace HS := Lib.hid (HS.out.below hb))); have HM3 := Lib.hid hv; clear hv) | (go_at_call 125; have HQ0 := ‹_ ∧ _ ∧ _ ∧ _ ∧ _ ∧ _ ∧ _ ∧ _ ∧ Hid (TwoI w na1 Aa1 ka1 ca1 na2 Aa2 ka2 ca2 nb1 Ab1 kb1 cb1 nb2 Ab2 kb2 cb2 q r g2 g3 _)›; have HQ := HQ0.2.2.2.2.2.2.2.2; clear HQ0; refine (p_reduced _ _ _ _ _ HM1.out HM3.out (n := n + n) (Td_mul HP.out.1.1 HP.out.2.1.1) (Td_mul HP.out.1.2 HP.out.2.1.2) (Int.mul_ne_zero (den_ne q) (den_ne r)) (by have := HP.out.2.2.1; omega) (by have := HP.out.2.2.2; omega)).mono ?_; rintro e u ⟨vr, rfl, hv, hb⟩; have BKr' : Hid (Bx u g4 31 #[.bool false, .slice none 0 0, .bool false, .slice none 0 0]) := (by first | exact BKr.out.below hb | exact BKr.out.drew.below hb); clear BKr; have BKr := BKr'; clear BKr'; have cr0 := BKr.out.cell 0; have fr0 := BKr.out.frozen 0; have cr1 := BKr.out.cell 1; have fr1 := BKr.out.frozen 1; have cr2 := BKr.out.cell 2; have fr2 := BKr.out.frozen 2; have cr3 := BKr.out.cell 3; have fr3 := BKr.out.frozen 3; have HR := Lib.hid (hv.cast (mul_eq q r)); obtain ⟨nr1, Ar1, kr1, cr1, nr2, Ar2, kr2, cr2, rfl⟩ := hv.shape; clear hv)))
      | fail
      all_goals
        go_wp2_with fail
        refine bodyPost_ret (results_cell_row rfl _ _ g4 31 #[.bool nr1, .slice Ar1 kr1 cr1, .bool nr2, .slice Ar2 kr2 cr2] (0, 0) _ rfl (BKr.out.put4 _ _ _ _) Tryz.underlying31 rfl (by kernel_rfl)) rfl ?_
        have KP := BKr.out.kp4 (by decide) (.bool nr1) (.slice Ar1 kr1 cr1) (.bool nr2) (.slice Ar2 kr2 cr2)
        exact ⟨_, rfl, HR.out.kp KP, below_put4 ((HQ.out.below hb).2.2.1) HG4.out _ _ _ _⟩
  · have HE1 := Lib.hid (decide_eq_false h1)
    clear h1
    have HB := Lib.hid (Below.refl w.heap.size w)
    go_enter Tryz.func70, Tryz.ntmps70
    go_wp2_with (first | ((with_reducible refine gate_dst (N := 2) rfl ?_); refine bx_event rfl (cs := #[.bool na1, .slice Aa1 ka1 ca1, .bool na2, .slice Aa2 ka2 ca2]) (t := 31) ?hr ?_; (case hr => first | (go_simp; done) | (go_simp; rfl)); intro g2 w2 hg bk hb; have HG2 := Lib.hid (Nat.le_trans HB.out.size hg); replace HB := Lib.hid (bth HB.out hb); replace HA := Lib.hid (HA.out.below hb); replace HC := Lib.hid (HC.out.below hb); have BK2 := Lib.hid bk; obtain ⟨c2_0, c2_1, c2_2, c2_3, f2_0, f2_1, f2_2, f2_3⟩ := BK2.out.all4; clear hb hg bk) | ((with_reducible refine gate_dst (N := 3) rfl ?_); refine bx_event rfl (cs := #[.bool nb1, .slice Ab1 kb1 cb1, .bool nb2, .slice Ab2 kb2 cb2]) (t := 31) ?hr ?_; (case hr => first | (go_simp; done) | (go_simp; rfl)); intro g3 w3 hg bk hb; have HG3 := Lib.hid (Nat.le_trans HB.out.size hg); replace HB := Lib.hid (bth HB.out hb); have HN2_3 := Lib.hid (Nat.ne_of_lt (Nat.lt_of_lt_of_le BK2.out.lt hg)); clear c2_0 c2_1 c2_2 c2_3 f2_0 f2_1 f2_2 f2_3; replace BK2 := Lib.hid (BK2.out.below hb); obtain ⟨c2_0, c2_1, c2_2, c2_3, f2_0, f2_1, f2_2, f2_3⟩ := BK2.out.all4; replace HA := Lib.hid (HA.out.below hb); replace HC := Lib.hid (HC.out.below hb); have BK3 := Lib.hid bk; obtain ⟨c3_0, c3_1, c3_2, c3_3, f3_0, f3_1, f3_2, f3_3⟩ := BK3.out.all4; clear hb hg bk) | ((with_reducible refine gate_dst (N := 4) rfl ?_); refine bx_event rfl (cs := #[.bool false, .slice none 0 0, .bool false, .slice none 0 0]) (t := 31) ?hr ?_; (case hr => first | (go_simp; done) | (go_simp; rfl)); intro g4 w4 hg bk hb; have HG4 := Lib.hid (Nat.le_trans HB.out.size hg); replace HB := Lib.hid (bth HB.out hb); have HN2_4 := Lib.hid (Nat.ne_of_lt (Nat.lt_of_lt_of_le BK2.out.lt hg)); have HN3_4 := Lib.hid (Nat.ne_of_lt (Nat.lt_of_lt_of_le BK3.out.lt hg)); clear c2_0 c2_1 c2_2 c2_3 f2_0 f2_1 f2_2 f2_3; replace BK2 := Lib.hid (BK2.out.below hb); obtain ⟨c2_0, c2_1, c2_2, c2_3, f2_0, f2_1, f2_2, f2_3⟩ := BK2.out.all4; clear c3_0 c3_1 c3_2 c3_3 f3_0 f3_1 f3_2 f3_3; replace BK3 := Lib.hid (BK3.out.below hb); obtain ⟨c3_0, c3_1, c3_2, c3_3, f3_0, f3_1, f3_2, f3_3⟩ := BK3.out.all4; replace HA := Lib.hid (HA.out.below hb); replace HC := Lib.hid (HC.out.below hb); have BK4 := Lib.hid bk; obtain ⟨c4_0, c4_1, c4_2, c4_3, f4_0, f4_1, f4_2, f4_3⟩ := BK4.out.all4; clear hb hg bk))
    refine (p_whole _ q _ HA.out (n := n) HP.out.1 (by have := HP.out.2.2.1; omega) HP.out.2.2.2).mono ?_
    rintro e u1 ⟨rfl, hb⟩
    replace HB := Lib.hid (bth HB.out hb)
    clear c2_0 c2_1 c2_2 c2_3 f2_0 f2_1 f2_2 f2_3
    replace BK2 := Lib.hid (BK2.out.below hb)
    obtain ⟨c2_0, c2_1, c2_2, c2_3, f2_0, f2_1, f2_2, f2_3⟩ := BK2.out.all4
    clear c3_0 c3_1 c3_2 c3_3 f3_0 f3_1 f3_2 f3_3
    replace BK3 := Lib.hid (BK3.out.below hb)
    obtain ⟨c3_0, c3_1, c3_2, c3_3, f3_0, f3_1, f3_2, f3_3⟩ := BK3.out.all4
    clear c4_0 c4_1 c4_2 c4_3 f4_0 f4_1 f4_2 f4_3
    replace BK4 := Lib.hid (BK4.out.below hb)
    obtain ⟨c4_0, c4_1, c4_2, c4_3, f4_0, f4_1, f4_2, f4_3⟩ := BK4.out.all4
    replace HA := Lib.hid (HA.out.below hb)
    replace HC := Lib.hid (HC.out.below hb)
    clear hb
    rw [HE1.out]
    go_wp2_with fail
    have HI : Hid (TwoI w na1 Aa1 ka1 ca1 na2 Aa2 ka2 ca2 nb1 Ab1 kb1 cb1 nb2 Ab2 kb2 cb2 q r g2 g3 u1) := ⟨BK2.out, BK3.out, HB.out, HA.out, HC.out⟩
    clear c2_0 c2_1 c2_2 c2_3 f2_0 f2_1 f2_2 f2_3 BK2
    clear c3_0 c3_1 c3_2 c3_3 f3_0 f3_1 f3_2 f3_3 BK3
    clear c4_0 c4_1 c4_2 c4_3 f4_0 f4_1 f4_2 f4_3
    clear HB HA HC
    have BKr := BK4
    clear BK4
    first
    | (go_region_held3 (fun w' => w'.cell? ⟨g2, 0, none⟩ = some (.bool na1) ∧ w'.cell? ⟨g2, 1, none⟩ = some (.slice Aa1 ka1 ca1) ∧ w'.cell? ⟨g2, 2, none⟩ = some (.bool na2) ∧ w'.cell? ⟨g2, 3, none⟩ = some (.slice Aa2 ka2 ca2) ∧ w'.cell? ⟨g3, 0, none⟩ = some (.bool nb1) ∧ w'.cell? ⟨g3, 1, none⟩ = some (.slice Ab1 kb1 cb1) ∧ w'.cell? ⟨g3, 2, none⟩ = some (.bool nb2) ∧ w'.cell? ⟨g3, 3, none⟩ = some (.slice Ab2 kb2 cb2) ∧ Hid (TwoI w na1 Aa1 ka1 ca1 na2 Aa2 ka2 ca2 nb1 Ab1 kb1 cb1 nb2 Ab2 kb2 cb2 q r g2 g3 w')) (first | exact (HI.out.below (below_drew (Below.refl _ _))).cells | exact (HQ.out.below hb).cells | exact (((((HQ.out.below hb).store BKr.out HG4.out HN2_4.out HN3_4.out 0 _).store (BKr.out.set_ 0 _) HG4.out HN2_4.out HN3_4.out 1 _).store ((BKr.out.set_ 0 _).set_ 1 _) HG4.out HN2_4.out HN3_4.out 2 _).store (((BKr.out.set_ 0 _).set_ 1 _).set_ 2 _) HG4.out HN2_4.out HN3_4.out 3 _).cells)
        (first | (go_at_call_of 142 Aa1; have HQ0 := ‹_ ∧ _ ∧ _ ∧ _ ∧ _ ∧ _ ∧ _ ∧ _ ∧ Hid (TwoI w na1 Aa1 ka1 ca1 na2 Aa2 ka2 ca2 nb1 Ab1 kb1 cb1 nb2 Ab2 kb2 cb2 q r g2 g3 _)›; have HQ := HQ0.2.2.2.2.2.2.2.2; clear HQ0; refine (p_mul _ _ q.num r.num _ HQ.out.2.2.2.1.num HQ.out.2.2.2.2.num (n := n) HP.out.1.1 HP.out.2.1.1 (by have := HP.out.2.2.1; omega)).mono ?_; rintro e u ⟨vm1, rfl, hv, hb⟩; have BKr' : Hid (Bx u g4 31 #[.bool false, .slice none 0 0, .bool false, .slice none 0 0]) := (by first | exact BKr.out.below hb | exact BKr.out.drew.below hb); clear BKr; have BKr := BKr'; clear BKr'; have cr0 := BKr.out.cell 0; have fr0 := BKr.out.frozen 0; have cr1 := BKr.out.cell 1; have fr1 := BKr.out.frozen 1; have cr2 := BKr.out.cell 2; have fr2 := BKr.out.frozen 2; have cr3 := BKr.out.cell 3; have fr3 := BKr.out.frozen 3; (try (replace HDa := Lib.hid (HDa.out.below hb))); (try (replace HDb := Lib.hid (HDb.out.below hb))); (try (replace HM2 := Lib.hid (HM2.out.below hb))); (try (replace HS := Lib.hid (HS.out.below hb))); (try (replace HM3 := Lib.hid (HM3.out.below hb))); have HM1 := Lib.hid hv; clear hv) | (go_at_call_of 33 Aa1; have HQ0 := ‹_ ∧ _ ∧ _ ∧ _ ∧ _ ∧ _ ∧ _ ∧ _ ∧ Hid (TwoI w na1 Aa1 ka1 ca1 na2 Aa2 ka2 ca2 nb1 Ab1 kb1 cb1 nb2 Ab2 kb2 cb2 q r g2 g3 _)›; have HQ := HQ0.2.2.2.2.2.2.2.2; clear HQ0; refine (p_den _ q _ HQ.out.2.2.2.1).mono ?_; rintro e u ⟨vda, rfl, hv, hb⟩; have BKr' : Hid (Bx u g4 31 #[.bool false, .slice none 0 0, .bool false, .slice none 0 0]) := (by first | exact BKr.out.below hb | exact BKr.out.drew.below hb); clear BKr; have BKr := BKr'; clear BKr'; have cr0 := BKr.out.cell 0; have fr0 := BKr.out.frozen 0; have cr1 := BKr.out.cell 1; have fr1 := BKr.out.frozen 1; have cr2 := BKr.out.cell 2; have fr2 := BKr.out.frozen 2; have cr3 := BKr.out.cell 3; have fr3 := BKr.out.frozen 3; (try (replace HDb := Lib.hid (HDb.out.below hb))); (try (replace HM1 := Lib.hid (HM1.out.below hb))); (try (replace HM2 := Lib.hid (HM2.out.below hb))); (try (replace HS := Lib.hid (HS.out.below hb))); (try (replace HM3 := Lib.hid (HM3.out.below hb))); have HDa := Lib.hid hv; clear hv) | (go_at_call_of 33 Ab1; have HQ0 := ‹_ ∧ _ ∧ _ ∧ _ ∧ _ ∧ _ ∧ _ ∧ _ ∧ Hid (TwoI w na1 Aa1 ka1 ca1 na2 Aa2 ka2 ca2 nb1 Ab1 kb1 cb1 nb2 Ab2 kb2 cb2 q r g2 g3 _)›; have HQ := HQ0.2.2.2.2.2.2.2.2; clear HQ0; refine (p_den _ r _ HQ.out.2.2.2.2).mono ?_; rintro e u ⟨vdb, rfl, hv, hb⟩; have BKr' : Hid (Bx u g4 31 #[.bool false, .slice none 0 0, .bool false, .slice none 0 0]) := (by first | exact BKr.out.below hb | exact BKr.out.drew.below hb); clear BKr; have BKr := BKr'; clear BKr'; have cr0 := BKr.out.cell 0; have fr0 := BKr.out.frozen 0; have cr1 := BKr.out.cell 1; have fr1 := BKr.out.frozen 1; have cr2 := BKr.out.cell 2; have fr2 := BKr.out.frozen 2; have cr3 := BKr.out.cell 3; have fr3 := BKr.out.frozen 3; (try (replace HDa := Lib.hid (HDa.out.below hb))); (try (replace HM1 := Lib.hid (HM1.out.below hb))); (try (replace HM2 := Lib.hid (HM2.out.below hb))); (try (replace HS := Lib.hid (HS.out.below hb))); (try (replace HM3 := Lib.hid (HM3.out.below hb))); have HDb := Lib.hid hv; clear hv) | (go_at_call 142; have HQ0 := ‹_ ∧ _ ∧ _ ∧ _ ∧ _ ∧ _ ∧ _ ∧ _ ∧ Hid (TwoI w na1 Aa1 ka1 ca1 na2 Aa2 ka2 ca2 nb1 Ab1 kb1 cb1 nb2 Ab2 kb2 cb2 q r g2 g3 _)›; have HQ := HQ0.2.2.2.2.2.2.2.2; clear HQ0; refine (p_mul _ _ q.den r.den _ HDa.out HDb.out (n := n) HP.out.1.2 HP.out.2.1.2 (by have := HP.out.2.2.1; omega)).mono ?_; rintro e u ⟨vm3, rfl, hv, hb⟩; have BKr' : Hid (Bx u g4 31 #[.bool false, .slice none 0 0, .bool false, .slice none 0 0]) := (by first | exact BKr.out.below hb | exact BKr.out.drew.below hb); clear BKr; have BKr := BKr'; clear BKr'; have cr0 := BKr.out.cell 0; have fr0 := BKr.out.frozen 0; have cr1 := BKr.out.cell 1; have fr1 := BKr.out.frozen 1; have cr2 := BKr.out.cell 2; have fr2 := BKr.out.frozen 2; have cr3 := BKr.out.cell 3; have fr3 := BKr.out.frozen 3; (try (replace HDa := Lib.hid (HDa.out.below hb))); (try (replace HDb := Lib.hid (HDb.out.below hb))); (try (replace HM1 := Lib.hid (HM1.out.below hb))); (try (replace HM2 := Lib.hid (HM2.out.below hb))); (try (replace HS := Lib.hid (HS.out.below hb))); have HM3 := Lib.hid hv; clear hv) | (go_at_call 125; have HQ0 := ‹_ ∧ _ ∧ _ ∧ _ ∧ _ ∧ _ ∧ _ ∧ _ ∧ Hid (TwoI w na1 Aa1 ka1 ca1 na2 Aa2 ka2 ca2 nb1 Ab1 kb1 cb1 nb2 Ab2 kb2 cb2 q r g2 g3 _)›; have HQ := HQ0.2.2.2.2.2.2.2.2; clear HQ0; refine (p_reduced _ _ _ _ _ HM1.out HM3.out (n := n + n) (Td_mul HP.out.1.1 HP.out.2.1.1) (Td_mul HP.out.1.2 HP.out.2.1.2) (Int.mul_ne_zero (den_ne q) (den_ne r)) (by have := HP.out.2.2.1; omega) (by have := HP.out.2.2.2; omega)).mono ?_; rintro e u ⟨vr, rfl, hv, hb⟩; have BKr' : Hid (Bx u g4 31 #[.bool false, .slice none 0 0, .bool false, .slice none 0 0]) := (by first | exact BKr.out.below hb | exact BKr.out.drew.below hb); clear BKr; have BKr := BKr'; clear BKr'; have cr0 := BKr.out.cell 0; have fr0 := BKr.out.frozen 0; have cr1 := BKr.out.cell 1; have fr1 := BKr.out.frozen 1; have cr2 := BKr.out.cell 2; have fr2 := BKr.out.frozen 2; have cr3 := BKr.out.cell 3; have fr3 := BKr.out.frozen 3; have HR := Lib.hid (hv.cast (mul_eq q r)); obtain ⟨nr1, Ar1, kr1, cr1, nr2, Ar2, kr2, cr2, rfl⟩ := hv.shape; clear hv)))
    | fail
    all_goals
      go_wp2_with fail
      refine bodyPost_ret (results_cell_row rfl _ _ g4 31 #[.bool nr1, .slice Ar1 kr1 cr1, .bool nr2, .slice Ar2 kr2 cr2] (0, 0) _ rfl (BKr.out.put4 _ _ _ _) Tryz.underlying31 rfl (by kernel_rfl)) rfl ?_
      have KP := BKr.out.kp4 (by decide) (.bool nr1) (.slice Ar1 kr1 cr1) (.bool nr2) (.slice Ar2 kr2 cr2)
      exact ⟨_, rfl, HR.out.kp KP, below_put4 ((HQ.out.below hb).2.2.1) HG4.out _ _ _ _⟩
end Go.Proofs.YtapckjeedekphaaGreatDoor

namespace Go.Proofs.YtapckjeedekphaaGreatDoor
open Go.RowKit Go.Proofs.YtapckjeedekphaaGreatDoorW.PrintWords PR
end Go.Proofs.YtapckjeedekphaaGreatDoor

namespace Go.Proofs.YtapckjeedekphaaGreatDoor
open Go.RowKit Go.Proofs.YtapckjeedekphaaGreatDoorW.PrintWords PR
end Go.Proofs.YtapckjeedekphaaGreatDoor


namespace Go.Proofs.YtapckjeedekphaaGreatDoor
open Go.RowKit Go.Proofs.YtapckjeedekphaaGreatDoorW.PrintWords PR
set_option maxHeartbeats 1600000 in
theorem p_qdiv0 (va vb : Value) (q r : Rat) (w : World) (ha : RR w va q) (hb : RR w vb r) (h0 : r = 0) : Calls Tryz.prog 58 #[va, vb] w (RetRE w 0 19) := by
  have e1 : (cmp r.num 0 == 0) = true := by rw [h0]; rfl
  clear h0
  have HA := Lib.hid ha
  have HC := Lib.hid hb
  obtain ⟨na1, Aa1, ka1, ca1, na2, Aa2, ka2, ca2, rfl⟩ := ha.shape
  obtain ⟨nb1, Ab1, kb1, cb1, nb2, Ab2, kb2, cb2, rfl⟩ := hb.shape
  clear ha hb
  have HB := Lib.hid (Below.refl w.heap.size w)
  go_enter Tryz.func58, Tryz.ntmps58
  go_wp2_with (first | ((with_reducible refine gate_dst (N := 2) rfl ?_); refine bx_event rfl (cs := #[.bool na1, .slice Aa1 ka1 ca1, .bool na2, .slice Aa2 ka2 ca2]) (t := 31) ?hr ?_; (case hr => first | (go_simp; done) | (go_simp; rfl)); intro g2 w2 hg bk hb; have HG2 := Lib.hid (Nat.le_trans HB.out.size hg); replace HB := Lib.hid (bth HB.out hb); replace HA := Lib.hid (HA.out.below hb); replace HC := Lib.hid (HC.out.below hb); have BK2 := Lib.hid bk; obtain ⟨c2_0, c2_1, c2_2, c2_3, f2_0, f2_1, f2_2, f2_3⟩ := BK2.out.all4; clear hb hg bk) | ((with_reducible refine gate_dst (N := 3) rfl ?_); refine bx_event rfl (cs := #[.bool nb1, .slice Ab1 kb1 cb1, .bool nb2, .slice Ab2 kb2 cb2]) (t := 31) ?hr ?_; (case hr => first | (go_simp; done) | (go_simp; rfl)); intro g3 w3 hg bk hb; have HG3 := Lib.hid (Nat.le_trans HB.out.size hg); replace HB := Lib.hid (bth HB.out hb); have HN2_3 := Lib.hid (Nat.ne_of_lt (Nat.lt_of_lt_of_le BK2.out.lt hg)); clear c2_0 c2_1 c2_2 c2_3 f2_0 f2_1 f2_2 f2_3; replace BK2 := Lib.hid (BK2.out.below hb); obtain ⟨c2_0, c2_1, c2_2, c2_3, f2_0, f2_1, f2_2, f2_3⟩ := BK2.out.all4; replace HA := Lib.hid (HA.out.below hb); replace HC := Lib.hid (HC.out.below hb); have BK3 := Lib.hid bk; obtain ⟨c3_0, c3_1, c3_2, c3_3, f3_0, f3_1, f3_2, f3_3⟩ := BK3.out.all4; clear hb hg bk) | ((with_reducible refine gate_dst (N := 4) rfl ?_); refine bx_event rfl (cs := #[.bool false, .slice none 0 0, .bool false, .slice none 0 0]) (t := 31) ?hr ?_; (case hr => first | (go_simp; done) | (go_simp; rfl)); intro g4 w4 hg bk hb; have HG4 := Lib.hid (Nat.le_trans HB.out.size hg); replace HB := Lib.hid (bth HB.out hb); have HN2_4 := Lib.hid (Nat.ne_of_lt (Nat.lt_of_lt_of_le BK2.out.lt hg)); have HN3_4 := Lib.hid (Nat.ne_of_lt (Nat.lt_of_lt_of_le BK3.out.lt hg)); clear c2_0 c2_1 c2_2 c2_3 f2_0 f2_1 f2_2 f2_3; replace BK2 := Lib.hid (BK2.out.below hb); obtain ⟨c2_0, c2_1, c2_2, c2_3, f2_0, f2_1, f2_2, f2_3⟩ := BK2.out.all4; clear c3_0 c3_1 c3_2 c3_3 f3_0 f3_1 f3_2 f3_3; replace BK3 := Lib.hid (BK3.out.below hb); obtain ⟨c3_0, c3_1, c3_2, c3_3, f3_0, f3_1, f3_2, f3_3⟩ := BK3.out.all4; replace HA := Lib.hid (HA.out.below hb); replace HC := Lib.hid (HC.out.below hb); have BK4 := Lib.hid bk; obtain ⟨c4_0, c4_1, c4_2, c4_3, f4_0, f4_1, f4_2, f4_3⟩ := BK4.out.all4; clear hb hg bk))
  refine (p_qsign _ r _ HC.out).mono ?_
  rintro e u1 ⟨rfl, hb⟩
  replace HB := Lib.hid (bth HB.out hb)
  clear c2_0 c2_1 c2_2 c2_3 f2_0 f2_1 f2_2 f2_3
  replace BK2 := Lib.hid (BK2.out.below hb)
  obtain ⟨c2_0, c2_1, c2_2, c2_3, f2_0, f2_1, f2_2, f2_3⟩ := BK2.out.all4
  clear c3_0 c3_1 c3_2 c3_3 f3_0 f3_1 f3_2 f3_3
  replace BK3 := Lib.hid (BK3.out.below hb)
  obtain ⟨c3_0, c3_1, c3_2, c3_3, f3_0, f3_1, f3_2, f3_3⟩ := BK3.out.all4
  clear c4_0 c4_1 c4_2 c4_3 f4_0 f4_1 f4_2 f4_3
  replace BK4 := Lib.hid (BK4.out.below hb)
  obtain ⟨c4_0, c4_1, c4_2, c4_3, f4_0, f4_1, f4_2, f4_3⟩ := BK4.out.all4
  replace HA := Lib.hid (HA.out.below hb)
  replace HC := Lib.hid (HC.out.below hb)
  clear hb
  go_wp2_with fail
  refine bodyPost_ret (results_cell1 rfl _ _ g4 31 #[.bool false, .slice none 0 0, .bool false, .slice none 0 0] (0, 0) _ rfl (BK4.out.put4 _ _ _ _) Tryz.underlying31 rfl (by kernel_rfl)) rfl ?_
  exact ⟨_, rfl, RR.zero _, below_put4 HB.out HG4.out _ _ _ _⟩
set_option maxHeartbeats 1600000 in
theorem p_qdivK (va vb : Value) (q r : Rat) (w : World) (ha : RR w va q) (hb : RR w vb r) {n : Nat} (hq : TQ n q) (hr : TQ n r) (hn : n ≤ 400000) (hn1 : 1 ≤ n) (h0 : r ≠ 0) : Calls Tryz.prog 58 #[va, vb] w (RetRE w (q / r) 0) := by
  have e1 : (cmp r.num 0 == 0) = false := by rw [cmp_zero]; exact decide_eq_false (num_ne h0)
  have H0 := Lib.hid (num_ne h0)
  have HP := Lib.hid (And.intro hq (And.intro hr (And.intro hn hn1)))
  clear hq hr hn hn1 h0
  have HA := Lib.hid ha
  have HC := Lib.hid hb
  obtain ⟨na1, Aa1, ka1, ca1, na2, Aa2, ka2, ca2, rfl⟩ := ha.shape
  obtain ⟨nb1, Ab1, kb1, cb1, nb2, Ab2, kb2, cb2, rfl⟩ := hb.shape
  clear ha hb
  have HB := Lib.hid (Below.refl w.heap.size w)
  go_enter Tryz.func58, Tryz.ntmps58
  go_wp2_with (first | ((with_reducible refine gate_dst (N := 2) rfl ?_); refine bx_event rfl (cs := #[.bool na1, .slice Aa1 ka1 ca1, .bool na2, .slice Aa2 ka2 ca2]) (t := 31) ?hr ?_; (case hr => first | (go_simp; done) | (go_simp; rfl)); intro g2 w2 hg bk hb; have HG2 := Lib.hid (Nat.le_trans HB.out.size hg); replace HB := Lib.hid (bth HB.out hb); replace HA := Lib.hid (HA.out.below hb); replace HC := Lib.hid (HC.out.below hb); have BK2 := Lib.hid bk; obtain ⟨c2_0, c2_1, c2_2, c2_3, f2_0, f2_1, f2_2, f2_3⟩ := BK2.out.all4; clear hb hg bk) | ((with_reducible refine gate_dst (N := 3) rfl ?_); refine bx_event rfl (cs := #[.bool nb1, .slice Ab1 kb1 cb1, .bool nb2, .slice Ab2 kb2 cb2]) (t := 31) ?hr ?_; (case hr => first | (go_simp; done) | (go_simp; rfl)); intro g3 w3 hg bk hb; have HG3 := Lib.hid (Nat.le_trans HB.out.size hg); replace HB := Lib.hid (bth HB.out hb); have HN2_3 := Lib.hid (Nat.ne_of_lt (Nat.lt_of_lt_of_le BK2.out.lt hg)); clear c2_0 c2_1 c2_2 c2_3 f2_0 f2_1 f2_2 f2_3; replace BK2 := Lib.hid (BK2.out.below hb); obtain ⟨c2_0, c2_1, c2_2, c2_3, f2_0, f2_1, f2_2, f2_3⟩ := BK2.out.all4; replace HA := Lib.hid (HA.out.below hb); replace HC := Lib.hid (HC.out.below hb); have BK3 := Lib.hid bk; obtain ⟨c3_0, c3_1, c3_2, c3_3, f3_0, f3_1, f3_2, f3_3⟩ := BK3.out.all4; clear hb hg bk) | ((with_reducible refine gate_dst (N := 4) rfl ?_); refine bx_event rfl (cs := #[.bool false, .slice none 0 0, .bool false, .slice none 0 0]) (t := 31) ?hr ?_; (case hr => first | (go_simp; done) | (go_simp; rfl)); intro g4 w4 hg bk hb; have HG4 := Lib.hid (Nat.le_trans HB.out.size hg); replace HB := Lib.hid (bth HB.out hb); have HN2_4 := Lib.hid (Nat.ne_of_lt (Nat.lt_of_lt_of_le BK2.out.lt hg)); have HN3_4 := Lib.hid (Nat.ne_of_lt (Nat.lt_of_lt_of_le BK3.out.lt hg)); clear c2_0 c2_1 c2_2 c2_3 f2_0 f2_1 f2_2 f2_3; replace BK2 := Lib.hid (BK2.out.below hb); obtain ⟨c2_0, c2_1, c2_2, c2_3, f2_0, f2_1, f2_2, f2_3⟩ := BK2.out.all4; clear c3_0 c3_1 c3_2 c3_3 f3_0 f3_1 f3_2 f3_3; replace BK3 := Lib.hid (BK3.out.below hb); obtain ⟨c3_0, c3_1, c3_2, c3_3, f3_0, f3_1, f3_2, f3_3⟩ := BK3.out.all4; replace HA := Lib.hid (HA.out.below hb); replace HC := Lib.hid (HC.out.below hb); have BK4 := Lib.hid bk; obtain ⟨c4_0, c4_1, c4_2, c4_3, f4_0, f4_1, f4_2, f4_3⟩ := BK4.out.all4; clear hb hg bk))
  refine (p_qsign _ r _ HC.out).mono ?_
  rintro e u1 ⟨rfl, hb⟩
  replace HB := Lib.hid (bth HB.out hb)
  clear c2_0 c2_1 c2_2 c2_3 f2_0 f2_1 f2_2 f2_3
  replace BK2 := Lib.hid (BK2.out.below hb)
  obtain ⟨c2_0, c2_1, c2_2, c2_3, f2_0, f2_1, f2_2, f2_3⟩ := BK2.out.all4
  clear c3_0 c3_1 c3_2 c3_3 f3_0 f3_1 f3_2 f3_3
  replace BK3 := Lib.hid (BK3.out.below hb)
  obtain ⟨c3_0, c3_1, c3_2, c3_3, f3_0, f3_1, f3_2, f3_3⟩ := BK3.out.all4
  clear c4_0 c4_1 c4_2 c4_3 f4_0 f4_1 f4_2 f4_3
  replace BK4 := Lib.hid (BK4.out.below hb)
  obtain ⟨c4_0, c4_1, c4_2, c4_3, f4_0, f4_1, f4_2, f4_3⟩ := BK4.out.all4
  replace HA := Lib.hid (HA.out.below hb)
  replace HC := Lib.hid (HC.out.below hb)
  clear hb
  go_wp2_with fail
  have HI : Hid (TwoI w na1 Aa1 ka1 ca1 na2 Aa2 ka2 ca2 nb1 Ab1 kb1 cb1 nb2 Ab2 kb2 cb2 q r g2 g3 u1) := ⟨BK2.out, BK3.out, HB.out, HA.out, HC.out⟩
  clear c2_0 c2_1 c2_2 c2_3 f2_0 f2_1 f2_2 f2_3 BK2
  clear c3_0 c3_1 c3_2 c3_3 f3_0 f3_1 f3_2 f3_3 BK3
  clear c4_0 c4_1 c4_2 c4_3 f4_0 f4_1 f4_2 f4_3
  clear HB HA HC
  have BKr := BK4
  clear BK4
  first
  | (go_region_held3 (fun w' => w'.cell? ⟨g2, 0, none⟩ = some (.bool na1) ∧ w'.cell? ⟨g2, 1, none⟩ = some (.slice Aa1 ka1 ca1) ∧ w'.cell? ⟨g2, 2, none⟩ = some (.bool na2) ∧ w'.cell? ⟨g2, 3, none⟩ = some (.slice Aa2 ka2 ca2) ∧ w'.cell? ⟨g3, 0, none⟩ = some (.bool nb1) ∧ w'.cell? ⟨g3, 1, none⟩ = some (.slice Ab1 kb1 cb1) ∧ w'.cell? ⟨g3, 2, none⟩ = some (.bool nb2) ∧ w'.cell? ⟨g3, 3, none⟩ = some (.slice Ab2 kb2 cb2) ∧ Hid (TwoI w na1 Aa1 ka1 ca1 na2 Aa2 ka2 ca2 nb1 Ab1 kb1 cb1 nb2 Ab2 kb2 cb2 q r g2 g3 w')) (first | exact (HI.out.below (below_drew (Below.refl _ _))).cells | exact (HQ.out.below hb).cells | exact (((((HQ.out.below hb).store BKr.out HG4.out HN2_4.out HN3_4.out 0 _).store (BKr.out.set_ 0 _) HG4.out HN2_4.out HN3_4.out 1 _).store ((BKr.out.set_ 0 _).set_ 1 _) HG4.out HN2_4.out HN3_4.out 2 _).store (((BKr.out.set_ 0 _).set_ 1 _).set_ 2 _) HG4.out HN2_4.out HN3_4.out 3 _).cells)
      (first | (go_at_call_of 33 Ab1; have HQ0 := ‹_ ∧ _ ∧ _ ∧ _ ∧ _ ∧ _ ∧ _ ∧ _ ∧ Hid (TwoI w na1 Aa1 ka1 ca1 na2 Aa2 ka2 ca2 nb1 Ab1 kb1 cb1 nb2 Ab2 kb2 cb2 q r g2 g3 _)›; have HQ := HQ0.2.2.2.2.2.2.2.2; clear HQ0; refine (p_den _ r _ HQ.out.2.2.2.2).mono ?_; rintro e u ⟨vdb, rfl, hv, hb⟩; have BKr' : Hid (Bx u g4 31 #[.bool false, .slice none 0 0, .bool false, .slice none 0 0]) := (by first | exact BKr.out.below hb | exact BKr.out.drew.below hb); clear BKr; have BKr := BKr'; clear BKr'; have cr0 := BKr.out.cell 0; have fr0 := BKr.out.frozen 0; have cr1 := BKr.out.cell 1; have fr1 := BKr.out.frozen 1; have cr2 := BKr.out.cell 2; have fr2 := BKr.out.frozen 2; have cr3 := BKr.out.cell 3; have fr3 := BKr.out.frozen 3; (try replace HDa := Lib.hid (HDa.out.below hb)); (try replace HM1 := Lib.hid (HM1.out.below hb)); (try replace HM2 := Lib.hid (HM2.out.below hb)); (try replace HS := Lib.hid (HS.out.below hb)); (try replace HM3 := Lib.hid (HM3.out.below hb)); have HDb := Lib.hid hv; clear hv) | (go_at_call_of 142 Aa1; have HQ0 := ‹_ ∧ _ ∧ _ ∧ _ ∧ _ ∧ _ ∧ _ ∧ _ ∧ Hid (TwoI w na1 Aa1 ka1 ca1 na2 Aa2 ka2 ca2 nb1 Ab1 kb1 cb1 nb2 Ab2 kb2 cb2 q r g2 g3 _)›; have HQ := HQ0.2.2.2.2.2.2.2.2; clear HQ0; refine (p_mul _ _ q.num r.den _ HQ.out.2.2.2.1.num HDb.out (n := n) HP.out.1.1 HP.out.2.1.2 (by have := HP.out.2.2.1; omega)).mono ?_; rintro e u ⟨vm1, rfl, hv, hb⟩; have BKr' : Hid (Bx u g4 31 #[.bool false, .slice none 0 0, .bool false, .slice none 0 0]) := (by first | exact BKr.out.below hb | exact BKr.out.drew.below hb); clear BKr; have BKr := BKr'; clear BKr'; have cr0 := BKr.out.cell 0; have fr0 := BKr.out.frozen 0; have cr1 := BKr.out.cell 1; have fr1 := BKr.out.frozen 1; have cr2 := BKr.out.cell 2; have fr2 := BKr.out.frozen 2; have cr3 := BKr.out.cell 3; have fr3 := BKr.out.frozen 3; (try replace HDa := Lib.hid (HDa.out.below hb)); (try replace HDb := Lib.hid (HDb.out.below hb)); (try replace HM2 := Lib.hid (HM2.out.below hb)); (try replace HS := Lib.hid (HS.out.below hb)); (try replace HM3 := Lib.hid (HM3.out.below hb)); have HM1 := Lib.hid hv; clear hv) | (go_at_call_of 33 Aa1; have HQ0 := ‹_ ∧ _ ∧ _ ∧ _ ∧ _ ∧ _ ∧ _ ∧ _ ∧ Hid (TwoI w na1 Aa1 ka1 ca1 na2 Aa2 ka2 ca2 nb1 Ab1 kb1 cb1 nb2 Ab2 kb2 cb2 q r g2 g3 _)›; have HQ := HQ0.2.2.2.2.2.2.2.2; clear HQ0; refine (p_den _ q _ HQ.out.2.2.2.1).mono ?_; rintro e u ⟨vda, rfl, hv, hb⟩; have BKr' : Hid (Bx u g4 31 #[.bool false, .slice none 0 0, .bool false, .slice none 0 0]) := (by first | exact BKr.out.below hb | exact BKr.out.drew.below hb); clear BKr; have BKr := BKr'; clear BKr'; have cr0 := BKr.out.cell 0; have fr0 := BKr.out.frozen 0; have cr1 := BKr.out.cell 1; have fr1 := BKr.out.frozen 1; have cr2 := BKr.out.cell 2; have fr2 := BKr.out.frozen 2; have cr3 := BKr.out.cell 3; have fr3 := BKr.out.frozen 3; (try replace HDb := Lib.hid (HDb.out.below hb)); (try replace HM1 := Lib.hid (HM1.out.below hb)); (try replace HM2 := Lib.hid (HM2.out.below hb)); (try replace HS := Lib.hid (HS.out.below hb)); (try replace HM3 := Lib.hid (HM3.out.below hb)); have HDa := Lib.hid hv; clear hv) | (go_at_call_of 142 Ab1; have HQ0 := ‹_ ∧ _ ∧ _ ∧ _ ∧ _ ∧ _ ∧ _ ∧ _ ∧ Hid (TwoI w na1 Aa1 ka1 ca1 na2 Aa2 ka2 ca2 nb1 Ab1 kb1 cb1 nb2 Ab2 kb2 cb2 q r g2 g3 _)›; have HQ := HQ0.2.2.2.2.2.2.2.2; clear HQ0; refine (p_mul _ _ q.den r.num _ HDa.out HQ.out.2.2.2.2.num (n := n) HP.out.1.2 HP.out.2.1.1 (by have := HP.out.2.2.1; omega)).mono ?_; rintro e u ⟨vm2, rfl, hv, hb⟩; have BKr' : Hid (Bx u g4 31 #[.bool false, .slice none 0 0, .bool false, .slice none 0 0]) := (by first | exact BKr.out.below hb | exact BKr.out.drew.below hb); clear BKr; have BKr := BKr'; clear BKr'; have cr0 := BKr.out.cell 0; have fr0 := BKr.out.frozen 0; have cr1 := BKr.out.cell 1; have fr1 := BKr.out.frozen 1; have cr2 := BKr.out.cell 2; have fr2 := BKr.out.frozen 2; have cr3 := BKr.out.cell 3; have fr3 := BKr.out.frozen 3; (try replace HDa := Lib.hid (HDa.out.below hb)); (try replace HDb := Lib.hid (HDb.out.below hb)); (try replace HM1 := Lib.hid (HM1.out.below hb)); (try replace HS := Lib.hid (HS.out.below hb)); (try replace HM3 := Lib.hid (HM3.out.below hb)); have HM2 := Lib.hid hv; clear hv) | (go_at_call 125; have HQ0 := ‹_ ∧ _ ∧ _ ∧ _ ∧ _ ∧ _ ∧ _ ∧ _ ∧ Hid (TwoI w na1 Aa1 ka1 ca1 na2 Aa2 ka2 ca2 nb1 Ab1 kb1 cb1 nb2 Ab2 kb2 cb2 q r g2 g3 _)›; have HQ := HQ0.2.2.2.2.2.2.2.2; clear HQ0; refine (p_reduced _ _ _ _ _ HM1.out HM2.out (n := n + n) (Td_mul HP.out.1.1 HP.out.2.1.2) (Td_mul HP.out.1.2 HP.out.2.1.1) (Int.mul_ne_zero (den_ne q) H0.out) (by have := HP.out.2.2.1; omega) (by have := HP.out.2.2.2; omega)).mono ?_; rintro e u ⟨vr, rfl, hv, hb⟩; have BKr' : Hid (Bx u g4 31 #[.bool false, .slice none 0 0, .bool false, .slice none 0 0]) := (by first | exact BKr.out.below hb | exact BKr.out.drew.below hb); clear BKr; have BKr := BKr'; clear BKr'; have cr0 := BKr.out.cell 0; have fr0 := BKr.out.frozen 0; have cr1 := BKr.out.cell 1; have fr1 := BKr.out.frozen 1; have cr2 := BKr.out.cell 2; have fr2 := BKr.out.frozen 2; have cr3 := BKr.out.cell 3; have fr3 := BKr.out.frozen 3; have HR := Lib.hid (hv.cast (div_eq q r)); obtain ⟨nr1, Ar1, kr1, cr1, nr2, Ar2, kr2, cr2, rfl⟩ := hv.shape; clear hv)))
  | fail
  all_goals
    go_wp2_with fail
    refine bodyPost_ret (results_cell1 rfl _ _ g4 31 #[.bool nr1, .slice Ar1 kr1 cr1, .bool nr2, .slice Ar2 kr2 cr2] (0, 0) _ rfl (BKr.out.put4 _ _ _ _) Tryz.underlying31 rfl (by kernel_rfl)) rfl ?_
    have KP := BKr.out.kp4 (by decide) (.bool nr1) (.slice Ar1 kr1 cr1) (.bool nr2) (.slice Ar2 kr2 cr2)
    exact ⟨_, rfl, HR.out.kp KP, below_put4 ((HQ.out.below hb).2.2.1) HG4.out _ _ _ _⟩
end Go.Proofs.YtapckjeedekphaaGreatDoor

