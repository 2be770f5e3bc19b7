/- A part of the proof: see YtgleaefhflamnaaDoorLawStepsNames. -/
import Derived.Test.YtgleaefhflamnaaDoorProg
import Derived.Below
import Derived.Deep.Draws
import Derived.Deep.AppendLies
import Derived.Maps.AppendAt
import Derived.OwnWalk
import Derived.Laws.BytesArg
import Derived.Laws.MakeOwn
import Derived.Laws.OwnMore
import Derived.Deep.OwnRows
import Derived.Tactics
import Derived.Lib.ConvBytes
import Derived.Laws.Slices
import Derived.WalkKit
import Derived.KernelRfl
import Derived.RowKit3
import Derived.Deep.LoopGhost
import Derived.Deep.QuietTactic
import Derived.BigQuiet
import Derived.WideLaws
import Derived.Deep.DeepCutAuto
import Derived.Deep.CutBlock
import Derived.Deep.RegionHeld3
import Derived.Laws.Rows
import Derived.Lib.AppendStr
import Derived.ArgAppend
import Derived.Laws.IdiomCopy
import Derived.OrdersHeld
import Derived.Laws.BitsLemmas
import Derived.RowKit
import Derived.Shelf.Strings.Fields
import Derived.Test.YtgleaefhflamnaaDoorZn0
set_option linter.unusedVariables false
set_option linter.unusedSimpArgs false
namespace Go.Proofs.YtgleaefhflamnaaDoor.U
open Go.RowKit Go.Proofs.YtgleaefhflamnaaDoorW.PrintWords Go.Proofs.YtgleaefhflamnaaDoorW.PrintLast Go.Proofs.YtgleaefhflamnaaDoorW.PrintMore
attribute [local go_sem] max2_int min2_int max_two min_two max_three min_three max_four min_four
set_option linter.unusedVariables false
set_option linter.unusedSimpArgs false
def errW : Option Int → Value
 | none => .nilIface
 | some c => .iface 0 (.int .i64 c)
theorem errW_none : errW none = .nilIface := rfl
theorem errW_some (c : Int) : errW (some c) = .iface 0 (.int .i64 c) := rfl
theorem info23 : (Tryd.prog.info? 23).map (fun i => (i.zero, i.size, i.bytes)) = some (some (.agg #[(.int .i64 0), (.bool false)]), 2, 16) := by kernel_rfl
theorem info32 : (Tryd.prog.info? 32).map (fun i => (i.zero, i.size, i.bytes)) = some (some (.agg #[(.int .i64 0), (.bool false)]), 2, 16) := by kernel_rfl
structure S23 where
 f0 : Int
 f1 : Bool
def z23 : S23 := ⟨(0 : Int), false⟩
def k23 : Kd S23 := Kd.iso (Kd.pair (Kd.int .i64) Kd.bool) (fun x : S23 => (x.f0, x.f1))
theorem k23_open {w : World} {x : S23} {cs : List Value} (h : k23.K w x cs) : cs = [.int .i64 x.f0, .bool x.f1] := by
 obtain ⟨_, _, rfl, rfl, rfl⟩ := h
 exact rfl
theorem k23_mkM (w : World) (base : Nat) (ok : Nat → Prop) (x : S23)  : k23.M w base ok x [.int .i64 x.f0, .bool x.f1] := ⟨[.int .i64 x.f0], [.bool x.f1], rfl, rfl, rfl⟩
def rd_T23 (xs : List S23) (i : Int) : S23 := xs.getD i.toNat z23
theorem at_T23 {w : World} {A : Option Addr} {n : Nat} {xs : List S23} (h : Kd.C k23 w A n xs) (i : Int) (h0 : 0 ≤ i) (h1 : i < n) : ∃ ad , A = some ad ∧ w.cell? (ad.add (i.toNat * 2)) = some (.int .i64 (rd_T23 xs i).f0) ∧ w.cell? ⟨(ad.add (i.toNat * 2)).block, (ad.add (i.toNat * 2)).off + 1, none⟩ = some (.bool (rd_T23 xs i).f1) := by
 obtain ⟨ad, c, e, _, hK, hc0⟩ := Kd.C_get h z23 i h0 h1
 have hc : ∀ j u, c[j]? = some u → w.cell? (ad.add (i.toNat * 2 + j)) = some u := hc0
 obtain rfl := k23_open hK
 exact ⟨ad, e, hc 0 _ rfl, by rw [← add_field _ _ 1 (by omega)]; exact hc 1 _ rfl⟩
structure S32 where
 f0 : Int
 f1 : Bool
def z32 : S32 := ⟨(0 : Int), false⟩
def k32 : Kd S32 := Kd.iso (Kd.pair (Kd.int .i64) Kd.bool) (fun x : S32 => (x.f0, x.f1))
theorem k32_open {w : World} {x : S32} {cs : List Value} (h : k32.K w x cs) : cs = [.int .i64 x.f0, .bool x.f1] := by
 obtain ⟨_, _, rfl, rfl, rfl⟩ := h
 exact rfl
theorem k32_mkM (w : World) (base : Nat) (ok : Nat → Prop) (x : S32)  : k32.M w base ok x [.int .i64 x.f0, .bool x.f1] := ⟨[.int .i64 x.f0], [.bool x.f1], rfl, rfl, rfl⟩
def rd_T32 (xs : List S32) (i : Int) : S32 := xs.getD i.toNat z32
theorem at_T32 {w : World} {A : Option Addr} {n : Nat} {xs : List S32} (h : Kd.C k32 w A n xs) (i : Int) (h0 : 0 ≤ i) (h1 : i < n) : ∃ ad , A = some ad ∧ w.cell? (ad.add (i.toNat * 2)) = some (.int .i64 (rd_T32 xs i).f0) ∧ w.cell? ⟨(ad.add (i.toNat * 2)).block, (ad.add (i.toNat * 2)).off + 1, none⟩ = some (.bool (rd_T32 xs i).f1) := by
 obtain ⟨ad, c, e, _, hK, hc0⟩ := Kd.C_get h z32 i h0 h1
 have hc : ∀ j u, c[j]? = some u → w.cell? (ad.add (i.toNat * 2 + j)) = some u := hc0
 obtain rfl := k32_open hK
 exact ⟨ad, e, hc 0 _ rfl, by rw [← add_field _ _ 1 (by omega)]; exact hc 1 _ rfl⟩
end Go.Proofs.YtgleaefhflamnaaDoor.U
namespace Go.Proofs.YtgleaefhflamnaaDoor.U
open Go.RowKit Go.Proofs.YtgleaefhflamnaaDoorW.PrintWords Go.Proofs.YtgleaefhflamnaaDoorW.PrintLast Go.Proofs.YtgleaefhflamnaaDoorW.PrintMore
attribute [local go_sem] max2_int min2_int max_two min_two max_three min_three max_four min_four
set_option linter.unusedVariables false
set_option linter.unusedSimpArgs false
theorem eqA32 (d : Nat) (w : World) (x0 y0 : Int) (x1 y1 : Bool) :
  (Op.equalIn (d + 2) 32 (.agg #[.int .i64 x0, .bool x1]) (.agg #[.int .i64 y0, .bool y1])).run Tryd.prog w = .ok (x0 == y0 && (x1 == y1)) w := by
 refine eqA_of Tryd.underlying32 (by kernel_rfl) ?_
 refine eqf_cons (by rfl) (by go_simp; rfl) (by go_simp; rfl) (by go_simp) ?_
 exact eqf_last (by rfl) (by go_simp; rfl) (by go_simp; rfl) (by go_simp)
end Go.Proofs.YtgleaefhflamnaaDoor.U
namespace Go.Proofs
open Go.Shelf
def Tryd.lays157_ren : Go.Shelf.Ren := ⟨fun | 157 => 21 | 229 => 28 | 199 => 29 | 261 => 43 | 311 => 45 | 312 => 46 | n => n, fun | 9 => 9 | 31 => 53 | 3 => 3 | 5 => 5 | 4 => 4 | 119 => 68 | 0 => 0 | 40 => 70 | 152 => 83 | 21 => 21 | 154 => 85 | 51 => 86 | 141 => 88 | 196 => 95 | 193 => 92 | 198 => 98 | 49 => 96 | 194 => 93 | 201 => 101 | 226 => 107 | 46 => 108 | 227 => 109 | n => n, fun | 0 => 0 | 6 => 1 | n => n⟩
theorem Tryd.lays157 : Go.Proofs.Lays.n157 Tryd.prog Tryd.lays157_ren := {
 mixed := by kernel_rfl
 f157 := Tryd.func21.trans (congrArg some (by kernel_rfl))
 f199 := Tryd.func29.trans (congrArg some (by kernel_rfl))
 f229 := Tryd.func28.trans (congrArg some (by kernel_rfl))
 f261 := Tryd.func43.trans (congrArg some (by kernel_rfl))
 f311 := Tryd.func45.trans (congrArg some (by kernel_rfl))
 f312 := Tryd.func46.trans (congrArg some (by kernel_rfl))
 t0 := Tryd.underlying0
 a0 := Tryd.isAgg0
 z0 := Tryd.sizeOf0
 v0 := Tryd.zeroValue0
 t3 := Tryd.underlying3
 a3 := Tryd.isAgg3
 z3 := Tryd.sizeOf3
 v3 := Tryd.zeroValue3
 t4 := Tryd.underlying4
 a4 := Tryd.isAgg4
 z4 := Tryd.sizeOf4
 v4 := Tryd.zeroValue4
 t5 := Tryd.underlying5
 a5 := Tryd.isAgg5
 z5 := Tryd.sizeOf5
 v5 := Tryd.zeroValue5
 t9 := Tryd.underlying9
 a9 := Tryd.isAgg9
 z9 := Tryd.sizeOf9
 v9 := Tryd.zeroValue9
 t21 := Tryd.underlying21
 a21 := Tryd.isAgg21
 z21 := Tryd.sizeOf21
 v21 := Tryd.zeroValue21
 t31 := Tryd.underlying53
 a31 := Tryd.isAgg53
 z31 := Tryd.sizeOf53
 v31 := Tryd.zeroValue53
 t40 := Tryd.underlying70
 a40 := Tryd.isAgg70
 z40 := Tryd.sizeOf70
 v40 := Tryd.zeroValue70
 t46 := Tryd.underlying108
 a46 := Tryd.isAgg108
 z46 := Tryd.sizeOf108
 v46 := Tryd.zeroValue108
 t49 := Tryd.underlying96
 a49 := Tryd.isAgg96
 z49 := Tryd.sizeOf96
 v49 := Tryd.zeroValue96
 t51 := Tryd.underlying86
 a51 := Tryd.isAgg86
 z51 := Tryd.sizeOf86
 v51 := Tryd.zeroValue86
 t119 := Tryd.underlying68
 a119 := Tryd.isAgg68
 z119 := Tryd.sizeOf68
 t141 := Tryd.underlying88
 a141 := Tryd.isAgg88
 z141 := Tryd.sizeOf88
 v141 := Tryd.zeroValue88
 t152 := Tryd.underlying83
 a152 := Tryd.isAgg83
 z152 := Tryd.sizeOf83
 v152 := Tryd.zeroValue83
 t154 := Tryd.underlying85
 a154 := Tryd.isAgg85
 z154 := Tryd.sizeOf85
 v154 := Tryd.zeroValue85
 t193 := Tryd.underlying92
 a193 := Tryd.isAgg92
 z193 := Tryd.sizeOf92
 v193 := Tryd.zeroValue92
 t194 := Tryd.underlying93
 a194 := Tryd.isAgg93
 z194 := Tryd.sizeOf93
 v194 := Tryd.zeroValue93
 t196 := Tryd.underlying95
 a196 := Tryd.isAgg95
 z196 := Tryd.sizeOf95
 v196 := Tryd.zeroValue95
 t198 := Tryd.underlying98
 a198 := Tryd.isAgg98
 z198 := Tryd.sizeOf98
 v198 := Tryd.zeroValue98
 t201 := Tryd.underlying101
 a201 := Tryd.isAgg101
 z201 := Tryd.sizeOf101
 v201 := Tryd.zeroValue101
 t226 := Tryd.underlying107
 a226 := Tryd.isAgg107
 z226 := Tryd.sizeOf107
 v226 := Tryd.zeroValue107
 t227 := Tryd.underlying109
 a227 := Tryd.isAgg109
 z227 := Tryd.sizeOf109
 v227 := Tryd.zeroValue109
 g0 := by kernel_rfl
 g6 := by kernel_rfl }
open Go.RowKit Go.Lib in
theorem Tryd.strings_Fields (s : ByteArray) (w : World) (hs : s.size < 4294967281) (hascii : ∀ (j : Nat) b, s.data.toList[j]? = some b → b.toNat < 128) (htab : Lib.TabIs Tryd.prog w "strings.asciiSpace" .u8 Lib.asciiSpaceTab) :
  Calls Tryd.prog 21 #[.string s] w fun e w' =>
   e = .returned (.slice (some ⟨w.heap.size, 0, none⟩) (Lib.fields s.data.toList).length (Lib.fields s.data.toList).length) ∧ w' = w.alloc (.cells ((Lib.fields s.data.toList).map fun l => Value.string ⟨l.toArray⟩).toArray 9) := Any.strings_Fields Tryd.lays157 (by kernel_rfl) (by kernel_rfl) s w hs hascii htab
end Go.Proofs
