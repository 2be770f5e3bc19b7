/- A part of the proof: see YtaabbaemfnecgaaGreatLawSeqNexts. -/
import Derived.Test.YtaabbaemfnecgaaGreatProg
import Derived.Below
import Derived.Deep.Draws
import Derived.Deep.AppendLies
import Derived.Maps.AppendAt
import Derived.OwnWalk
import Derived.Laws.BytesArg
import Derived.Laws.MakeOwn
import Derived.Laws.OwnMore
import Derived.Deep.OwnRows
import Derived.Tactics
import Derived.Lib.ConvBytes
import Derived.Laws.Slices
import Derived.WalkKit
import Derived.KernelRfl
import Derived.RowKit3
import Derived.Deep.LoopGhost
import Derived.Deep.QuietTactic
import Derived.BigQuiet
import Derived.WideLaws
import Derived.Deep.DeepCutAuto
import Derived.Deep.CutBlock
import Derived.Deep.RegionHeld3
import Derived.Laws.Rows
import Derived.Lib.AppendStr
import Derived.ArgAppend
import Derived.Laws.IdiomCopy
import Derived.OrdersHeld
import Derived.Laws.BitsLemmas
import Derived.RowKit
import Derived.Deep.SlicePairs
import Derived.OpenShut
import Derived.WideShapes
import Derived.Test.YtaabbaemfnecgaaGreatC0
set_option linter.unusedVariables false
set_option linter.unusedSimpArgs false
set_option maxHeartbeats 32000000
set_option maxRecDepth 100000
namespace Go.Proofs.YtaabbaemfnecgaaGreat.T
open Go.RowKit Go.Proofs.YtaabbaemfnecgaaGreatW.PrintWords Go.Proofs.YtaabbaemfnecgaaGreatW.PrintLast Go.Proofs.YtaabbaemfnecgaaGreatW.PrintMore
attribute [local go_sem] Tryz.underlying49 Tryz.underlying60 Tryz.underlying69
section
section
variable {P : Program} {md : Region.Mode} {ops : Array Oper} {Q : Exit → Act → World → Prop} {S : World → Prop} {ds : List Nat}
theorem pu (i : Nat) (d : Tmp) {oi : Oper} {v : Value} {fuel : Nat} {l : Array Bool} {a a' : Act} {w : World}
    (h : wpAnyLast P md ops Q S ds fuel (l.setIfInBounds i true) a' w)
    (hi : ops[i]? = some oi := by rfl) (hN : oi.dst = some d := by rfl) (hc : anyB md ops l (l.setIfInBounds i true) i = true := by kernel_rfl)
    (hw : Region.wanted oi (yielded ops a.tmps) = true := by rfl)
    (hy : ∀ w', (execOp a.eval oi).run P w' = .ok (.value v) w' := by intro w'; go_simp; with_reducible rfl)
    (hQ : ∀ c a w, Q (.panic c) (a.put oi.dst v) w → Q (.panic c) a w := by exact fun _ _ _ h => h)
    (ha : a.put (some d) v = a' := by simp only [Act.put, List.setIfInBounds_toArray, List.set_cons_zero, List.set_cons_succ, i64_w, i32_w]; rfl) :
    wpAnyLast P md ops Q S ds (fuel + 1) l a w := pure_ (l.setIfInBounds i true) hi hN hc hQ (Or.inl ⟨hw, hy⟩) ha h
theorem ta (i : Nat) (d : Tmp) {oi : Oper} {v : Value} {fuel : Nat} {l : Array Bool} {a a' : Act} {w : World} (hS : S w)
    (h : wpAnyLast P md ops Q S ds fuel (l.setIfInBounds i true) a' w)
    (hi : ops[i]? = some oi := by rfl) (hN : oi.dst = some d := by rfl) (hc : takeB md ops ds l (l.setIfInBounds i true) i = true := by kernel_rfl)
    (hw : Region.wanted oi (yielded ops a.tmps) = true := by rfl)
    (hy : ∀ w', S w' → (execOp a.eval oi).run P w' = .ok (.value v) w' := by intro w' hs; (try dsimp only at hs); go_simp; with_reducible rfl)
    (hQ : ∀ c a w, Q (.panic c) (a.put oi.dst v) w → Q (.panic c) a w := by exact fun _ _ _ h => h)
    (ha : a.put (some d) v = a' := by simp only [Act.put, List.setIfInBounds_toArray, List.set_cons_zero, List.set_cons_succ, i64_w, i32_w]; rfl) :
    wpAnyLast P md ops Q S ds (fuel + 1) l a w := take_ (l.setIfInBounds i true) hi hN hc hQ (Or.inl ⟨hw, hy⟩) hS ha h
theorem po (i : Nat) (d : Tmp) {oi : Oper} {fuel : Nat} {l : Array Bool} {a a' : Act} {w : World}
    (h : wpAnyLast P md ops Q S ds fuel (l.setIfInBounds i true) a' w)
    (hi : ops[i]? = some oi := by rfl) (hN : oi.dst = some d := by rfl) (hc : anyB md ops l (l.setIfInBounds i true) i = true := by kernel_rfl)
    (hw : Region.wanted oi (yielded ops a.tmps) = false := by rfl)
    (hQ : ∀ c a w, Q (.panic c) (a.put oi.dst undef) w → Q (.panic c) a w := by exact fun _ _ _ h => h)
    (ha : a.put (some d) undef = a' := by simp only [Act.put, List.setIfInBounds_toArray, List.set_cons_zero, List.set_cons_succ]; rfl) :
    wpAnyLast P md ops Q S ds (fuel + 1) l a w := pure_ (l.setIfInBounds i true) hi hN hc hQ (Or.inr ⟨hw, rfl⟩) ha h
end
theorem sZ {α : Type} (x y : α) (l : List α) : (x :: l).set 0 y = y :: l := rfl
theorem sS {α : Type} (x y : α) (l : List α) (n : Nat) : (x :: l).set (n + 1) y = x :: l.set n y := rfl
theorem sI {α : Type} (l : List α) (i : Nat) (x : α) : l.toArray.setIfInBounds i x = (l.set i x).toArray := List.setIfInBounds_toArray ..
theorem blt (w : World) (a : Addr) {v : Value} (h : w.cell? a = some v) : a.block < w.heap.size := World.block_lt_of_cell? w a h
theorem Am {p : Prop} (h : p) : Aside0 p := ⟨h⟩
theorem ba {w W : World} (h : Below w.heap.size w W) (o : Obj) : Below w.heap.size w (W.alloc o) := below_alloc h o
theorem bn {B : Nat} {w W : World} (h : Below B w W) (n : Nat) : Below B w (W.drewN n) := pw_below_drewN h n
theorem bd {base : Nat} {w W : World} (h : Below base w W) : Below base w W.drew := below_drew1 h
attribute [local go_sem] max2_int min2_int max_two min_two max_three min_three max_four min_four
def errW : Option Int → Value
 | none => .nilIface
 | some c => .iface 0 (.int .i64 c)
theorem errW_none : errW none = .nilIface := rfl
theorem errW_some (c : Int) : errW (some c) = .iface 0 (.int .i64 c) := rfl
theorem info3 : (Tryz.prog.info? 3).map (fun i => (i.zero, i.size, i.bytes)) = some (some (.int .i64 0), 1, 8) := by kernel_rfl
theorem info4 : (Tryz.prog.info? 4).map (fun i => (i.zero, i.size, i.bytes)) = some (some (.bool false), 1, 1) := by kernel_rfl
theorem info69 : (Tryz.prog.info? 69).map (fun i => (i.zero, i.size, i.bytes)) = some (some (.agg #[(.int .i64 0), (.int .i64 0), (.int .i64 0), (.int .i64 0), (.int .i64 0), (.int .i64 0)]), 6, 48) := by kernel_rfl
theorem info71 : (Tryz.prog.info? 71).map (fun i => (i.zero, i.size, i.bytes)) = some (some (.agg #[(.int .i64 0), (.int .i64 0)]), 2, 16) := by kernel_rfl
structure S69 where
 f0 : Int
 f1 : Int
 f2 : Int
 f3 : Int
 f4 : Int
 f5 : Int
def z69 : S69 := ⟨(0 : Int), (0 : Int), (0 : Int), (0 : Int), (0 : Int), (0 : Int)⟩
def k69 : Kd S69 := Kd.iso (Kd.pair (Kd.int .i64) (Kd.pair (Kd.int .i64) (Kd.pair (Kd.int .i64) (Kd.pair (Kd.int .i64) (Kd.pair (Kd.int .i64) (Kd.int .i64)))))) (fun x : S69 => (x.f0, x.f1, x.f2, x.f3, x.f4, x.f5))
theorem k69_open {w : World} {x : S69} {cs : List Value} (h : k69.K w x cs) : cs = [.int .i64 x.f0, .int .i64 x.f1, .int .i64 x.f2, .int .i64 x.f3, .int .i64 x.f4, .int .i64 x.f5] := by
 obtain ⟨_, _, rfl, rfl, ⟨_, _, rfl, rfl, ⟨_, _, rfl, rfl, ⟨_, _, rfl, rfl, ⟨_, _, rfl, rfl, rfl⟩⟩⟩⟩⟩ := h
 exact rfl
theorem k69_openM {w : World} {base : Nat} {ok : Nat → Prop} {x : S69} {cs : List Value} (h : k69.M w base ok x cs) : cs = [.int .i64 x.f0, .int .i64 x.f1, .int .i64 x.f2, .int .i64 x.f3, .int .i64 x.f4, .int .i64 x.f5] := by
 obtain ⟨_, _, rfl, rfl, ⟨_, _, rfl, rfl, ⟨_, _, rfl, rfl, ⟨_, _, rfl, rfl, ⟨_, _, rfl, rfl, rfl⟩⟩⟩⟩⟩ := h
 exact rfl
theorem k69_mk (w : World) (x : S69)  : k69.K w x [.int .i64 x.f0, .int .i64 x.f1, .int .i64 x.f2, .int .i64 x.f3, .int .i64 x.f4, .int .i64 x.f5] := ⟨[.int .i64 x.f0], [.int .i64 x.f1, .int .i64 x.f2, .int .i64 x.f3, .int .i64 x.f4, .int .i64 x.f5], rfl, rfl, ⟨[.int .i64 x.f1], [.int .i64 x.f2, .int .i64 x.f3, .int .i64 x.f4, .int .i64 x.f5], rfl, rfl, ⟨[.int .i64 x.f2], [.int .i64 x.f3, .int .i64 x.f4, .int .i64 x.f5], rfl, rfl, ⟨[.int .i64 x.f3], [.int .i64 x.f4, .int .i64 x.f5], rfl, rfl, ⟨[.int .i64 x.f4], [.int .i64 x.f5], rfl, rfl, rfl⟩⟩⟩⟩⟩
theorem k69_mkM (w : World) (base : Nat) (ok : Nat → Prop) (x : S69)  : k69.M w base ok x [.int .i64 x.f0, .int .i64 x.f1, .int .i64 x.f2, .int .i64 x.f3, .int .i64 x.f4, .int .i64 x.f5] := ⟨[.int .i64 x.f0], [.int .i64 x.f1, .int .i64 x.f2, .int .i64 x.f3, .int .i64 x.f4, .int .i64 x.f5], rfl, rfl, ⟨[.int .i64 x.f1], [.int .i64 x.f2, .int .i64 x.f3, .int .i64 x.f4, .int .i64 x.f5], rfl, rfl, ⟨[.int .i64 x.f2], [.int .i64 x.f3, .int .i64 x.f4, .int .i64 x.f5], rfl, rfl, ⟨[.int .i64 x.f3], [.int .i64 x.f4, .int .i64 x.f5], rfl, rfl, ⟨[.int .i64 x.f4], [.int .i64 x.f5], rfl, rfl, rfl⟩⟩⟩⟩⟩
def rd_T69 (xs : List S69) (i : Int) : S69 := xs.getD i.toNat z69
theorem at_T69 {w : World} {A : Option Addr} {n : Nat} {xs : List S69} (h : Kd.C k69 w A n xs) (i : Int) (h0 : 0 ≤ i) (h1 : i < n) : ∃ ad , A = some ad ∧ w.cell? (ad.add (i.toNat * 6)) = some (.int .i64 (rd_T69 xs i).f0) ∧ w.cell? ⟨(ad.add (i.toNat * 6)).block, (ad.add (i.toNat * 6)).off + 1, none⟩ = some (.int .i64 (rd_T69 xs i).f1) ∧ w.cell? ⟨(ad.add (i.toNat * 6)).block, (ad.add (i.toNat * 6)).off + 2, none⟩ = some (.int .i64 (rd_T69 xs i).f2) ∧ w.cell? ⟨(ad.add (i.toNat * 6)).block, (ad.add (i.toNat * 6)).off + 3, none⟩ = some (.int .i64 (rd_T69 xs i).f3) ∧ w.cell? ⟨(ad.add (i.toNat * 6)).block, (ad.add (i.toNat * 6)).off + 4, none⟩ = some (.int .i64 (rd_T69 xs i).f4) ∧ w.cell? ⟨(ad.add (i.toNat * 6)).block, (ad.add (i.toNat * 6)).off + 5, none⟩ = some (.int .i64 (rd_T69 xs i).f5) := by
 obtain ⟨ad, c, e, _, hK, hc0⟩ := Kd.C_get h z69 i h0 h1
 have hc : ∀ j u, c[j]? = some u → w.cell? (ad.add (i.toNat * 6 + j)) = some u := hc0
 obtain rfl := k69_open hK
 exact ⟨ad, e, hc 0 _ rfl, by rw [← add_field _ _ 1 (by omega)]; exact hc 1 _ rfl, by rw [← add_field _ _ 2 (by omega)]; exact hc 2 _ rfl, by rw [← add_field _ _ 3 (by omega)]; exact hc 3 _ rfl, by rw [← add_field _ _ 4 (by omega)]; exact hc 4 _ rfl, by rw [← add_field _ _ 5 (by omega)]; exact hc 5 _ rfl⟩
structure S71 where
 f0 : Int
 f1 : Int
def z71 : S71 := ⟨(0 : Int), (0 : Int)⟩
def k71 : Kd S71 := Kd.iso (Kd.pair (Kd.int .i64) (Kd.int .i64)) (fun x : S71 => (x.f0, x.f1))
theorem k71_open {w : World} {x : S71} {cs : List Value} (h : k71.K w x cs) : cs = [.int .i64 x.f0, .int .i64 x.f1] := by
 obtain ⟨_, _, rfl, rfl, rfl⟩ := h
 exact rfl
theorem k71_mk (w : World) (x : S71)  : k71.K w x [.int .i64 x.f0, .int .i64 x.f1] := ⟨[.int .i64 x.f0], [.int .i64 x.f1], rfl, rfl, rfl⟩
theorem k71_mkM (w : World) (base : Nat) (ok : Nat → Prop) (x : S71)  : k71.M w base ok x [.int .i64 x.f0, .int .i64 x.f1] := ⟨[.int .i64 x.f0], [.int .i64 x.f1], rfl, rfl, rfl⟩
def rd_T71 (xs : List S71) (i : Int) : S71 := xs.getD i.toNat z71
theorem at_T71 {w : World} {A : Option Addr} {n : Nat} {xs : List S71} (h : Kd.C k71 w A n xs) (i : Int) (h0 : 0 ≤ i) (h1 : i < n) : ∃ ad , A = some ad ∧ w.cell? (ad.add (i.toNat * 2)) = some (.int .i64 (rd_T71 xs i).f0) ∧ w.cell? ⟨(ad.add (i.toNat * 2)).block, (ad.add (i.toNat * 2)).off + 1, none⟩ = some (.int .i64 (rd_T71 xs i).f1) := by
 obtain ⟨ad, c, e, _, hK, hc0⟩ := Kd.C_get h z71 i h0 h1
 have hc : ∀ j u, c[j]? = some u → w.cell? (ad.add (i.toNat * 2 + j)) = some u := hc0
 obtain rfl := k71_open hK
 exact ⟨ad, e, hc 0 _ rfl, by rw [← add_field _ _ 1 (by omega)]; exact hc 1 _ rfl⟩
structure S175 where
 f0 : (List S69)
 f1 : (List Int)
 f2 : Bool
structure S49 where
 f0 : Int
 f1 : Bool
structure S45 where
 f0 : Int
 f1 : Int
 f2 : Bool
theorem bq {p : Prop} (h : p := by repeat (first | (with_reducible first | exact HB.out | apply below_alloc | apply pw_below_drewN | apply below_drew1) | exact HB.out)) : p := h
theorem bst {w W : World} {g j : Nat} {v : Value} (h : Below w.heap.size w W) (hg : Aside0 (w.heap.size ≤ g)) : Below w.heap.size w (W.setCell ⟨g, j, none⟩ v) := below_set h hg.out
theorem bs {p : Prop} (h : p := by repeat (first | (with_reducible first | exact HB.out | apply below_alloc | apply pw_below_drewN | apply below_drew1 | refine bst ?_ (by assumption)) | exact HB.out)) : p := h
theorem bz {w W : World} {g : Nat} (hg : g = W.heap.size) (h : Below w.heap.size w W := by repeat (first | (with_reducible first | exact HB.out | apply below_alloc | apply pw_below_drewN | apply below_drew1) | exact HB.out)) : w.heap.size ≤ g := hg ▸ h.size
theorem bz' {w W : World} {g : Nat} (hg : g = W.heap.size) (h : Below w.heap.size w W := by repeat (first | (with_reducible first | exact HB.out | apply below_alloc | apply pw_below_drewN | apply below_drew1 | refine bst ?_ (by assumption)) | exact HB.out)) : w.heap.size ≤ g := hg ▸ h.size
theorem er {p : Prop} (h : p := by first | rfl | (simp [errW_none, errW_some] <;> rfl) | (simp [*, errW_none, errW_some] <;> rfl)) : p := h
theorem da {p : Prop} [Decidable p] (h : decide p = true := by first | (with_reducible assumption) | assumption) : p := of_decide_eq_true h
theorem kc {α : Type} {d : Kd α} {w W : World} {xs : List α} {A : Option Addr} {n : Nat} (h : d.C w A n xs) (st : Below w.heap.size w W := by repeat (first | (with_reducible first | exact Below.refl _ _ | apply below_alloc | apply pw_below_drewN | apply below_drew1) | exact Below.refl _ _)) : d.C W A n xs := Kd.C_below h st
theorem kr {α : Type} {d : Kd α} {e base : Nat} {w W : World} {xs : List α} {ok : Nat → Prop} {v : Value} (h : d.R e w base ok v xs) (st : Below w.heap.size w W := by repeat (first | (with_reducible first | exact Below.refl _ _ | apply below_alloc | apply pw_below_drewN | apply below_drew1) | exact Below.refl _ _)) : d.R e W base ok v xs := Kd.R_below h st
theorem bk {w W : World} {g : Nat} {o : Obj} (h : w.heap[g]? = some o) (st : Below w.heap.size w W := by repeat (first | (with_reducible first | exact Below.refl _ _ | apply below_alloc | apply pw_below_drewN | apply below_drew1) | exact Below.refl _ _)) : W.heap[g]? = some o := blk_below h st
theorem ar {p : Prop} (h : p := by (try simp only [List.map_toArray, List.map_cons, List.map_nil]); first | done | rfl | (simp only [List.length_drop, List.length_take]; rfl)) : p := h
section
variable {P : Program} {ops : Array Oper} {Q : Exit → Act → World → Prop} {rest : List Oper} {o : Oper} {a : Act} {w : World}
theorem gL (N : Tmp) {f : FuncId} {fn : Func} {as_ : Array Operand} {ts : Array TypeId} (hf : P.funcs[f]? = some fn) (args : Array Value)
    (h : Calls P f args w fun e w' => ∃ v, e = .returned v ∧ wpList P ops Q rest (a.put (some N) v) w')
    (hop : o.op = .call { callee := .value (.func f), args := as_, argTypes := ts } := by with_reducible rfl)
    (hd : o.dst = some N := by rfl) (hg : o.guard = none := by rfl) (hname : (fn.name == "runtime.NumGoroutine") = false := by kernel_rfl) (hb : fn.body.isSome = true := by rfl)
    (hargs : as_.map a.eval = args := by (try simp only [List.map_toArray, List.map_cons, List.map_nil]); first | done | rfl | (simp only [List.length_drop, List.length_take]; rfl)) :
    wpList P ops Q (o :: rest) a w := goesL_ (some N) hd hg hf hname hb args hop hargs h
theorem gO {N : Option Tmp} {K : Act → World → Prop} {f : FuncId} {fn : Func} {as_ : Array Operand} {ts : Array TypeId} (hf : P.funcs[f]? = some fn) (args : Array Value)
    (h : Calls P f args w fun e w' => ∃ v, e = .returned v ∧ K (a.put N v) w')
    (hname : (fn.name == "runtime.NumGoroutine") = false := by kernel_rfl) (hb : fn.body.isSome = true := by rfl) (hw : Region.wanted o (yielded ops a.tmps) = true := by rfl) (hN : o.dst = N := by rfl)
    (hop : o.op = .call { callee := .value (.func f), args := as_, argTypes := ts } := by rfl)
    (hargs : as_.map a.eval = args := by (try simp only [List.map_toArray, List.map_cons, List.map_nil]); first | done | rfl | (simp only [List.length_drop, List.length_take]; rfl)) :
    if Region.wanted o (yielded ops a.tmps) = true then Oper.wp P o a w K Q else K (a.put N undef) w := goes_ hf hname hb args hw hN hop hargs h
theorem Gc (f : FuncId) {as_ : Array Operand} {ts : Array TypeId} (_ho : o.op = .call { callee := .value (.func f), args := as_, argTypes := ts }) (h : wpList P ops Q (o :: rest) a w) : wpList P ops Q (o :: rest) a w := h
theorem Gd (N : Tmp) (_hN : o.dst = some N) (h : wpList P ops Q (o :: rest) a w) : wpList P ops Q (o :: rest) a w := h
theorem bE (N : Tmp) {cs : Array Value} {t : TypeId}
    (h : ∀ g, g = w.heap.size → ∀ w1, w1.heap[g]? = some (.cells cs t (0, 0)) → Below w.heap.size w w1 → wpList P ops Q rest (a.put o.dst (.pointer (some ⟨g, 0, none⟩))) w1)
    (hd : o.dst = some N := by with_reducible rfl) (hg : o.guard = none := by rfl)
    (hr : (execOp a.eval o).run P w = .ok (.value (.pointer (some ⟨w.heap.size, 0, none⟩))) (w.alloc (.cells cs t (0, 0))) := by first | (go_simp; done) | (go_simp; rfl)) :
    wpList P ops Q (o :: rest) a w := box_event hg hd hr h
variable {md : Region.Mode} {S : World → Prop} {ds : List Nat} {l : Array Bool} {fuel : Nat}
theorem on (i : Nat) (N : Tmp) (h : ∀ K : Act → World → Prop, Shut (∀ a' w', S w' → (S w' → wpAnyLast P md ops Q S ds fuel (l.setIfInBounds i true) a' w') → K a' w') → if Region.wanted o (yielded ops a.tmps) = true then Oper.wp P o a w K Q else K (a.put (some N) undef) w)
    (hi : ops[i]? = some o := by rfl) (hN : o.dst = some N := by rfl) (hc : readyB md ops l (l.setIfInBounds i true) i = true := by kernel_rfl) (hd : i ∉ ds := by decide) :
    wpAnyLast P md ops Q S ds (fuel + 1) l a w := one_ _ hi hN hc hd h
theorem nm (N : Tmp) {a' : Act} {v : Value} (h : wpAnyLast P md ops Q S ds fuel l a' w)
    (ha : a.put (some N) v = a' := by simp only [Act.put, List.setIfInBounds_toArray, List.set_cons_zero, List.set_cons_succ, i64_w, i32_w]; rfl) : wpAnyLast P md ops Q S ds fuel l (a.put (some N) v) w := norm_ ha h
end
theorem bx {w W w1 : World} {g : Nat} {o : Obj} (hg : g = W.heap.size) (hx : w1.heap[g]? = some o) (hb : Below W.heap.size W w1)
    (h : Below w.heap.size w W := by repeat (first | (with_reducible first | exact HB.out | apply below_alloc | apply pw_below_drewN | apply below_drew1) | exact HB.out)) :
    Aside0 (Below w.heap.size w w1) ∧ Aside0 (w1.heap[g]? = some o) ∧ Aside0 (w.heap.size ≤ g) ∧ Aside0 (w.heap.size ≤ g) := ⟨⟨below_step h hb⟩, ⟨hx⟩, ⟨hg ▸ h.size⟩, ⟨hg ▸ h.size⟩⟩
theorem cz1 {w : World} {g : Nat} {t : TypeId} {a : Value} (h : w.heap[g]? = some (.cells #[a] t (0, 0))) : w.cell? ⟨g, 0, none⟩ = some a := blk_cell h 0
theorem cz2 {w : World} {g : Nat} {t : TypeId} {a b : Value} (h : w.heap[g]? = some (.cells #[a, b] t (0, 0))) : w.cell? ⟨g, 0, none⟩ = some a ∧ w.cell? ⟨g, 1, none⟩ = some b := ⟨blk_cell h 0, blk_cell h 1⟩
theorem cz6 {w : World} {g : Nat} {t : TypeId} {a b c d e f : Value} (h : w.heap[g]? = some (.cells #[a, b, c, d, e, f] t (0, 0))) :
    w.cell? ⟨g, 0, none⟩ = some a ∧ w.cell? ⟨g, 1, none⟩ = some b ∧ w.cell? ⟨g, 2, none⟩ = some c ∧ w.cell? ⟨g, 3, none⟩ = some d ∧ w.cell? ⟨g, 4, none⟩ = some e ∧ w.cell? ⟨g, 5, none⟩ = some f := ⟨blk_cell h 0, blk_cell h 1, blk_cell h 2, blk_cell h 3, blk_cell h 4, blk_cell h 5⟩
theorem cf1 {w : World} {g : Nat} {t : TypeId} {a : Value} (h : w.heap[g]? = some (.cells #[a] t (0, 0))) : w.cell? ⟨g, 0, none⟩ = some a ∧ w.frozen? ⟨g, 0, none⟩ = false := ⟨blk_cell h 0, blk_frozen h 0⟩
theorem cf2 {w : World} {g : Nat} {t : TypeId} {a b : Value} (h : w.heap[g]? = some (.cells #[a, b] t (0, 0))) : w.cell? ⟨g, 0, none⟩ = some a ∧ w.cell? ⟨g, 1, none⟩ = some b ∧ w.frozen? ⟨g, 0, none⟩ = false ∧ w.frozen? ⟨g, 1, none⟩ = false := ⟨blk_cell h 0, blk_cell h 1, blk_frozen h 0, blk_frozen h 1⟩
theorem cf6 {w : World} {g : Nat} {t : TypeId} {a b c d e f : Value} (h : w.heap[g]? = some (.cells #[a, b, c, d, e, f] t (0, 0))) :
    w.cell? ⟨g, 0, none⟩ = some a ∧ w.cell? ⟨g, 1, none⟩ = some b ∧ w.cell? ⟨g, 2, none⟩ = some c ∧ w.cell? ⟨g, 3, none⟩ = some d ∧ w.cell? ⟨g, 4, none⟩ = some e ∧ w.cell? ⟨g, 5, none⟩ = some f ∧
    w.frozen? ⟨g, 0, none⟩ = false ∧ w.frozen? ⟨g, 1, none⟩ = false ∧ w.frozen? ⟨g, 2, none⟩ = false ∧ w.frozen? ⟨g, 3, none⟩ = false ∧ w.frozen? ⟨g, 4, none⟩ = false ∧ w.frozen? ⟨g, 5, none⟩ = false :=
  ⟨blk_cell h 0, blk_cell h 1, blk_cell h 2, blk_cell h 3, blk_cell h 4, blk_cell h 5, blk_frozen h 0, blk_frozen h 1, blk_frozen h 2, blk_frozen h 3, blk_frozen h 4, blk_frozen h 5⟩
theorem t6 {w W : World} (hb : Below w.heap.size w W) {A : Option Addr} {n : Nat} {xs : List S69} (h : Kd.C k69 w A n xs) (i : Int) (h0 : 0 ≤ i) (h1 : i < n) :
    ∃ ad, A = some ad ∧ W.cell? (ad.add (i.toNat * 6)) = some (.int .i64 (rd_T69 xs i).f0) ∧ W.cell? ⟨(ad.add (i.toNat * 6)).block, (ad.add (i.toNat * 6)).off + 1, none⟩ = some (.int .i64 (rd_T69 xs i).f1) ∧ W.cell? ⟨(ad.add (i.toNat * 6)).block, (ad.add (i.toNat * 6)).off + 2, none⟩ = some (.int .i64 (rd_T69 xs i).f2) ∧
    W.cell? ⟨(ad.add (i.toNat * 6)).block, (ad.add (i.toNat * 6)).off + 3, none⟩ = some (.int .i64 (rd_T69 xs i).f3) ∧ W.cell? ⟨(ad.add (i.toNat * 6)).block, (ad.add (i.toNat * 6)).off + 4, none⟩ = some (.int .i64 (rd_T69 xs i).f4) ∧ W.cell? ⟨(ad.add (i.toNat * 6)).block, (ad.add (i.toNat * 6)).off + 5, none⟩ = some (.int .i64 (rd_T69 xs i).f5) :=
  at_T69 (Kd.C_below h hb) i h0 h1
theorem bo {α β : Type} {x : Option α} {f : α → Option β} {b : β} (h : x.bind f = some b) : ∃ a, Aside0 (x = some a) ∧ f a = some b := by
  obtain ⟨a, h1, h2⟩ := Option.bind_eq_some_iff.mp h
  exact ⟨a, ⟨h1⟩, h2⟩
theorem vc11 {w : World} {g : Nat} {t : TypeId} {a b c d e f a1 b1 c1 d1 e1 : Value} (h : w.heap[g]? = some (.cells #[a, b, c, d, e, f, a1, b1, c1, d1, e1] t (0, 0))) :
    w.cell? ⟨g, 0, none⟩ = some a ∧ w.cell? ⟨g, 1, none⟩ = some b ∧ w.cell? ⟨g, 2, none⟩ = some c ∧ w.cell? ⟨g, 3, none⟩ = some d ∧ w.cell? ⟨g, 4, none⟩ = some e ∧ w.cell? ⟨g, 5, none⟩ = some f ∧
    w.cell? ⟨g, 6, none⟩ = some a1 ∧ w.cell? ⟨g, 7, none⟩ = some b1 ∧ w.cell? ⟨g, 8, none⟩ = some c1 ∧ w.cell? ⟨g, 9, none⟩ = some d1 ∧ w.cell? ⟨g, 10, none⟩ = some e1 :=
  ⟨blk_cell h 0, blk_cell h 1, blk_cell h 2, blk_cell h 3, blk_cell h 4, blk_cell h 5, blk_cell h 6, blk_cell h 7, blk_cell h 8, blk_cell h 9, blk_cell h 10⟩
section
variable {P : Program} {ops : Array Oper} {Q : Exit → Act → World → Prop} {o : Oper} {a : Act} {w : World} {S : World → Prop}
theorem sT (n : Nat) (ds : List Nat) {id : Nat} (hS : S w.drew) (h : S w.drew → wpAnyLast P .any ops Q S ds n (Array.replicate n false) a w.drew)
    (hm : P.follows .mixedOrders = true := by kernel_rfl) (hn : ops.size = n := by rfl) : (Code.region id ops true).wp P Q a w := start_ _ hm hn rfl hS h
variable {md : Region.Mode} {ds : List Nat} {l : Array Bool} {fuel : Nat} {T : Bool × List (List Nat × List Nat)} {B : List Nat}
theorem puT (hT : rtab md ops = T) (i : Nat) (N : Tmp) {v : Value} {a' : Act} (h : wpAnyLast P md ops Q S ds fuel (l.setIfInBounds i true) a' w)
    (hi : ops[i]? = some o := by rfl) (hN : o.dst = some N := by rfl) (hc : anyT T l.toList (l.setIfInBounds i true).toList i = true := by kernel_rfl)
    (hw : Region.wanted o (yielded ops a.tmps) = true := by rfl) (hy : ∀ w', (execOp a.eval o).run P w' = .ok (.value v) w' := by intro w'; go_simp; with_reducible rfl)
    (hQ : ∀ c a w, Q (.panic c) (a.put o.dst v) w → Q (.panic c) a w := by exact fun _ _ _ h => h)
    (ha : a.put (some N) v = a' := by simp only [Act.put, List.setIfInBounds_toArray, List.set_cons_zero, List.set_cons_succ, i64_w, i32_w]; rfl) :
    wpAnyLast P md ops Q S ds (fuel + 1) l a w := pure_ _ hi hN (any_of hT hc) hQ (Or.inl ⟨hw, hy⟩) ha h
theorem taT (hT : rtab md ops = T) (hB : waitsOk T.2 B = true) (i : Nat) (N : Tmp) {v : Value} {a' : Act} (hS : S w) (h : wpAnyLast P md ops Q S ds fuel (l.setIfInBounds i true) a' w)
    (hi : ops[i]? = some o := by rfl) (hN : o.dst = some N := by rfl) (hc : takeW T B ds l.toList (l.setIfInBounds i true).toList i = true := by kernel_rfl)
    (hw : Region.wanted o (yielded ops a.tmps) = true := by rfl) (hy : ∀ w', S w' → (execOp a.eval o).run P w' = .ok (.value v) w' := by intro w' hs; (try dsimp only at hs); go_simp; with_reducible rfl)
    (hQ : ∀ c a w, Q (.panic c) (a.put o.dst v) w → Q (.panic c) a w := by exact fun _ _ _ h => h)
    (ha : a.put (some N) v = a' := by simp only [Act.put, List.setIfInBounds_toArray, List.set_cons_zero, List.set_cons_succ, i64_w, i32_w]; rfl) :
    wpAnyLast P md ops Q S ds (fuel + 1) l a w := take_ _ hi hN (take_ofW hT hB hc) hQ (Or.inl ⟨hw, hy⟩) hS ha h
theorem onT (hT : rtab md ops = T) (i : Nat) (N : Tmp) (h : ∀ K : Act → World → Prop, Shut (∀ a' w', S w' → (S w' → wpAnyLast P md ops Q S ds fuel (l.setIfInBounds i true) a' w') → K a' w') → if Region.wanted o (yielded ops a.tmps) = true then Oper.wp P o a w K Q else K (a.put (some N) undef) w)
    (hi : ops[i]? = some o := by rfl) (hN : o.dst = some N := by rfl) (hc : (readyT T.2 l.toList == [i] && l.toList.set i true == (l.setIfInBounds i true).toList) = true := by kernel_rfl) (hd : i ∉ ds := by decide) :
    wpAnyLast P md ops Q S ds (fuel + 1) l a w := one_ _ hi hN (one_of hT hc) hd h
end
theorem gd {c : Prop} [Decidable c] {α : Type} {x : Option α} {b : α} (h : (if c then x else none) = some b) : c ∧ x = some b := by
  by_cases q : c
  · rw [if_pos q] at h
    exact ⟨q, h⟩
  · rw [if_neg q] at h
    cases h
theorem eq2 {α : Type} [BEq α] [LawfulBEq α] {a b : α} (h : a = b) : (a == b) = true ∧ (a != b) = false := ⟨beq_iff_eq.mpr h, bne_eq_false_iff_eq.mpr h⟩
theorem ne2 {α : Type} [BEq α] [LawfulBEq α] {a b : α} (h : ¬ a = b) : (a == b) = false ∧ (a != b) = true := ⟨beq_eq_false_iff_ne.mpr h, bne_iff_ne.mpr h⟩
theorem bp6 {W : World} {g : Nat} {t : TypeId} {c0 c1 c2 c3 c4 c5 v0 v1 v2 v3 v4 v5 : Value} (h : W.heap[g]? = some (.cells #[c0, c1, c2, c3, c4, c5] t (0, 0))) :
    ((((((W.setCell ⟨g, 0, none⟩ v0).setCell ⟨g, 1, none⟩ v1).setCell ⟨g, 2, none⟩ v2).setCell ⟨g, 3, none⟩ v3).setCell ⟨g, 4, none⟩ v4).setCell ⟨g, 5, none⟩ v5).heap[g]? = some (.cells #[v0, v1, v2, v3, v4, v5] t (0, 0)) :=
  blk_put (blk_put (blk_put (blk_put (blk_put (blk_put h 0 _ rfl) 1 _ rfl) 2 _ rfl) 3 _ rfl) 4 _ rfl) 5 _ rfl
theorem bp2 {W : World} {g : Nat} {t : TypeId} {c0 c1 v0 v1 : Value} (h : W.heap[g]? = some (.cells #[c0, c1] t (0, 0))) :
    ((W.setCell ⟨g, 0, none⟩ v0).setCell ⟨g, 1, none⟩ v1).heap[g]? = some (.cells #[v0, v1] t (0, 0)) := blk_put (blk_put h 0 _ rfl) 1 _ rfl
abbrev RB (w : World) (v : Value) (e : Ending) (w' : World) : Prop := e = .returned v ∧ Below w.heap.size w w'
theorem t6d {w W : World} (hb : Below w.heap.size w W) {A : Option Addr} {n : Nat} {xs : List S69} (h : Kd.C k69 w A n xs) (i : Int) (h0 : decide (0 ≤ i) = true := by first | (with_reducible assumption) | assumption) (h1 : decide (i < n) = true := by first | (with_reducible assumption) | assumption) :
    ∃ ad, A = some ad ∧ W.cell? (ad.add (i.toNat * 6)) = some (.int .i64 (rd_T69 xs i).f0) ∧ W.cell? ⟨(ad.add (i.toNat * 6)).block, (ad.add (i.toNat * 6)).off + 1, none⟩ = some (.int .i64 (rd_T69 xs i).f1) ∧ W.cell? ⟨(ad.add (i.toNat * 6)).block, (ad.add (i.toNat * 6)).off + 2, none⟩ = some (.int .i64 (rd_T69 xs i).f2) ∧
    W.cell? ⟨(ad.add (i.toNat * 6)).block, (ad.add (i.toNat * 6)).off + 3, none⟩ = some (.int .i64 (rd_T69 xs i).f3) ∧ W.cell? ⟨(ad.add (i.toNat * 6)).block, (ad.add (i.toNat * 6)).off + 4, none⟩ = some (.int .i64 (rd_T69 xs i).f4) ∧ W.cell? ⟨(ad.add (i.toNat * 6)).block, (ad.add (i.toNat * 6)).off + 5, none⟩ = some (.int .i64 (rd_T69 xs i).f5) ∧
    (0 ≤ i) = True ∧ (i < (n : Int)) = True := by
  obtain ⟨ad, e, x0, x1, x2, x3, x4, x5⟩ := t6 hb h i (of_decide_eq_true h0) (of_decide_eq_true h1)
  exact ⟨ad, e, x0, x1, x2, x3, x4, x5, eq_true (of_decide_eq_true h0), eq_true (of_decide_eq_true h1)⟩
section
variable {P : Program} {ops : Array Oper} {Q : Exit → Act → World → Prop} {o : Oper} {a : Act} {w : World} {S : World → Prop} {md : Region.Mode} {ds : List Nat} {l : Array Bool} {fuel : Nat}
theorem tb (i : Nat) (N : Tmp) {b : Nat} {cs : Array Value} {t : TypeId} {v : Value} {a' : Act} (hS : S w) (hB : ∀ w', S w' → w'.heap[b]? = some (.cells cs t (0, 0))) (h : wpAnyLast P md ops Q S ds fuel (l.setIfInBounds i true) a' w)
    (hi : ops[i]? = some o := by rfl) (hN : o.dst = some N := by rfl) (hc : takeB md ops ds l (l.setIfInBounds i true) i = true := by kernel_rfl)
    (hw : Region.wanted o (yielded ops a.tmps) = true := by rfl)
    (hy : ∀ w', w'.heap[b]? = some (.cells cs t (0, 0)) → (execOp a.eval o).run P w' = .ok (.value v) w' := by intro w' hs; obtain ⟨y0, y1, y2, y3, y4, y5, y6, y7, y8⟩ := rd9 hs; go_simp; with_reducible rfl)
    (hQ : ∀ c a w, Q (.panic c) (a.put o.dst v) w → Q (.panic c) a w := by exact fun _ _ _ h => h)
    (ha : a.put (some N) v = a' := by simp only [Act.put, List.setIfInBounds_toArray, List.set_cons_zero, List.set_cons_succ, i64_w, i32_w]; rfl) :
    wpAnyLast P md ops Q S ds (fuel + 1) l a w := take_ _ hi hN hc hQ (Or.inl ⟨hw, fun w' hs => hy w' (hB w' hs)⟩) hS ha h
theorem sG (n : Nat) {id : Nat} {w0 : World} (hS : Below w0.heap.size w0 w.drew) (h : ∀ w1, Below w0.heap.size w0 w1 → wpAnyLast P .any ops Q (fun W' => Below w0.heap.size w0 W') [] n (Array.replicate n false) a w1)
    (hm : P.follows .mixedOrders = true := by kernel_rfl) (hn : ops.size = n := by rfl) : (Code.region id ops true).wp P Q a w := start_ _ hm hn rfl hS (fun _ => h _ hS)
end
theorem nf : ¬ (false = true) := by decide
theorem no2 {c : Prop} [Decidable c] {α : Type} {x : Option α} {b : α} {q : Prop} (h : ¬ c) (H : (if c then x else none) = some b) : q := by
  rw [if_neg h] at H
  cases H
theorem gb {α β : Type} {a : α} {f : α → Option β} {r : Option β} (h : (some a).bind f = r) : ∃ y, Aside0 (y = a) ∧ f y = r := ⟨a, ⟨rfl⟩, h⟩
theorem ge {c : Prop} [Decidable c] {α : Type} {x : Option α} {b : α} (h : (if c then x else none) = some b) : decide c = true ∧ x = some b := ⟨decide_eq_true (gd h).1, (gd h).2⟩
theorem t6e {w W : World} (hb : Below w.heap.size w W) {A : Option Addr} {n : Nat} {xs : List S69} (h : Kd.C k69 w A n xs) (i : Int) (h0 : decide (0 ≤ i) = true := by first | (with_reducible assumption) | assumption) (h1 : decide (i < n) = true := by first | (with_reducible assumption) | assumption) :
    ∃ ad, A = some ad ∧ (w.cell? (ad.add (i.toNat * 6)) = some (.int .i64 (rd_T69 xs i).f0) ∧ w.cell? ⟨(ad.add (i.toNat * 6)).block, (ad.add (i.toNat * 6)).off + 1, none⟩ = some (.int .i64 (rd_T69 xs i).f1) ∧ w.cell? ⟨(ad.add (i.toNat * 6)).block, (ad.add (i.toNat * 6)).off + 2, none⟩ = some (.int .i64 (rd_T69 xs i).f2) ∧
    w.cell? ⟨(ad.add (i.toNat * 6)).block, (ad.add (i.toNat * 6)).off + 3, none⟩ = some (.int .i64 (rd_T69 xs i).f3) ∧ w.cell? ⟨(ad.add (i.toNat * 6)).block, (ad.add (i.toNat * 6)).off + 4, none⟩ = some (.int .i64 (rd_T69 xs i).f4) ∧ w.cell? ⟨(ad.add (i.toNat * 6)).block, (ad.add (i.toNat * 6)).off + 5, none⟩ = some (.int .i64 (rd_T69 xs i).f5)) ∧
    W.cell? (ad.add (i.toNat * 6)) = some (.int .i64 (rd_T69 xs i).f0) ∧ W.cell? ⟨(ad.add (i.toNat * 6)).block, (ad.add (i.toNat * 6)).off + 1, none⟩ = some (.int .i64 (rd_T69 xs i).f1) ∧ W.cell? ⟨(ad.add (i.toNat * 6)).block, (ad.add (i.toNat * 6)).off + 2, none⟩ = some (.int .i64 (rd_T69 xs i).f2) ∧
    W.cell? ⟨(ad.add (i.toNat * 6)).block, (ad.add (i.toNat * 6)).off + 3, none⟩ = some (.int .i64 (rd_T69 xs i).f3) ∧ W.cell? ⟨(ad.add (i.toNat * 6)).block, (ad.add (i.toNat * 6)).off + 4, none⟩ = some (.int .i64 (rd_T69 xs i).f4) ∧ W.cell? ⟨(ad.add (i.toNat * 6)).block, (ad.add (i.toNat * 6)).off + 5, none⟩ = some (.int .i64 (rd_T69 xs i).f5) ∧
    (0 ≤ i) = True ∧ (i < (n : Int)) = True := by
  obtain ⟨ad, e, x⟩ := t6d hb h i h0 h1
  obtain ⟨ad', e', y0, y1, y2, y3, y4, y5⟩ := at_T69 h i (of_decide_eq_true h0) (of_decide_eq_true h1)
  cases e.symm.trans e'
  exact ⟨ad, e, ⟨y0, y1, y2, y3, y4, y5⟩, x⟩
theorem bF {P : Program} {ops : Array Oper} {Q : Exit → Act → World → Prop} {rest : List Oper} {o : Oper} {a : Act} {w W : World} (N : Tmp) {cs : Array Value} {t : TypeId} (HB : Below w.heap.size w W)
    (h : ∀ g w1, Aside0 (W.heap.size ≤ g) → Aside0 (w.heap.size ≤ g) → Aside0 (w1.heap[g]? = some (.cells cs t (0, 0))) → Aside0 (Below w.heap.size w w1) → Aside0 (Below W.heap.size W w1) → wpList P ops Q rest (a.put o.dst (.pointer (some ⟨g, 0, none⟩))) w1)
    (hd : o.dst = some N := by with_reducible rfl) (hg : o.guard = none := by rfl)
    (hr : (execOp a.eval o).run P W = .ok (.value (.pointer (some ⟨W.heap.size, 0, none⟩))) (W.alloc (.cells cs t (0, 0))) := by first | (go_simp; done) | (go_simp; rfl)) :
    wpList P ops Q (o :: rest) a W := box_event hg hd hr (fun g e w1 hk hb => h g w1 ⟨Nat.le_of_eq e.symm⟩ ⟨e ▸ HB.size⟩ ⟨hk⟩ ⟨HB.trans (hb.mono HB.size)⟩ ⟨hb⟩)
theorem far6 {α : Type} {d : Kd α} {e base : Nat} {w : World} {ok : Nat → Prop} {v : Value} {xs : List α} {g : Nat} {v0 v1 v2 v3 v4 v5 : Value} (h : d.R e w base (fun k => ok k ∧ k ≠ g) v xs) :
    d.R e ((((((w.setCell ⟨g, 0, none⟩ v0).setCell ⟨g, 1, none⟩ v1).setCell ⟨g, 2, none⟩ v2).setCell ⟨g, 3, none⟩ v3).setCell ⟨g, 4, none⟩ v4).setCell ⟨g, 5, none⟩ v5) base (fun k => ok k ∧ k ≠ g) v xs :=
  Kd.R_far (Kd.R_far (Kd.R_far (Kd.R_far (Kd.R_far (Kd.R_far h (fun _ hk => hk.2) _) (fun _ hk => hk.2) _) (fun _ hk => hk.2) _) (fun _ hk => hk.2) _) (fun _ hk => hk.2) _) (fun _ hk => hk.2) _
theorem bp3 {W : World} {g : Nat} {t : TypeId} {c0 c1 c2 v0 v1 v2 : Value} (h : W.heap[g]? = some (.cells #[c0, c1, c2] t (0, 0))) :
    (((W.setCell ⟨g, 0, none⟩ v0).setCell ⟨g, 1, none⟩ v1).setCell ⟨g, 2, none⟩ v2).heap[g]? = some (.cells #[v0, v1, v2] t (0, 0)) := blk_put (blk_put (blk_put h 0 _ rfl) 1 _ rfl) 2 _ rfl
theorem bp4 {W : World} {g : Nat} {t : TypeId} {c0 c1 c2 c3 v0 v1 v2 v3 : Value} (h : W.heap[g]? = some (.cells #[c0, c1, c2, c3] t (0, 0))) :
    ((((W.setCell ⟨g, 0, none⟩ v0).setCell ⟨g, 1, none⟩ v1).setCell ⟨g, 2, none⟩ v2).setCell ⟨g, 3, none⟩ v3).heap[g]? = some (.cells #[v0, v1, v2, v3] t (0, 0)) := blk_put (blk_put (blk_put (blk_put h 0 _ rfl) 1 _ rfl) 2 _ rfl) 3 _ rfl
@[reducible] def cN (x : S69) : Array Value := #[.int .i64 x.f0, .int .i64 x.f1, .int .i64 x.f2, .int .i64 x.f3, .int .i64 x.f4, .int .i64 x.f5]
theorem hc {w W : World} {x : Addr} {v : Value} (h : w.cell? x = some v) (st : Below w.heap.size w W := by exact HB.out) : W.cell? x = some v := (st.cell (World.block_lt_of_cell? w x h)).trans h
theorem Br (w : World) : Aside0 (Below w.heap.size w w) := ⟨Below.refl _ _⟩
section
variable {P : Program} {md : Region.Mode} {ops : Array Oper} {Q : Exit → Act → World → Prop} {S : World → Prop} {ds : List Nat} {oi : Oper} {fuel : Nat} {l : Array Bool} {a : Act} {w w1 : World} {K : Act → World → Prop}
theorem on0 (i : Nat) (h : ∀ K : Act → World → Prop, Shut (∀ a' w', S w' → (S w' → wpAnyLast P md ops Q S ds fuel (l.setIfInBounds i true) a' w') → K a' w') → if Region.wanted oi (yielded ops a.tmps) = true then Oper.wp P oi a w K Q else K (a.put none undef) w)
    (hi : ops[i]? = some oi := by rfl) (hN : oi.dst = none := by rfl) (hc : readyB md ops l (l.setIfInBounds i true) i = true := by kernel_rfl) (hd : i ∉ ds := by decide) : wpAnyLast P md ops Q S ds (fuel + 1) l a w := one_ (l.setIfInBounds i true) hi hN hc hd h
theorem la0 (i : Nat) (h : ∀ K : Act → World → Prop, Shut (∀ a' w', wpAnyLast P md ops Q S ds fuel (l.setIfInBounds i true) a' w' → K a' w') → if Region.wanted oi (yielded ops a.tmps) = true then Oper.wp P oi a w K Q else K (a.put none undef) w)
    (hi : ops[i]? = some oi := by rfl) (hN : oi.dst = none := by rfl) (hc : readyB md ops l (l.setIfInBounds i true) i = true := by kernel_rfl) (hd : i ∈ ds := by decide) : wpAnyLast P md ops Q S ds (fuel + 1) l a w := last_ (l.setIfInBounds i true) hi hN hc hd h
theorem sk (h : K a w1) (hw : Region.wanted oi (yielded ops a.tmps) = true := by rfl) (hN : oi.dst = none := by rfl) (hrun : (execOp a.eval oi).run P w = .ok .skip w1 := by go_simp; rfl) : if Region.wanted oi (yielded ops a.tmps) = true then Oper.wp P oi a w K Q else K (a.put none undef) w := skip_ hw hN hrun h
theorem gz {p : Prop} (h : p := by first | (go_simp; done) | (go_simp; with_reducible rfl)) : p := h
end
theorem dd0 {p : Prop} (h : p := by
 cases h4 : Y.f3 with
 | false =>
  rw [h4] at v3
  go_wp2
  clear y0 y1 y2 y3 y4 y5 f0 f1 f2 f3 f4 f5 v0 v1 v2 v3 v4 v5 e0 e1 e2 e3 e4 e5 z0 z1 z2 z3 z4 z5
  refine sT 6 [5] (S := fun W => Below w7.heap.size w7 W) (bel_t HI.out.b ((Below.refl _ _).drew)) fun hHeld => ?_
  clear hHeld
  refine gen_any (fun W => I4 w7 gl gr (C165 X) (C165 Y) W) (HI.out.bel ((Below.refl _ _).drew)) (fun w40 hI => ?_)
  clear HI
  have hHeld := hI.b
  have HI := Am hI
  clear hI
  refine pu 0 96 ?_
  refine ta 1 97 hHeld (hy := by intro w' hs; obtain ⟨z0, z1, z2, z3, z4, z5, -⟩ := box6 (blkB hs HKN7.out); exact gz) ?_
  refine pu 2 98 ?_
  obtain ⟨y0, y1, y2, y3, y4, y5, f0, f1, f2, f3, f4, f5⟩ := box6 HI.out.kr
  refine on0 3 (fun K hK => ?_)
  refine sk ?_
  have hI : I4 w7 gl gr (C165 X) (C165 ⟨Y.f0, Y.f1, Y.f2, true, Y.f4, Y.f5⟩) _ := HI.out.setr 3 (.bool true)
  refine hK.out _ _ hI.b (fun hHeld => ?_)
  clear hK K y0 y1 y2 y3 y4 y5 f0 f1 f2 f3 f4 f5 HI hHeld
  refine gen_any (fun W => I4 w7 gl gr (C165 X) (C165 ⟨Y.f0, Y.f1, Y.f2, true, Y.f4, Y.f5⟩) W) hI (fun w41 hI => ?_)
  refine pu 4 99 ?_
  obtain ⟨y0, y1, y2, y3, y4, y5, f0, f1, f2, f3, f4, f5⟩ := box6 hI.kr
  have HI := Am hI
  clear hI
  refine la0 5 (fun K hK => ?_)
  refine sk ?_
  have hI : I4 w7 gl gr (C165 X) (C165 ⟨Y.f0, n.f0, Y.f2, true, Y.f4, Y.f5⟩) _ := HI.out.setr 1 (.int .i64 n.f0)
  refine hK.out _ _ ?_
  clear hK K y0 y1 y2 y3 y4 y5 f0 f1 f2 f3 f4 f5 HI
  refine done_ (by kernel_rfl) ?_
  obtain ⟨Z, hZ⟩ : ∃ Z : S165, Z = ⟨Y.f0, n.f0, Y.f2, true, Y.f4, Y.f5⟩ := ⟨_, rfl⟩
  refine gen_q (fun W => I4 w7 gl gr (C165 X) (C165 Z) W) (by rw [hZ]; exact hI) (fun w42 hI => ?_)
  have HI := Am hI
  clear hI
  have hbw := HI.out.b
  obtain ⟨z0, z1, z2, z3, z4, z5, -⟩ := box6 (blkB hbw HKN7.out)
  obtain ⟨y0, y1, y2, y3, y4, y5, f0, f1, f2, f3, f4, f5⟩ := box6 HI.out.kl
  obtain ⟨v0, v1, v2, v3, v4, v5, e0, e1, e2, e3, e4, e5⟩ := box6 HI.out.kr
  clear hbw
  have HV : Aside0 (Z = rS n ⟨(j : Int), s1, s2, s3, s4, s5⟩) := ⟨by have e := HY.out; subst hZ e; rw [rS, if_neg hn1, if_pos (.inl h4)]⟩
  clear hZ HY h4
  obtain ⟨Y, rfl⟩ : ∃ A, A = Z := ⟨_, rfl⟩
  exact dd95
 | true =>
  rw [h4] at v3
  cases h5 : decide (n.f0 > Y.f1) with
  | true =>
   go_wp2
   clear y0 y1 y2 y3 y4 y5 f0 f1 f2 f3 f4 f5 v0 v1 v2 v3 v4 v5 e0 e1 e2 e3 e4 e5 z0 z1 z2 z3 z4 z5
   refine sT 6 [5] (S := fun W => Below w7.heap.size w7 W) (bel_t HI.out.b ((Below.refl _ _).drew)) fun hHeld => ?_
   clear hHeld
   refine gen_any (fun W => I4 w7 gl gr (C165 X) (C165 Y) W) (HI.out.bel ((Below.refl _ _).drew)) (fun w40 hI => ?_)
   clear HI
   have hHeld := hI.b
   have HI := Am hI
   clear hI
   refine pu 0 96 ?_
   refine ta 1 97 hHeld (hy := by intro w' hs; obtain ⟨z0, z1, z2, z3, z4, z5, -⟩ := box6 (blkB hs HKN7.out); exact gz) ?_
   refine pu 2 98 ?_
   obtain ⟨y0, y1, y2, y3, y4, y5, f0, f1, f2, f3, f4, f5⟩ := box6 HI.out.kr
   refine on0 3 (fun K hK => ?_)
   refine sk ?_
   have hI : I4 w7 gl gr (C165 X) (C165 ⟨Y.f0, Y.f1, Y.f2, true, Y.f4, Y.f5⟩) _ := HI.out.setr 3 (.bool true)
   refine hK.out _ _ hI.b (fun hHeld => ?_)
   clear hK K y0 y1 y2 y3 y4 y5 f0 f1 f2 f3 f4 f5 HI hHeld
   refine gen_any (fun W => I4 w7 gl gr (C165 X) (C165 ⟨Y.f0, Y.f1, Y.f2, true, Y.f4, Y.f5⟩) W) hI (fun w41 hI => ?_)
   refine pu 4 99 ?_
   obtain ⟨y0, y1, y2, y3, y4, y5, f0, f1, f2, f3, f4, f5⟩ := box6 hI.kr
   have HI := Am hI
   clear hI
   refine la0 5 (fun K hK => ?_)
   refine sk ?_
   have hI : I4 w7 gl gr (C165 X) (C165 ⟨Y.f0, n.f0, Y.f2, true, Y.f4, Y.f5⟩) _ := HI.out.setr 1 (.int .i64 n.f0)
   refine hK.out _ _ ?_
   clear hK K y0 y1 y2 y3 y4 y5 f0 f1 f2 f3 f4 f5 HI
   refine done_ (by kernel_rfl) ?_
   obtain ⟨Z, hZ⟩ : ∃ Z : S165, Z = ⟨Y.f0, n.f0, Y.f2, true, Y.f4, Y.f5⟩ := ⟨_, rfl⟩
   refine gen_q (fun W => I4 w7 gl gr (C165 X) (C165 Z) W) (by rw [hZ]; exact hI) (fun w42 hI => ?_)
   have HI := Am hI
   clear hI
   have hbw := HI.out.b
   obtain ⟨z0, z1, z2, z3, z4, z5, -⟩ := box6 (blkB hbw HKN7.out)
   obtain ⟨y0, y1, y2, y3, y4, y5, f0, f1, f2, f3, f4, f5⟩ := box6 HI.out.kl
   obtain ⟨v0, v1, v2, v3, v4, v5, e0, e1, e2, e3, e4, e5⟩ := box6 HI.out.kr
   clear hbw
   have HV : Aside0 (Z = rS n ⟨(j : Int), s1, s2, s3, s4, s5⟩) := ⟨by have e := HY.out; subst hZ e; rw [rS, if_neg hn1, if_pos (.inr (of_decide_eq_true h5))]⟩
   clear hZ HY h4 h5
   obtain ⟨Y, rfl⟩ : ∃ A, A = Z := ⟨_, rfl⟩
   exact dd95
  | false =>
   have HV : Aside0 (Y = rS n ⟨(j : Int), s1, s2, s3, s4, s5⟩) := ⟨by
    have h6 := of_decide_eq_false h5
    have e := HY.out
    subst e
    rw [rS, if_neg hn1, if_neg (fun e => e.elim (fun e => by rw [show _ = true from h4] at e; cases e) h6)]⟩
   clear HY
   exact dd95) : p := h
theorem dd1 {p : Prop} (h : p := by
 go_wp2_with (first | ((with_reducible refine Gd 13 rfl ?_); refine bE 13 (cs := #[.pointer none, .pointer none, .int .i64 0, .bool false]) (t := 107) ?_; intro gd hg_ w_gd hk_ hb_; have GX_gd := Am (show w1.heap.size ≤ gd from hg_ ▸ HW4.out.size); have GE_gd := Am (show w.heap.size ≤ gd from Nat.le_trans HB1.out.size GX_gd.out); have HK_gd := Am hk_; have HW_ := Am (bel_t HW4.out hb_); clear hg_ hk_ hb_ HW4 x1 z2 zf2; have HW4 := HW_; clear HW_; obtain ⟨y0, y1, y2, y3, f0, f1, f2, f3⟩ := box107 HK_gd.out; have x1 := path_at HO.out HW4.out (i := i - 2) (by have := HQ.out; omega); rw [HU2.out] at x1))
 have hws := below_set (below_set (below_set (below_set HW4.out GX_gd.out (j := 0) (v := (.pointer (some ⟨g, u2 * 6, none⟩)))) GX_gd.out (j := 1) (v := (.pointer (some ⟨g, f * 6, none⟩)))) GX_gd.out (j := 2) (v := .int .i64 0)) GX_gd.out (j := 3) (v := .bool m)
 refine (side_O (HBT.out.below (bel_t HB1.out hws)) HSD.out).mono ?_
 rintro _ w10 ⟨rfl, hb10⟩
 have HW10 := Am (bel_t hws hb10)
 have HD10 : Aside0 (w10.heap[gd]? = some (.cells #[.pointer (some ⟨g, u2 * 6, none⟩), .pointer (some ⟨g, f * 6, none⟩), .int .i64 0, .bool m] 107 (0, 0))) := ⟨blkB hb10 (blk_set (blk_set (blk_set (blk_set HK_gd.out 0 (.pointer (some ⟨g, u2 * 6, none⟩))) 1 (.pointer (some ⟨g, f * 6, none⟩))) 2 (.int .i64 0)) 3 (.bool m))⟩
 clear hws hb10 HK_gd HW4 y0 y1 y2 y3 f0 f1 f2 f3 x1 hw2 r3 r4 hq4 p1 p2 p3 p4 p5 p6 hw1
 obtain ⟨-, -, z2, -, -, -⟩ := (HBT.out.below (bel_t HB1.out HW10.out)).at HRL.out
 rw [HNR.out] at z2
 cases s1 : decide (1 < nr.f2) with
 | true =>
  have hk := blkB HW10.out HKR.out
  obtain ⟨v0, v1, v2, v3, e0, e1, e2, e3⟩ := box107 hk
  obtain ⟨y0, y1, y2, y3, f0, f1, f2, f3⟩ := box107 HD10.out
  have HK := Am hk
  have hne : gr ≠ gd := by (intro e; have h1 := HGR.out; have h2 := GX_gd.out; omega)
  have hne2 : ¬ (gd = gr) := fun e => hne e.symm
  clear hk
  have hz := HZ.out
  unfold swI at hz
  rw [if_pos (of_decide_eq_true s1)] at hz
  have HZ2 := Am (Option.some.inj hz)
  clear hz
  go_wp2
  refine bodyPost_ret (results_ct rfl _ _ gr 107 #[.pointer (some ⟨g, u2 * 6, none⟩), .pointer (some ⟨g, f * 6, none⟩), .int .i64 11, .bool false] (0, 0) _ rfl (by apply bp4; with_reducible repeat (first | exact HK.out | refine blk_far ?_ hne _)) Tryz.underlying107 rfl (by kernel_rfl)) rfl ?_
  exact ⟨by rw [← HRV.out, ← HZ2.out]; rfl, by with_reducible repeat (first | exact bel_t HB1.out HW10.out | refine below_set ?_ GE_gr.out | refine below_set ?_ GE_gd.out)⟩
 | false =>
  cases s2 : (nr.f2 == 1) with
  | true =>
   go_wp2_with (fail)
   refine (weight_O (HBT.out.below (bel_t HB1.out HW10.out)) SOK.out.2.2).mono ?_
   rintro _ w11 ⟨rfl, hbn⟩
   have HW11 := Am (bel_t HW10.out hbn)
   have HD11 := Am (blkB hbn HD10.out)
   clear hbn HW10 HD10 z2
   obtain ⟨-, -, z2, -, -, -⟩ := (HBT.out.below (bel_t HB1.out HW11.out)).at HRL.out
   rw [HNR.out] at z2
   cases s3 : (wO t rr == 0) with
   | true =>
    have hk := blkB HW11.out HKR.out
    obtain ⟨v0, v1, v2, v3, e0, e1, e2, e3⟩ := box107 hk
    obtain ⟨y0, y1, y2, y3, f0, f1, f2, f3⟩ := box107 HD11.out
    have HK := Am hk
    have hne : gr ≠ gd := by (intro e; have h1 := HGR.out; have h2 := GX_gd.out; omega)
    have hne2 : ¬ (gd = gr) := fun e => hne e.symm
    clear hk
    have hz := HZ.out
    unfold swI at hz
    rw [if_neg (of_decide_eq_false s1), if_pos (⟨by simpa using s2, by simpa using s3⟩)] at hz
    have HZ2 := Am (Option.some.inj hz)
    clear hz
    go_wp2
    refine bodyPost_ret (results_ct rfl _ _ gr 107 #[.pointer (some ⟨g, u2 * 6, none⟩), .pointer (some ⟨g, f * 6, none⟩), .int .i64 9, .bool m] (0, 0) _ rfl (by apply bp4; with_reducible repeat (first | exact HK.out | refine blk_far ?_ hne _)) Tryz.underlying107 rfl (by kernel_rfl)) rfl ?_
    exact ⟨by rw [← HRV.out, ← HZ2.out]; rfl, by with_reducible repeat (first | exact bel_t HB1.out HW11.out | refine below_set ?_ GE_gr.out | refine below_set ?_ GE_gd.out)⟩
   | false =>
    go_wp2_with (fail)
    refine (weight_O (HBT.out.below (bel_t HB1.out HW11.out)) SOK.out.2.1).mono ?_
    rintro _ w12 ⟨rfl, hbn⟩
    have HW12 := Am (bel_t HW11.out hbn)
    have HD12 := Am (blkB hbn HD11.out)
    clear hbn HW11 HD11 z2
    obtain ⟨-, -, z2, -, -, -⟩ := (HBT.out.below (bel_t HB1.out HW12.out)).at HRL.out
    rw [HNR.out] at z2
    cases s4 : (wO t rl == 0) with
    | true =>
     have hk := blkB HW12.out HKR.out
     obtain ⟨v0, v1, v2, v3, e0, e1, e2, e3⟩ := box107 hk
     obtain ⟨y0, y1, y2, y3, f0, f1, f2, f3⟩ := box107 HD12.out
     have HK := Am hk
     have hne : gr ≠ gd := by (intro e; have h1 := HGR.out; have h2 := GX_gd.out; omega)
     have hne2 : ¬ (gd = gr) := fun e => hne e.symm
     clear hk
     have hz := HZ.out
     unfold swI at hz
     rw [if_neg (of_decide_eq_false s1), if_neg (fun h => by simp [h.2] at s3), if_pos (⟨by simpa using s2, by simpa using s4⟩)] at hz
     have HZ2 := Am (Option.some.inj hz)
     clear hz
     go_wp2
     refine bodyPost_ret (results_ct rfl _ _ gr 107 #[.pointer (some ⟨g, u2 * 6, none⟩), .pointer (some ⟨g, f * 6, none⟩), .int .i64 10, .bool m] (0, 0) _ rfl (by apply bp4; with_reducible repeat (first | exact HK.out | refine blk_far ?_ hne _)) Tryz.underlying107 rfl (by kernel_rfl)) rfl ?_
     exact dd103
    | false =>
     have hk := blkB HW12.out HKR.out
     obtain ⟨v0, v1, v2, v3, e0, e1, e2, e3⟩ := box107 hk
     obtain ⟨y0, y1, y2, y3, f0, f1, f2, f3⟩ := box107 HD12.out
     have HK := Am hk
     have hne : gr ≠ gd := by (intro e; have h1 := HGR.out; have h2 := GX_gd.out; omega)
     have hne2 : ¬ (gd = gr) := fun e => hne e.symm
     clear hk
     have hz := HZ.out
     unfold swI at hz
     rw [if_neg (of_decide_eq_false s1), if_neg (fun h => by simp [h.2] at s3), if_neg (fun h => by simp [h.2] at s4), if_pos (by simpa using s2)] at hz
     have HZ2 := Am (Option.some.inj hz)
     clear hz
     go_wp2
     refine bodyPost_ret (results_ct rfl _ _ gr 107 #[.pointer (some ⟨g, u2 * 6, none⟩), .pointer (some ⟨g, f * 6, none⟩), .int .i64 4, .bool m] (0, 0) _ rfl (by apply bp4; with_reducible repeat (first | exact HK.out | refine blk_far ?_ hne _)) Tryz.underlying107 rfl (by kernel_rfl)) rfl ?_
     exact dd103
  | false =>
   go_wp2_with (fail)
   refine (weight_O (HBT.out.below (bel_t HB1.out HW10.out)) SOK.out.2.1).mono ?_
   rintro _ w13 ⟨rfl, hbn⟩
   have HW13 := Am (bel_t HW10.out hbn)
   have HD13 := Am (blkB hbn HD10.out)
   clear hbn HW10 HD10 z2
   obtain ⟨-, -, z2, -, -, -⟩ := (HBT.out.below (bel_t HB1.out HW13.out)).at HRL.out
   rw [HNR.out] at z2
   cases s3 : (wO t rl == 0) with
   | true =>
    go_wp2_with (fail)
    refine (weight_O (HBT.out.below (bel_t HB1.out HW13.out)) SOK.out.2.2).mono ?_
    rintro _ w14 ⟨rfl, hbn⟩
    have HW14 := Am (bel_t HW13.out hbn)
    have HD14 := Am (blkB hbn HD13.out)
    clear hbn HW13 HD13 z2
    obtain ⟨-, -, z2, -, -, -⟩ := (HBT.out.below (bel_t HB1.out HW14.out)).at HRL.out
    rw [HNR.out] at z2
    cases s4 : (wO t rr == 0) with
    | true =>
     have hk := blkB HW14.out HKR.out
     obtain ⟨v0, v1, v2, v3, e0, e1, e2, e3⟩ := box107 hk
     obtain ⟨y0, y1, y2, y3, f0, f1, f2, f3⟩ := box107 HD14.out
     have HK := Am hk
     have hne : gr ≠ gd := by (intro e; have h1 := HGR.out; have h2 := GX_gd.out; omega)
     have hne2 : ¬ (gd = gr) := fun e => hne e.symm
     clear hk
     have hz := HZ.out
     unfold swI at hz
     rw [if_neg (of_decide_eq_false s1), if_neg (fun h => by simp [h.1] at s2), if_neg (fun h => by simp [h.1] at s2), if_neg (fun h => by simp [h] at s2), if_pos (⟨by simpa using s3, by simpa using s4⟩)] at hz
     have HZ2 := Am (Option.some.inj hz)
     clear hz
     go_wp2
     refine bodyPost_ret (results_ct rfl _ _ gr 107 #[.pointer (some ⟨g, u2 * 6, none⟩), .pointer (some ⟨g, f * 6, none⟩), .int .i64 2, .bool (!m)] (0, 0) _ rfl (by apply bp4; with_reducible repeat (first | exact HK.out | refine blk_far ?_ hne _)) Tryz.underlying107 rfl (by kernel_rfl)) rfl ?_
     exact ⟨by rw [← HRV.out, ← HZ2.out]; rfl, by with_reducible repeat (first | exact bel_t HB1.out HW14.out | refine below_set ?_ GE_gr.out | refine below_set ?_ GE_gd.out)⟩
    | false =>
     go_wp2_with (fail)
     refine (weight_O (HBT.out.below (bel_t HB1.out HW14.out)) SOK.out.2.1).mono ?_
     rintro _ w15 ⟨rfl, hbn⟩
     have HW15 := Am (bel_t HW14.out hbn)
     have HD15 := Am (blkB hbn HD14.out)
     clear hbn HW14 HD14 z2
     obtain ⟨-, -, z2, -, -, -⟩ := (HBT.out.below (bel_t HB1.out HW15.out)).at HRL.out
     rw [HNR.out] at z2
     have hk := blkB HW15.out HKR.out
     obtain ⟨v0, v1, v2, v3, e0, e1, e2, e3⟩ := box107 hk
     obtain ⟨y0, y1, y2, y3, f0, f1, f2, f3⟩ := box107 HD15.out
     have HK := Am hk
     have hne : gr ≠ gd := by (intro e; have h1 := HGR.out; have h2 := GX_gd.out; omega)
     have hne2 : ¬ (gd = gr) := fun e => hne e.symm
     clear hk
     have hz := HZ.out
     unfold swI at hz
     rw [if_neg (of_decide_eq_false s1), if_neg (fun h => by simp [h.1] at s2), if_neg (fun h => by simp [h.1] at s2), if_neg (fun h => by simp [h] at s2), if_neg (fun h => by simp [h.2] at s4), if_pos (by simpa using s3)] at hz
     have HZ2 := Am (Option.some.inj hz)
     clear hz
     go_wp2
     refine bodyPost_ret (results_ct rfl _ _ gr 107 #[.pointer (some ⟨g, u2 * 6, none⟩), .pointer (some ⟨g, f * 6, none⟩), .int .i64 3, .bool (!m)] (0, 0) _ rfl (by apply bp4; with_reducible repeat (first | exact HK.out | refine blk_far ?_ hne _)) Tryz.underlying107 rfl (by kernel_rfl)) rfl ?_
     exact ⟨by rw [← HRV.out, ← HZ2.out]; rfl, by with_reducible repeat (first | exact bel_t HB1.out HW15.out | refine below_set ?_ GE_gr.out | refine below_set ?_ GE_gd.out)⟩
   | false =>
    go_wp2_with (fail)
    refine (weight_O (HBT.out.below (bel_t HB1.out HW13.out)) SOK.out.2.1).mono ?_
    rintro _ w16 ⟨rfl, hbn⟩
    have HW16 := Am (bel_t HW13.out hbn)
    have HD16 := Am (blkB hbn HD13.out)
    clear hbn HW13 HD13 z2
    obtain ⟨-, -, z2, -, -, -⟩ := (HBT.out.below (bel_t HB1.out HW16.out)).at HRL.out
    rw [HNR.out] at z2
    go_wp2_with (fail)
    refine (weight_O (HBT.out.below (bel_t HB1.out HW16.out)) SOK.out.2.1).mono ?_
    rintro _ w17 ⟨rfl, hbn⟩
    have HW17 := Am (bel_t HW16.out hbn)
    have HD17 := Am (blkB hbn HD16.out)
    clear hbn HW16 HD16 z2
    obtain ⟨-, -, z2, -, -, -⟩ := (HBT.out.below (bel_t HB1.out HW17.out)).at HRL.out
    rw [HNR.out] at z2
    cases s4 : decide (1 < wO t rl) with
    | true =>
     have hk := blkB HW17.out HKR.out
     obtain ⟨v0, v1, v2, v3, e0, e1, e2, e3⟩ := box107 hk
     obtain ⟨y0, y1, y2, y3, f0, f1, f2, f3⟩ := box107 HD17.out
     have HK := Am hk
     have hne : gr ≠ gd := by (intro e; have h1 := HGR.out; have h2 := GX_gd.out; omega)
     have hne2 : ¬ (gd = gr) := fun e => hne e.symm
     clear hk
     have hz := HZ.out
     unfold swI at hz
     rw [if_neg (of_decide_eq_false s1), if_neg (fun h => by simp [h.1] at s2), if_neg (fun h => by simp [h.1] at s2), if_neg (fun h => by simp [h] at s2), if_neg (fun h => by simp [h.1] at s3), if_neg (fun h => by simp [h] at s3), if_pos (of_decide_eq_true s4)] at hz
     have HZ2 := Am (Option.some.inj hz)
     clear hz
     go_wp2
     refine bodyPost_ret (results_ct rfl _ _ gr 107 #[.pointer (some ⟨g, u2 * 6, none⟩), .pointer (some ⟨g, f * 6, none⟩), .int .i64 5, .bool m] (0, 0) _ rfl (by apply bp4; with_reducible repeat (first | exact HK.out | refine blk_far ?_ hne _)) Tryz.underlying107 rfl (by kernel_rfl)) rfl ?_
     exact ⟨by rw [← HRV.out, ← HZ2.out]; rfl, by with_reducible repeat (first | exact bel_t HB1.out HW17.out | refine below_set ?_ GE_gr.out | refine below_set ?_ GE_gd.out)⟩
    | false =>
     have hz := HZ.out
     unfold swI at hz
     rw [if_neg (of_decide_eq_false s1), if_neg (fun h => by simp [h.1] at s2), if_neg (fun h => by simp [h.1] at s2), if_neg (fun h => by simp [h] at s2), if_neg (fun h => by simp [h.1] at s3), if_neg (fun h => by simp [h] at s3), if_neg (of_decide_eq_false s4)] at hz
     cases rl with
     | none => cases hz
     | some q =>
      obtain ⟨⟨rll, rlr⟩, hsd, hz⟩ := Option.bind_eq_some_iff.mp hz
      have SO2 := Am (sdI_ok hsd)
      have HSD := Am hsd
      have HZ3 := Am hz
      clear hsd hz
      go_wp2_with (fail)
      refine (side_O (HBT.out.below (bel_t HB1.out HW17.out)) HSD.out).mono ?_
      rintro _ w18 ⟨rfl, hbn⟩
      have HW18 := Am (bel_t HW17.out hbn)
      have HD18 := Am (blkB hbn HD17.out)
      clear hbn HW17 HD17
      obtain ⟨y0, y1, y2, y3, f0, f1, f2, f3⟩ := box107 HD18.out
      go_wp2_with (fail)
      have hws := below_set HW18.out (show w1.heap.size ≤ gd from GX_gd.out) (j := 2) (v := .int .i64 6)
      refine (weight_O (HBT.out.below (bel_t HB1.out hws)) SO2.out.2.2).mono ?_
      rintro _ w19 ⟨rfl, hbn⟩
      have HW19 := Am (bel_t hws hbn)
      have HD19 : Aside0 (w19.heap[gd]? = some (.cells #[.pointer (some ⟨g, u2 * 6, none⟩), .pointer (some ⟨g, f * 6, none⟩), .int .i64 6, .bool m] 107 (0, 0))) := ⟨blkB hbn (blk_set HD18.out 2 (.int .i64 6))⟩
      clear hbn hws HW18 HD18 y0 y1 y2 y3 f0 f1 f2 f3 z2
      cases s5 : (wO t rlr == 0) with
      | true =>
       have hk := blkB HW19.out HKR.out
       obtain ⟨v0, v1, v2, v3, e0, e1, e2, e3⟩ := box107 hk
       obtain ⟨y0, y1, y2, y3, f0, f1, f2, f3⟩ := box107 HD19.out
       have HK := Am hk
       have hne : gr ≠ gd := by (intro e; have h1 := HGR.out; have h2 := GX_gd.out; omega)
       have hne2 : ¬ (gd = gr) := fun e => hne e.symm
       clear hk
       have hz := HZ3.out
       rw [if_pos (by simpa using s5)] at hz
       have HZ2 := Am (Option.some.inj hz)
       clear hz
       go_wp2
       refine bodyPost_ret (results_ct rfl _ _ gr 107 #[.pointer (some ⟨g, u2 * 6, none⟩), .pointer (some ⟨g, f * 6, none⟩), .int .i64 8, .bool m] (0, 0) _ rfl (by apply bp4; with_reducible repeat (first | exact HK.out | refine blk_far ?_ hne _)) Tryz.underlying107 rfl (by kernel_rfl)) rfl ?_
       exact ⟨by rw [← HRV.out, ← HZ2.out]; rfl, by with_reducible repeat (first | exact bel_t HB1.out HW19.out | refine below_set ?_ GE_gr.out | refine below_set ?_ GE_gd.out)⟩
      | false =>
       go_wp2_with (fail)
       refine (weight_O (HBT.out.below (bel_t HB1.out HW19.out)) SO2.out.2.1).mono ?_
       rintro _ w20 ⟨rfl, hbn⟩
       have HW20 := Am (bel_t HW19.out hbn)
       have HD20 := Am (blkB hbn HD19.out)
       clear hbn HW19 HD19
       cases s6 : (wO t rll == 0) with
       | true =>
        have hk := blkB HW20.out HKR.out
        obtain ⟨v0, v1, v2, v3, e0, e1, e2, e3⟩ := box107 hk
        obtain ⟨y0, y1, y2, y3, f0, f1, f2, f3⟩ := box107 HD20.out
        have HK := Am hk
        have hne : gr ≠ gd := by (intro e; have h1 := HGR.out; have h2 := GX_gd.out; omega)
        have hne2 : ¬ (gd = gr) := fun e => hne e.symm
        clear hk
        have hz := HZ3.out
        rw [if_neg (by simpa using s5), if_pos (by simpa using s6)] at hz
        have HZ2 := Am (Option.some.inj hz)
        clear hz
        go_wp2
        refine bodyPost_ret (results_ct rfl _ _ gr 107 #[.pointer (some ⟨g, u2 * 6, none⟩), .pointer (some ⟨g, f * 6, none⟩), .int .i64 7, .bool m] (0, 0) _ rfl (by apply bp4; with_reducible repeat (first | exact HK.out | refine blk_far ?_ hne _)) Tryz.underlying107 rfl (by kernel_rfl)) rfl ?_
        exact dd102
       | false =>
        have hk := blkB HW20.out HKR.out
        obtain ⟨v0, v1, v2, v3, e0, e1, e2, e3⟩ := box107 hk
        obtain ⟨y0, y1, y2, y3, f0, f1, f2, f3⟩ := box107 HD20.out
        have HK := Am hk
        have hne : gr ≠ gd := by (intro e; have h1 := HGR.out; have h2 := GX_gd.out; omega)
        have hne2 : ¬ (gd = gr) := fun e => hne e.symm
        clear hk
        have hz := HZ3.out
        rw [if_neg (by simpa using s5), if_neg (by simpa using s6)] at hz
        have HZ2 := Am (Option.some.inj hz)
        clear hz
        go_wp2
        refine bodyPost_ret (results_ct rfl _ _ gr 107 #[.pointer (some ⟨g, u2 * 6, none⟩), .pointer (some ⟨g, f * 6, none⟩), .int .i64 6, .bool m] (0, 0) _ rfl (by apply bp4; with_reducible repeat (first | exact HK.out | refine blk_far ?_ hne _)) Tryz.underlying107 rfl (by kernel_rfl)) rfl ?_
        exact dd102) : p := h
theorem dd2 {p : Prop} (h : p := by
 go_wp2
 refine gen_wp (fun W => Oc w l0.length ga ca gs cs (some ap) cp ps A B g9 g10 g11 g12 #[.int .i64 n.f0, .int .i64 n.f1, .int .i64 n.f2, .int .i64 n.f3, .int .i64 n.f4, .int .i64 n.f5] #[.int .i64 b.f0, .int .i64 b.f1, .bool b.f2, .bool b.f3] #[.int .i64 (lB n b).f0, .int .i64 (lB n b).f1, .bool (lB n b).f2, .bool (lB n b).f3] #[.int .i64 (rB n b).f0, .int .i64 (rB n b).f1, .bool (rB n b).f2, .bool (rB n b).f3] W) (by
  rw [hLB, hRB]
  first | exact HOc.out | exact oc_11 (oc_11 HOc.out 1 _) 3 _ | exact oc_12 (oc_12 HOc.out 0 _) 2 _ | exact oc_12 (oc_12 (oc_11 (oc_11 HOc.out 1 _) 3 _) 0 _) 2 _) (fun w12 hOc => ?_)
 clear y0 y1 y2 y3 y4 y5 x0 x1 x2 x3 u1 u3 r1 r3 v0 v2 s0 s2 HOc hLB hRB
 have q1 : (0 ≤ (ka : Int)) = True := eq_true (by omega)
 have q2 : ((ka : Int) < (l0.length : Int)) = True := eq_true (by have := LA.out; omega)
 have q3 : (0 ≤ (kb : Int)) = True := eq_true (by omega)
 have q4 : ((kb : Int) < (l0.length : Int)) = True := eq_true (by have := LB.out; omega)
 as_aux_lemma =>
  refine sT 12 [11] (S := fun w' => ∃ A', Oc w l0.length ga ca gs cs (some ap) cp ps A' B g9 g10 g11 g12 #[.int .i64 n.f0, .int .i64 n.f1, .int .i64 n.f2, .int .i64 n.f3, .int .i64 n.f4, .int .i64 n.f5] #[.int .i64 b.f0, .int .i64 b.f1, .bool b.f2, .bool b.f3] #[.int .i64 (lB n b).f0, .int .i64 (lB n b).f1, .bool (lB n b).f2, .bool (lB n b).f3] #[.int .i64 (rB n b).f0, .int .i64 (rB n b).f1, .bool (rB n b).f2, .bool (rB n b).f3] w') ⟨A, oc_below hOc ((Below.refl _ _).drew)⟩ fun _ => ?_
  refine gen_any (fun W => Oc w l0.length ga ca gs cs (some ap) cp ps A B g9 g10 g11 g12 #[.int .i64 n.f0, .int .i64 n.f1, .int .i64 n.f2, .int .i64 n.f3, .int .i64 n.f4, .int .i64 n.f5] #[.int .i64 b.f0, .int .i64 b.f1, .bool b.f2, .bool b.f3] #[.int .i64 (lB n b).f0, .int .i64 (lB n b).f1, .bool (lB n b).f2, .bool (lB n b).f3] #[.int .i64 (rB n b).f0, .int .i64 (rB n b).f1, .bool (rB n b).f2, .bool (rB n b).f3] W) (oc_below hOc ((Below.refl _ _).drew)) (fun wA hOc => ?_)
  have hHeld : ∃ A', Oc w l0.length ga ca gs cs (some ap) cp ps A' B g9 g10 g11 g12 #[.int .i64 n.f0, .int .i64 n.f1, .int .i64 n.f2, .int .i64 n.f3, .int .i64 n.f4, .int .i64 n.f5] #[.int .i64 b.f0, .int .i64 b.f1, .bool b.f2, .bool b.f3] #[.int .i64 (lB n b).f0, .int .i64 (lB n b).f1, .bool (lB n b).f2, .bool (lB n b).f3] #[.int .i64 (rB n b).f0, .int .i64 (rB n b).f1, .bool (rB n b).f2, .bool (rB n b).f3] wA := ⟨_, hOc⟩
  refine pu 0 105 ?_
  refine pu 1 106 ?_
  refine ta 2 107 hHeld (hy := by
   intro w' hs
   obtain ⟨_, hs⟩ := hs
   obtain ⟨-, -, -, -, y4, y5, -⟩ := ob_cells9 hs.ob
   rw [E4.out] at y4
   rw [E5.out] at y5
   go_simp
   with_reducible rfl) ?_
  refine pu 3 108 ?_
  refine pu 4 109 ?_
  refine ta 5 110 hHeld (hy := by
   intro w' hs
   obtain ⟨_, hs⟩ := hs
   obtain ⟨-, -, -, -, y4, y5, -⟩ := ob_cells9 hs.ob
   rw [E4.out] at y4
   rw [E5.out] at y5
   go_simp
   with_reducible rfl) ?_
  refine ta 6 111 hHeld (hy := by
   intro w' hs
   obtain ⟨_, hs⟩ := hs
   obtain ⟨x0, x1, x2, x3, -⟩ := c4_of hs.k11
   go_simp
   with_reducible rfl) ?_
  refine ta 7 112 hHeld (hy := by
   intro w' hs
   obtain ⟨_, hs⟩ := hs
   obtain ⟨x0, x1, x2, x3, -⟩ := c4_of hs.k12
   go_simp
   with_reducible rfl) ?_
  refine pu 8 113 ?_
  obtain ⟨a0, a1, a2, a3, f0, f1, f2, f3⟩ := os_a hOc.ob.os LA.out
  refine on0 9 (fun K hK => ?_)
  refine sk ?_
  replace hOc := oc_setA hOc LA.out (lB n b)
  refine hK.out _ _ ⟨_, hOc⟩ (fun hHeld => ?_)
  clear hK K a0 a1 a2 a3 f0 f1 f2 f3 hHeld
  refine gen_any (fun W => Oc w l0.length ga ca gs cs (some ap) cp ps (A.set ka (lB n b)) B g9 g10 g11 g12 #[.int .i64 n.f0, .int .i64 n.f1, .int .i64 n.f2, .int .i64 n.f3, .int .i64 n.f4, .int .i64 n.f5] #[.int .i64 b.f0, .int .i64 b.f1, .bool b.f2, .bool b.f3] #[.int .i64 (lB n b).f0, .int .i64 (lB n b).f1, .bool (lB n b).f2, .bool (lB n b).f3] #[.int .i64 (rB n b).f0, .int .i64 (rB n b).f1, .bool (rB n b).f2, .bool (rB n b).f3] W) hOc (fun w13 hOc => ?_)
  refine pu 10 114 ?_
  obtain ⟨a0, a1, a2, a3, f0, f1, f2, f3⟩ := os_a hOc.ob.os LB.out
  refine la0 11 (fun K hK => ?_)
  refine sk ?_
  replace hOc := oc_setA hOc LB.out (rB n b)
  refine hK.out _ _ ?_
  clear hK K a0 a1 a2 a3 f0 f1 f2 f3
  refine done_ (by kernel_rfl) ?_
  refine gen_q (fun W => Oc w l0.length ga ca gs cs (some ap) cp ps ((A.set ka (lB n b)).set kb (rB n b)) B g9 g10 g11 g12 #[.int .i64 n.f0, .int .i64 n.f1, .int .i64 n.f2, .int .i64 n.f3, .int .i64 n.f4, .int .i64 n.f5] #[.int .i64 b.f0, .int .i64 b.f1, .bool b.f2, .bool b.f3] #[.int .i64 (lB n b).f0, .int .i64 (lB n b).f1, .bool (lB n b).f2, .bool (lB n b).f3] #[.int .i64 (rB n b).f0, .int .i64 (rB n b).f1, .bool (rB n b).f2, .bool (rB n b).f3] W) hOc (fun w14 hOc => ?_)
  go_wp2
  refine sT 23 [22] (S := fun w' => ∃ A' B', Oc w l0.length ga ca gs cs (some ap) cp ps A' B' g9 g10 g11 g12 #[.int .i64 n.f0, .int .i64 n.f1, .int .i64 n.f2, .int .i64 n.f3, .int .i64 n.f4, .int .i64 n.f5] #[.int .i64 b.f0, .int .i64 b.f1, .bool b.f2, .bool b.f3] #[.int .i64 (lB n b).f0, .int .i64 (lB n b).f1, .bool (lB n b).f2, .bool (lB n b).f3] #[.int .i64 (rB n b).f0, .int .i64 (rB n b).f1, .bool (rB n b).f2, .bool (rB n b).f3] w' ∧ B'.getD j false = s) ⟨_, B, oc_below hOc ((Below.refl _ _).drew), HSS.out⟩ fun _ => ?_
  refine gen_any (fun W => Oc w l0.length ga ca gs cs (some ap) cp ps ((A.set ka (lB n b)).set kb (rB n b)) B g9 g10 g11 g12 #[.int .i64 n.f0, .int .i64 n.f1, .int .i64 n.f2, .int .i64 n.f3, .int .i64 n.f4, .int .i64 n.f5] #[.int .i64 b.f0, .int .i64 b.f1, .bool b.f2, .bool b.f3] #[.int .i64 (lB n b).f0, .int .i64 (lB n b).f1, .bool (lB n b).f2, .bool (lB n b).f3] #[.int .i64 (rB n b).f0, .int .i64 (rB n b).f1, .bool (rB n b).f2, .bool (rB n b).f3] W) (oc_below hOc ((Below.refl _ _).drew)) (fun wB hOc => ?_)
  have hHeld : ∃ A' B', Oc w l0.length ga ca gs cs (some ap) cp ps A' B' g9 g10 g11 g12 #[.int .i64 n.f0, .int .i64 n.f1, .int .i64 n.f2, .int .i64 n.f3, .int .i64 n.f4, .int .i64 n.f5] #[.int .i64 b.f0, .int .i64 b.f1, .bool b.f2, .bool b.f3] #[.int .i64 (lB n b).f0, .int .i64 (lB n b).f1, .bool (lB n b).f2, .bool (lB n b).f3] #[.int .i64 (rB n b).f0, .int .i64 (rB n b).f1, .bool (rB n b).f2, .bool (rB n b).f3] wB ∧ B'.getD j false = s := ⟨_, B, hOc, HSS.out⟩
  refine pu 0 115 ?_
  refine pu 1 116 ?_
  refine ta 2 117 hHeld (hy := by
   intro w' hs
   obtain ⟨_, _, hs, hs2⟩ := hs
   obtain ⟨-, -, -, -, y4, y5, -⟩ := ob_cells9 hs.ob
   rw [E4.out] at y4
   rw [E5.out] at y5
   go_simp
   with_reducible rfl) ?_
  refine pu 3 118 ?_
  refine pu 4 119 ?_
  refine ta 5 120 hHeld (hy := by
   intro w' hs
   obtain ⟨_, _, hs, hs2⟩ := hs
   obtain ⟨-, -, -, -, y4, y5, -⟩ := ob_cells9 hs.ob
   rw [E4.out] at y4
   rw [E5.out] at y5
   go_simp
   with_reducible rfl) ?_
  refine pu 6 121 ?_
  refine pu 7 122 ?_
  refine pu 8 123 ?_
  refine ta 9 124 hHeld (hy := by
   intro w' hs
   obtain ⟨_, _, hs, hs2⟩ := hs
   have sh := os_bb hs.ob.os HJ.out hs2
   go_simp
   with_reducible rfl) ?_
  refine pu 10 125 ?_
  refine pu 11 126 ?_
  refine pu 12 127 ?_
  refine ta 13 128 hHeld (hy := by
   intro w' hs
   obtain ⟨_, _, hs, hs2⟩ := hs
   have sh := os_bb hs.ob.os HJ.out hs2
   go_simp
   with_reducible rfl) ?_
  refine pu 14 129 ?_
  cases s
  ·refine pu 15 130 ?_
   refine ta 16 131 hHeld (hy := by
    intro w' hs
    obtain ⟨_, _, hs, hs2⟩ := hs
    obtain ⟨-, y1, -⟩ := ob_cells9 hs.ob
    go_simp
    with_reducible rfl) ?_
   refine pu 17 132 ?_
   refine pu 18 133 ?_
   refine pu 19 134 ?_
   obtain ⟨a0, f0⟩ := os_b hOc.ob.os LA.out
   refine on0 20 (fun K hK => ?_)
   refine sk ?_
   replace hOc := oc_setB hOc LA.out false
   refine hK.out _ _ ⟨_, _, hOc, gd_set HSS.out⟩ (fun hHeld => ?_)
   clear hK K a0 f0 hHeld
   refine gen_any (fun W => Oc w l0.length ga ca gs cs (some ap) cp ps ((A.set ka (lB n b)).set kb (rB n b)) (B.set ka false) g9 g10 g11 g12 #[.int .i64 n.f0, .int .i64 n.f1, .int .i64 n.f2, .int .i64 n.f3, .int .i64 n.f4, .int .i64 n.f5] #[.int .i64 b.f0, .int .i64 b.f1, .bool b.f2, .bool b.f3] #[.int .i64 (lB n b).f0, .int .i64 (lB n b).f1, .bool (lB n b).f2, .bool (lB n b).f3] #[.int .i64 (rB n b).f0, .int .i64 (rB n b).f1, .bool (rB n b).f2, .bool (rB n b).f3] W) hOc (fun w15 hOc => ?_)
   refine pu 21 135 ?_
   obtain ⟨a0, f0⟩ := os_b hOc.ob.os LB.out
   refine la0 22 (fun K hK => ?_)
   refine sk ?_
   replace hOc := oc_setB hOc LB.out (n.f1 == 1)
   refine hK.out _ _ ?_
   clear hK K a0 f0
   refine done_ (by kernel_rfl) ?_
   refine gen_q (fun W => Oc w l0.length ga ca gs cs (some ap) cp ps ((A.set ka (lB n b)).set kb (rB n b)) ((B.set ka false).set kb (n.f1 == 1)) g9 g10 g11 g12 #[.int .i64 n.f0, .int .i64 n.f1, .int .i64 n.f2, .int .i64 n.f3, .int .i64 n.f4, .int .i64 n.f5] #[.int .i64 b.f0, .int .i64 b.f1, .bool b.f2, .bool b.f3] #[.int .i64 (lB n b).f0, .int .i64 (lB n b).f1, .bool (lB n b).f2, .bool (lB n b).f3] #[.int .i64 (rB n b).f0, .int .i64 (rB n b).f1, .bool (rB n b).f2, .bool (rB n b).f3] W) hOc (fun w16 hOc => ?_)
   exact dd99
  ·refine po 15 130 ?_
   refine po 16 131 ?_
   refine po 17 132 ?_
   refine pu 18 133 ?_
   refine pu 19 134 ?_
   obtain ⟨a0, f0⟩ := os_b hOc.ob.os LA.out
   refine on0 20 (fun K hK => ?_)
   refine sk ?_
   replace hOc := oc_setB hOc LA.out true
   refine hK.out _ _ ⟨_, _, hOc, gd_set HSS.out⟩ (fun hHeld => ?_)
   clear hK K a0 f0 hHeld
   refine gen_any (fun W => Oc w l0.length ga ca gs cs (some ap) cp ps ((A.set ka (lB n b)).set kb (rB n b)) (B.set ka true) g9 g10 g11 g12 #[.int .i64 n.f0, .int .i64 n.f1, .int .i64 n.f2, .int .i64 n.f3, .int .i64 n.f4, .int .i64 n.f5] #[.int .i64 b.f0, .int .i64 b.f1, .bool b.f2, .bool b.f3] #[.int .i64 (lB n b).f0, .int .i64 (lB n b).f1, .bool (lB n b).f2, .bool (lB n b).f3] #[.int .i64 (rB n b).f0, .int .i64 (rB n b).f1, .bool (rB n b).f2, .bool (rB n b).f3] W) hOc (fun w15 hOc => ?_)
   refine pu 21 135 ?_
   obtain ⟨a0, f0⟩ := os_b hOc.ob.os LB.out
   refine la0 22 (fun K hK => ?_)
   refine sk ?_
   replace hOc := oc_setB hOc LB.out true
   refine hK.out _ _ ?_
   clear hK K a0 f0
   refine done_ (by kernel_rfl) ?_
   refine gen_q (fun W => Oc w l0.length ga ca gs cs (some ap) cp ps ((A.set ka (lB n b)).set kb (rB n b)) ((B.set ka true).set kb true) g9 g10 g11 g12 #[.int .i64 n.f0, .int .i64 n.f1, .int .i64 n.f2, .int .i64 n.f3, .int .i64 n.f4, .int .i64 n.f5] #[.int .i64 b.f0, .int .i64 b.f1, .bool b.f2, .bool b.f3] #[.int .i64 (lB n b).f0, .int .i64 (lB n b).f1, .bool (lB n b).f2, .bool (lB n b).f3] #[.int .i64 (rB n b).f0, .int .i64 (rB n b).f1, .bool (rB n b).f2, .bool (rB n b).f3] W) hOc (fun w16 hOc => ?_)
   exact dd99) : p := h
theorem dd3 {p : Prop} (h : p := by
 obtain rfl := Option.some.inj H
 go_wp2_with (first | ((with_reducible refine Gc 22 rfl ?_); refine gL 22 Tryz.func22 #[.slice A0 l0.length c0, .int .i64 a1] ?_; (with_reducible refine (larchref19_Next.calls kj2 _ _ l0 a1 t435 t436 t437 t438 _ (kc (Kd.C_below HR0.out HB.out)) HC0.out A13.out).mono ?_); rintro e wq0 ⟨rfl, hb⟩; refine ⟨_, rfl, ?_⟩; replace HB := Am (below_step bq hb); (try clear hb)) | ((with_reducible refine Gd 5 rfl ?_); refine bE 5 (cs := #[.int .i64 0, .int .i64 0, .bool false]) (t := 45) ?_; intro gbq1 hg wq2 hbox hb; obtain ⟨nq3, BKq4, GWq5, GEq6⟩ := bx hg hbox hb; clear HB; have HB := nq3; clear nq3 hb hbox hg; have zq7 : wq2.cell? ⟨gbq1, 0, none⟩ = some (.int .i64 0) := (blk_cell BKq4.out 0).trans rfl; have zq8 : wq2.cell? ⟨gbq1, 1, none⟩ = some (.int .i64 0) := (blk_cell BKq4.out 1).trans rfl; have zq9 : wq2.cell? ⟨gbq1, 2, none⟩ = some (.bool false) := (blk_cell BKq4.out 2).trans rfl; have fq10 := blk_frozen BKq4.out 0; have fq11 := blk_frozen BKq4.out 1; have fq12 := blk_frozen BKq4.out 2) | ((with_reducible refine Gc 23 rfl ?_); refine gL 28 Tryz.func23 #[.slice A0 l0.length c0, .int .i64 a1] ?_; (with_reducible refine (seq_Next.calls kj2 _ _ l0 a1 t440 t441 t442 t443 _ (Kd.C_below HR0.out bs) HC0.out A14.out).mono ?_); rintro e wq13 ⟨rfl, hb⟩; refine ⟨_, rfl, ?_⟩; replace BKq4 := Am (blk_below (g := gbq1) (o := .cells #[.int .i64 t435, .int .i64 t436, .bool t437] 45 (0, 0)) (by (with_reducible repeat (first | refine blk_drewN ?_ _ | refine blk_drew ?_ | refine blk_alloc ?_ _)); refine blk_put (cs := #[.int .i64 t435, .int .i64 t436, .bool false]) ?_ 2 _ rfl; (with_reducible repeat (first | refine blk_drewN ?_ _ | refine blk_drew ?_ | refine blk_alloc ?_ _)); refine blk_put (cs := #[.int .i64 t435, .int .i64 0, .bool false]) ?_ 1 _ rfl; (with_reducible repeat (first | refine blk_drewN ?_ _ | refine blk_drew ?_ | refine blk_alloc ?_ _)); refine blk_put (cs := #[.int .i64 0, .int .i64 0, .bool false]) ?_ 0 _ rfl; (with_reducible repeat (first | refine blk_drewN ?_ _ | refine blk_drew ?_ | refine blk_alloc ?_ _)); exact BKq4.out) hb); replace HB := Am (below_step bs hb); (try clear hb)) | ((with_reducible refine Gd 8 rfl ?_); refine bE 8 (cs := #[.int .i64 0, .bool false]) (t := 49) ?_; intro gbq14 hg wq15 hbox hb; have BKq16 := Am (hbox); have GWq17 := Am ((bz' hg : w.heap.size ≤ gbq14)); have GEq18 := Am ((bz' hg : w.heap.size ≤ gbq14)); replace HB := Am (below_step bs hb); have NBq19 := Am ((by rw [hg]; exact Nat.ne_of_lt (blk_lt (g := gbq1) (o := .cells #[.int .i64 t435, .int .i64 t436, .bool t437] 45 (0, 0)) (bk BKq4.out)) : gbq1 ≠ gbq14)); have NBq20 := Am ((by rw [hg]; exact Nat.ne_of_gt (blk_lt (g := gbq1) (o := .cells #[.int .i64 t435, .int .i64 t436, .bool t437] 45 (0, 0)) (bk BKq4.out)) : gbq14 ≠ gbq1)); replace BKq4 := Am (blk_below (bk BKq4.out) hb); clear hb hbox hg; have hnbq21 := NBq20.out; have hncq22 := NBq19.out; obtain ⟨zq23, zq24, fq25, fq26⟩ := cf2 BKq16.out; have zq27 : wq15.cell? ⟨gbq1, 0, none⟩ = some (.int .i64 t435) := (blk_cell BKq4.out 0).trans rfl; have zq28 : wq15.cell? ⟨gbq1, 1, none⟩ = some (.int .i64 t436) := (blk_cell BKq4.out 1).trans rfl; have zq29 : wq15.cell? ⟨gbq1, 2, none⟩ = some (.bool t437) := (blk_cell BKq4.out 2).trans rfl; have fq30 := blk_frozen BKq4.out 0; have fq31 := blk_frozen BKq4.out 1; have fq32 := blk_frozen BKq4.out 2))
 go_ret
 exact ⟨er, bs⟩) : p := h
theorem dd4 {p : Prop} (h : p := by
 refine puT HT_.out 12 17 ?_
 refine puT HT_.out 13 18 ?_
 refine pure_ (i := 14) (N := some 19) (v := undef) (a' := ?_) #[true, true, true, true, true, true, true, true, true, true, true, true, true, true, true, false, false, false, false, false, false, false, false] rfl rfl (any_of HT_.out (by kernel_rfl)) (fun _ _ _ h => h) (Or.inr ⟨by rfl, rfl⟩) ?_ ?_
 rotate_left
 ·simp only [Act.put, sI, sZ, sS, i64_w, i32_w]
  rfl
 refine pure_ (i := 15) (N := some 20) (v := undef) (a' := ?_) #[true, true, true, true, true, true, true, true, true, true, true, true, true, true, true, true, false, false, false, false, false, false, false] rfl rfl (any_of HT_.out (by kernel_rfl)) (fun _ _ _ h => h) (Or.inr ⟨by rfl, rfl⟩) ?_ ?_
 rotate_left
 ·simp only [Act.put, sI, sZ, sS, i64_w, i32_w]
  rfl
 refine pure_ (i := 16) (N := some 21) (v := undef) (a' := ?_) #[true, true, true, true, true, true, true, true, true, true, true, true, true, true, true, true, true, false, false, false, false, false, false] rfl rfl (any_of HT_.out (by kernel_rfl)) (fun _ _ _ h => h) (Or.inr ⟨by rfl, rfl⟩) ?_ ?_
 rotate_left
 ·simp only [Act.put, sI, sZ, sS, i64_w, i32_w]
  rfl
 refine pure_ (i := 17) (N := some 22) (v := undef) (a' := ?_) #[true, true, true, true, true, true, true, true, true, true, true, true, true, true, true, true, true, true, false, false, false, false, false] rfl rfl (any_of HT_.out (by kernel_rfl)) (fun _ _ _ h => h) (Or.inr ⟨by rfl, rfl⟩) ?_ ?_
 rotate_left
 ·simp only [Act.put, sI, sZ, sS, i64_w, i32_w]
  rfl
 refine pure_ (i := 18) (N := some 23) (v := undef) (a' := ?_) #[true, true, true, true, true, true, true, true, true, true, true, true, true, true, true, true, true, true, true, false, false, false, false] rfl rfl (any_of HT_.out (by kernel_rfl)) (fun _ _ _ h => h) (Or.inr ⟨by rfl, rfl⟩) ?_ ?_
 rotate_left
 ·simp only [Act.put, sI, sZ, sS, i64_w, i32_w]
  rfl
 refine pure_ (i := 19) (N := some 24) (v := undef) (a' := ?_) #[true, true, true, true, true, true, true, true, true, true, true, true, true, true, true, true, true, true, true, true, false, false, false] rfl rfl (any_of HT_.out (by kernel_rfl)) (fun _ _ _ h => h) (Or.inr ⟨by rfl, rfl⟩) ?_ ?_
 rotate_left
 ·simp only [Act.put, sI, sZ, sS, i64_w, i32_w]
  rfl
 refine pure_ (i := 20) (N := some 25) (v := undef) (a' := ?_) #[true, true, true, true, true, true, true, true, true, true, true, true, true, true, true, true, true, true, true, true, true, false, false] rfl rfl (any_of HT_.out (by kernel_rfl)) (fun _ _ _ h => h) (Or.inr ⟨by rfl, rfl⟩) ?_ ?_
 rotate_left
 ·simp only [Act.put, sI, sZ, sS, i64_w, i32_w]
  rfl
 exact dd107) : p := h
theorem dd5 {p : Prop} (h : p := by
 go_enter Tryz.func105, Tryz.ntmps105
 go_wp2_with (fail)
 refine (table_isLeaf.calls _ _ _ _ _ _ _ _ H4.out).mono ?_
 rintro e w' ⟨rfl, hb⟩
 obtain ⟨hc, hf⟩ := bcell hb
 have hz : w.heap.size + 2 ≤ w'.heap.size := by have := hb.size; simpa using this
 have hcq0 : w'.cell? ⟨w.heap.size + 1, 0, none⟩ = some (.int .i64 all) := (hc _ _ (by simp)).trans (World.cell?_alloc_at _ _ _ _ (by simp))
 have hfin : Below w.heap.size w w' := (((Below.refl _ _).alloc (Nat.le_refl _) _).alloc (by simp) _).trans (hb.mono (by simp; omega))
 have HF := Am hfin
 clear hb hfin
 go_wp2_with (fail)
 refine (child_any _ all (w.heap.size + 1) _ hcq0).mono ?_
 rw [h6'.out]
 rintro e wq1 ⟨rfl, rfl⟩
 go_wp2_with (fail)
 refine (child_any _ all (w.heap.size + 1) _ hcq0).mono ?_
 rw [h7'.out]
 rintro e wq1 ⟨rfl, rfl⟩
 go_wp2
 go_ret
 exact ⟨rfl, HF.out⟩) : p := h
theorem dd6 {p : Prop} (h : p := by
 clear hd HNUM HK3 P4 P5 HS3 HO3 HB3 z4 z5 hu4 hu5 hf4 hf5 hx5 y0 y1 y2 y3 y4 y5 f0 f1 f2 f3 f4 f5 p7 p8 p9 e61 e1 e4' e32 d1 d2 d5 d3 w5 w6 w7
 obtain ⟨-, -, -, -, ⟨uq0, huq1⟩, hfq2, -, -, ⟨hRq3, hGq4⟩⟩ := put69 HS4.out (c := all.length) (by omega) v
 have Pq5 := Am (And.intro hRq3 hGq4)
 clear hRq3 hGq4
 have p7 : (all.length < all.length + 1) = True := eq_true (by omega)
 have p8 : ((all.length : Int) < (all.length : Int) + 1) = True := eq_true (by omega)
 have p9 : (0 ≤ (all.length : Int)) = True := eq_true (by omega)
 go_wp2
 have HSq6 : Aside0 (Kd.R k69 69 _ w.heap.size (fun _ => True) (.slice (some ⟨g4, 0, none⟩) (all.length + 1) d4) a2) := ⟨by rw [← HA2.out]; exact Pq5.out.1⟩
 have HOq7 := Am (Kd.R_over HO4.out HS4.out ne3 Pq5.out.2)
 have HBq8 := Am (grown_below Pq5.out.2 HB4.out HG4.out)
 rw [j3]
 clear huq1 hfq2 p7 p8 p9 e41 j1 j2 j2' j3 j4 j5 jb
 have hX : all.length + 1 = a2.length := (Kd.R_reads' HSq6.out).1
 have hal : all.length ≤ 1000 := HQ.out.2.2.1
 obtain ⟨o, e⟩ := c
 refine re_inner s a2 g4 d4 (all.length + 1) w hX (by omega) HSZ.out (op ++ [p]) _ o e _ _ _ _ HSq6.out HOq7.out HBq8.out HC.out _ _ _ _ _ _ _ _ _ _ _ _ _ _ _ _ _ _ _ _ _ _ _ _ _ _ _ _ _ _ _ _ _ _ _ _ _ _ _ _ _ _ _ _ _ _ _ _ _ _ _ _ _ _ _ _ _ _ _ _ _ _ _ _ _ _ _ _ _ _ _ _ _ _ _ _ _ _ _ _ _ _ _ _ _ _ _ _ _ _ _ _ _ _ _ _ _ _ _ _ _ _ _ _ _ _ _ _ _ _ _ _ _ _ _ _ _ _ _ _ _ _ _ _ _ _ _ _ _ _ _ _ _ _ _ _ _ _ _ _ _ _ _ _ _ _ _ _ _ _ _ _ _ _ _ _ _ ?_
 intro xq9 xq10 xq11 xq12 xq13 xq14 xq15 xq16 xq17 xq18 xq19 xq20 xq21 xq22 xq23 xq24 xq25 xq26 xq27 xq28 xq29 xq30 xq31 xq32 xq33 xq34 xq35 xq36 xq37 xq38 xq39 xq40 xq41 xq42 xq43 xq44 wI hsI hoI hbI
 have HSi := Am hsI
 have HOi := Am hoI
 have HBi := Am hbI
 have hh := HH.out
 clear hsI hoI hbI HH
 dsimp only at hh
 obtain ⟨Aq45, cq46, rfl⟩ := Kd.R_slice HOi.out
 rcases snoc_cases o with rfl | ⟨o, p2, rfl⟩
 ·rw [if_pos rfl] at hh
  by_cases qe : e = s.size
  rotate_left
  ·rw [if_neg qe] at hh; cases hh
  rw [if_pos qe] at hh
  obtain rfl := Option.some.inj hh
  subst qe
  have dq47 : decide ((all.length : Int) + 1 > 100000) = false := decide_eq_false (by omega)
  have dq48 : decide (((all.length + 1 : Nat) : Int) > 100000) = false := decide_eq_false (by omega)
  clear hh
  go_wp2_with (fail)
  rw [hX]
  refine (larchref16_Part.calls 40 _ d4 a2 0 r _ (hX ▸ (Kd.R_reads' HSi.out).2.2) (by have hq49 := (Kd.R_reads' HSi.out).2.1; omega) HP.out).mono ?_
  exact dd101
 ·rw [if_neg (show ¬ (o ++ [p2] = []) by simp)] at hh
  by_cases qe : 0 ≤ e ∧ e < s.size ∧ bt s e = 32
  rotate_left
  ·rw [if_neg qe] at hh; cases hh
  rw [if_pos qe] at hh
  obtain ⟨j, rfl⟩ : ∃ j : Nat, e = j := ⟨e.toNat, by omega⟩
  have jq56 : j < s.size := by omega
  have jb : ((s[j]'jq56).toNat : Int) = 32 := byte_at jq56 qe.2.2
  obtain ⟨j1, j2, j2', j3, j4, j5⟩ := j_facts jq56 HSZ.out
  have HH := Am hh
  have hlen : ((o ++ [p2]).map (fun (x : Nat) => (x : Int))).length = o.length + 1 := by simp
  rw [hlen]
  have HOj := Am (show Kd.R (Kd.int .i64) 3 wI w.heap.size (fun _ => True) (.slice Aq45 (o.length + 1) cq46) ((o ++ [p2]).map (fun (x : Nat) => (x : Int))) by have := HOi.out; rwa [hlen] at this)
  clear hh qe hlen HOi
  go_wp2
  go_roundg kq1
  case measure => omega
  case rel => exact ⟨a2, o ++ [p2], (j : Int) + 1, by first | rfl | (rw [j3]), HSi, HOj, HBi, HH⟩) : p := h
theorem dd7 {p : Prop} (h : p := by
 clear HK3 z4 z5 hu4 hu5 hf4 hf5 hx5 y0 y1 y2 y3 y4 y5 f0 f1 f2 f3 f4 f5 p7 p8 p9 e41 e1 e4' e32 d1 d2 d5 d3 w5 w6 w7
 have hX : all.length + 1 = all1.length := (Kd.R_reads' HS4.out).1
 have hal : all.length ≤ 1000 := HQ.out.2.2.1
 obtain ⟨o, e⟩ := c
 refine re_inner s all1 g4 d4 (all.length + 1) w hX (by omega) HSZ.out (op ++ [p]) _ o e _ _ _ _ HS4.out HO4.out HB4.out HC.out _ _ _ _ _ _ _ _ _ _ _ _ _ _ _ _ _ _ _ _ _ _ _ _ _ _ _ _ _ _ _ _ _ _ _ _ _ _ _ _ _ _ _ _ _ _ _ _ _ _ _ _ _ _ _ _ _ _ _ _ _ _ _ _ _ _ _ _ _ _ _ _ _ _ _ _ _ _ _ _ _ _ _ _ _ _ _ _ _ _ _ _ _ _ _ _ _ _ _ _ _ _ _ _ _ _ _ _ _ _ _ _ _ _ _ _ _ _ _ _ _ _ _ _ _ _ _ _ _ _ _ _ _ _ _ _ _ _ _ _ _ _ _ _ _ _ _ _ _ _ _ _ _ _ _ _ _ ?_
 intro xq0 xq1 xq2 xq3 xq4 xq5 xq6 xq7 xq8 xq9 xq10 xq11 xq12 xq13 xq14 xq15 xq16 xq17 xq18 xq19 xq20 xq21 xq22 xq23 xq24 xq25 xq26 xq27 xq28 xq29 xq30 xq31 xq32 xq33 xq34 xq35 wI hsI hoI hbI
 have HSi := Am hsI
 have HOi := Am hoI
 have HBi := Am hbI
 have hh := HH.out
 clear hsI hoI hbI HH
 dsimp only at hh
 obtain ⟨Aq36, cq37, rfl⟩ := Kd.R_slice HOi.out
 rcases snoc_cases o with rfl | ⟨o, p2, rfl⟩
 ·rw [if_pos rfl] at hh
  by_cases qe : e = s.size
  rotate_left
  ·rw [if_neg qe] at hh; cases hh
  rw [if_pos qe] at hh
  obtain rfl := Option.some.inj hh
  subst qe
  have dq38 : decide ((all.length : Int) + 1 > 100000) = false := decide_eq_false (by omega)
  have dq39 : decide (((all.length + 1 : Nat) : Int) > 100000) = false := decide_eq_false (by omega)
  clear hh
  go_wp2_with (fail)
  rw [hX]
  refine (larchref16_Part.calls 40 _ d4 all1 0 r _ (hX ▸ (Kd.R_reads' HSi.out).2.2) (by have hq40 := (Kd.R_reads' HSi.out).2.1; omega) HP.out).mono ?_
  exact dd101
 ·rw [if_neg (show ¬ (o ++ [p2] = []) by simp)] at hh
  by_cases qe : 0 ≤ e ∧ e < s.size ∧ bt s e = 32
  rotate_left
  ·rw [if_neg qe] at hh; cases hh
  rw [if_pos qe] at hh
  obtain ⟨j, rfl⟩ : ∃ j : Nat, e = j := ⟨e.toNat, by omega⟩
  have jq47 : j < s.size := by omega
  have jb : ((s[j]'jq47).toNat : Int) = 32 := byte_at jq47 qe.2.2
  obtain ⟨jq48, jq49, jq50, jq51, jq52, jq53⟩ := j_facts jq47 HSZ.out
  have HH := Am hh
  have hlen : ((o ++ [p2]).map (fun (x : Nat) => (x : Int))).length = o.length + 1 := by simp
  rw [hlen]
  have HOj := Am (show Kd.R (Kd.int .i64) 3 wI w.heap.size (fun _ => True) (.slice Aq36 (o.length + 1) cq37) ((o ++ [p2]).map (fun (x : Nat) => (x : Int))) by have := HOi.out; rwa [hlen] at this)
  clear hh qe hlen HOi
  go_wp2
  go_roundg kq1
  case measure => omega
  case rel => exact ⟨all1, o ++ [p2], (j : Int) + 1, by first | rfl | (rw [jq51]), HSi, HOj, HBi, HH⟩) : p := h
theorem dd8 {p : Prop} (h : p := by
 obtain rfl := Option.some.inj H
 obtain ⟨zq0, zq1, zq2, zq3, zq4, zq5, fq6, fq7, fq8, fq9, fq10, fq11⟩ := cf6 BK377.out
 go_wp2
 go_ret
 exact ⟨er, bs⟩) : p := h
theorem dd9 {p : Prop} (h : p := by
 go_ret
 exact ⟨by first | rfl | (simp; done) | (simp [*]; done), by repeat (first | exact Drawn0.refl _ | apply Drawn0.step)⟩) : p := h
theorem dd10 {p : Prop} (h : p := by
 obtain rfl := Option.some.inj H
 have pq0 : 0 ≤ (a1 : Int) := da
 have qq1 : a1 < (l0.length : Int) := da
 obtain ⟨adq2, eq3, hxq4, hxq5, hxq6, hxq7, hxq8, hxq9⟩ := at_T69 HR0.out a1 pq0 qq1
 cases eq3
 replace pq0 := eq_true pq0
 replace qq1 := eq_true qq1
 go_enter Tryz.func107, Tryz.ntmps107
 go_wp2_with (first | ((with_reducible refine Gd 5 rfl ?_); refine bE 5 (cs := #[.int .i64 0, .int .i64 0, .int .i64 0, .int .i64 0, .int .i64 0, .int .i64 0]) (t := 69) ?_; intro gbq10 hg wq11 hbox hb; obtain ⟨nq12, BKq13, GWq14, GEq15⟩ := bx hg hbox hb; clear HB; have HB := nq12; clear nq12 hb hbox hg; obtain ⟨zq16, zq17, zq18, zq19, zq20, zq21, fq22, fq23, fq24, fq25, fq26, fq27⟩ := cf6 BKq13.out) | ((with_reducible refine Gc 109 rfl ?_); refine gL 11 Tryz.func109 #[.agg (cN (rd_T69 l0 a1))] ?_; (with_reducible refine (larchref16_Leaf.calls _ _ _ _ _ _ false _ A5.out).mono ?_); rintro e wq28 ⟨rfl, hb⟩; refine ⟨_, rfl, ?_⟩; replace BKq13 := Am (blk_below (g := gbq10) (o := .cells (cN (rd_T69 l0 a1)) 69 (0, 0)) (bp6 BKq13.out) hb); replace HB := Am (below_step bs hb); (try clear hb); obtain ⟨zq29, zq30, zq31, zq32, zq33, zq34, fq35, fq36, fq37, fq38, fq39, fq40⟩ := cf6 BKq13.out))
 go_ret
 exact ⟨er, bs⟩) : p := h
theorem dd11 {p : Prop} (h : p := by
 rw [if_pos q3] at hE
 clear q3
 go_wp2_with (first | ((with_reducible refine gate_builtin (b := .append) (xs := #[.tmp 39, .tmp 41]) rfl ?_); at_builtin; refine Kd.R_append (Kd.int .i64) (w0 := w1) w1.heap.size rfl (.tmp 39) (.tmp 41) 60 3 (.int .i64 0) 8 rfl Tryz.underlying60 info3 rfl (by decide) (by omega) u9 (out) ((j : Int)) [.int .i64 (j : Int)] (fun _ => True) (fun _ => False) rfl rfl ?aP (fun _ hk => hk.elim) ?aF ?aO ?aB ?aS ?aL ?_; (case aP => exact rfl); (case aB => exact HW3.out); (case aF => exact (fun _ _ => trivial)); (case aO => exact HR3.out); (case aS => exact (below_size HW3.out)); (case aL => have := HI.out; have := HLO.out; omega); intro vN wN hoN hbN hgN hatN; have Gq0 := Am hoN; have GW := Am hbN; clear hoN hbN hgN hatN))
 go_roundg kq1
 case measure => omega
 case rel => exact ⟨i + 1, _, by have := HQ.out; have := HLO.out; first | rfl | (rw [Go.IntWalk.wrap64_in _ (by omega)]; rfl), ⟨by have := HQ.out; omega, by have := HI.out.2.1; omega, by have := HI.out.2.2; rw [List.length_append]; exact Nat.succ_le_succ this⟩, Gq0, GW, ⟨hE⟩⟩) : p := h
theorem dd12 {p : Prop} (h : p := by
 obtain rfl := Option.some.inj H
 go_enter Tryz.func108, Tryz.ntmps108
 go_wp2_with (first | ((with_reducible refine Gd 1 rfl ?_); refine bE 1 (cs := #[.int .i64 a0_0, .int .i64 a0_1, .int .i64 a0_2, .int .i64 a0_3, .int .i64 a0_4, .int .i64 a0_5]) (t := 69) ?_; intro gbq0 hg wq1 hbox hb; obtain ⟨nq2, BKq3, GWq4, GEq5⟩ := bx hg hbox hb; clear HB; have HB := nq2; clear nq2 hb hbox hg; obtain ⟨zq6, zq7, zq8, zq9, zq10, zq11, fq12, fq13, fq14, fq15, fq16, fq17⟩ := cf6 BKq3.out) | ((with_reducible refine Gc 109 rfl ?_); refine gL 4 Tryz.func109 #[.agg #[.int .i64 a0_0, .int .i64 a0_1, .int .i64 a0_2, .int .i64 a0_3, .int .i64 a0_4, .int .i64 a0_5]] ?_; (with_reducible refine (larchref16_Leaf.calls a0_0 a0_1 a0_2 a0_3 a0_4 a0_5 true _ A2.out).mono ?_); rintro e wq18 ⟨rfl, hb⟩; refine ⟨_, rfl, ?_⟩; replace BKq3 := Am (blk_below (bk BKq3.out) hb); replace HB := Am (below_step bs hb); (try clear hb); obtain ⟨zq19, zq20, zq21, zq22, zq23, zq24, fq25, fq26, fq27, fq28, fq29, fq30⟩ := cf6 BKq3.out))
 go_ret
 exact ⟨er, bs⟩) : p := h
theorem dd13 {p : Prop} (h : p := by
 go_wp2
 clear hE y0 y1 y2 y3 y4 y5 x0 x1 x2 x3 sh
 go_roundg kq1
 case measure => omega
 case rel => exact ⟨i + 1, A, B, by have := HI1.out; rw [Go.IntWalk.wrap64_in _ (by omega)]; rfl, ⟨by have := HI1.out; omega, by have := HI.out.2; omega⟩, ⟨HOb.out.os⟩, HE4⟩) : p := h
theorem dd14 {p : Prop} (h : p := by
 have H' := Am H
 clear H
 obtain ⟨zq0, zq1, zq2, zq3, zq4, zq5, fq6, fq7, fq8, fq9, fq10, fq11⟩ := cf6 BK377.out
 go_wp2
 go_meet
 case rel => exact ⟨_, (true), (by first | rfl | (simp; done) | (simp [*]; done)), H', ⟨by have := HJ2.out; first | omega | exact Nat.le_refl _⟩, ⟨bk BK377.out⟩, ⟨bs⟩⟩) : p := h
theorem dd15 {p : Prop} (h : p := by
 go_wp2_with (first | ((with_reducible refine Gd 1 rfl ?_); refine bE 1 (cs := #[.int .i64 a0_0, .int .i64 a0_1, .int .i64 a0_2, .int .i64 a0_3, .int .i64 a0_4, .int .i64 a0_5]) (t := 69) ?_; intro gbq0 hg wq1 hbox hb; obtain ⟨nq2, BKq3, GWq4, GEq5⟩ := bx hg hbox hb; clear HB; have HB := nq2; clear nq2 hb hbox hg; obtain ⟨zq6, zq7, zq8, zq9, zq10, zq11, fq12, fq13, fq14, fq15, fq16, fq17⟩ := cf6 BKq3.out))
 go_ret
 exact ⟨er, bs⟩) : p := h
theorem dd16 {p : Prop} (h : p := by
 have huq0 := Tryz.underlying121
 have Aq1 := Am h0
 have Aq2 := Am h1
 have Aq3 := Am h2
 have Aq4 := Am h3
 clear h0 h1 h2 h3
 go_enter Tryz.func72, Tryz.ntmps72
 go_wp2_with (fail)
 refine (black_any _ _ _ (Hx.out.below ((Below.refl _ _).alloc (Nat.le_refl _) _))).mono ?_
 rw [Aq1.out]
 rintro e w' ⟨rfl, rfl⟩
 go_wp2_with (fail)
 refine (red_any _ _ _ (Hl.out.below ((Below.refl _ _).alloc (Nat.le_refl _) _))).mono ?_
 rw [Aq2.out]
 rintro e w' ⟨rfl, rfl⟩
 go_wp2_with (fail)
 refine (red_any _ _ _ (Hll.out.below ((Below.refl _ _).alloc (Nat.le_refl _) _))).mono ?_
 rw [Aq3.out]
 rintro e w' ⟨rfl, rfl⟩
 go_wp2_with (fail)
 refine (black_any _ _ _ (Hr.out.below ((Below.refl _ _).alloc (Nat.le_refl _) _))).mono ?_
 rw [Aq4.out]
 exact dd108) : p := h
theorem dd17 {p : Prop} (h : p := by
 have hq0 := Am h6
 clear h6
 rw [Bool.false_and, Bool.false_and]
 go_enter Tryz.func105, Tryz.ntmps105
 go_wp2_with (fail)
 refine (table_isLeaf.calls _ _ _ _ _ _ _ _ H4.out).mono ?_
 rintro e w' ⟨rfl, hb⟩
 obtain ⟨hc, hf⟩ := bcell hb
 have hz : w.heap.size + 2 ≤ w'.heap.size := by have := hb.size; simpa using this
 have hcq1 : w'.cell? ⟨w.heap.size + 1, 0, none⟩ = some (.int .i64 all) := (hc _ _ (by simp)).trans (World.cell?_alloc_at _ _ _ _ (by simp))
 have hfin : Below w.heap.size w w' := (((Below.refl _ _).alloc (Nat.le_refl _) _).alloc (by simp) _).trans (hb.mono (by simp; omega))
 have HF := Am hfin
 clear hb hfin
 go_wp2_with (fail)
 refine (child_any _ all (w.heap.size + 1) _ hcq1).mono ?_
 rw [hq0.out]
 rintro e wq2 ⟨rfl, rfl⟩
 go_wp2
 go_ret
 exact ⟨rfl, HF.out⟩) : p := h
theorem dd18 {p : Prop} (h : p := by
 simp only [Option.some.injEq, Prod.mk.injEq] at H
 obtain ⟨rfl, rfl, rfl⟩ := H
 go_enter Tryz.func82, Tryz.ntmps82
 go_wp2_with (first | ((with_reducible refine Gc 142 rfl ?_); refine gL 14 Tryz.func142 #[.slice A0 l0.length c0] ?_; (with_reducible refine (table_Root.calls k _ _ l0 t163 t164 _ (kc HR0.out) HC0.out A2.out).mono ?_); rintro e wq0 ⟨rfl, hb⟩; refine ⟨_, rfl, ?_⟩; replace HB := Am (below_step bq hb); (try clear hb)))
 go_ret3
 exact ⟨_, _, er, by first | exact Kd.R_nil _ _ _ _ _ | exact Kd.N_nil _ _ _ _ _ | exact Kd.V_nil _ _ _ _ _ | exact Kd.Q_nil _ _ _ _ _ | exact Kd.S_nil _ _ _ _ _, by first | exact Kd.R_nil _ _ _ _ _ | exact Kd.N_nil _ _ _ _ _ | exact Kd.V_nil _ _ _ _ _ | exact Kd.Q_nil _ _ _ _ _ | exact Kd.S_nil _ _ _ _ _, bq⟩) : p := h
theorem dd19 {p : Prop} (h : p := by
 have H' := Am H
 clear H
 have pq0 : 0 ≤ (x29_1 : Int) := da
 have qq1 : x29_1 < (t198.length : Int) := da
 obtain ⟨adq2, eq3, hxq4⟩ := Kd.at_int (Kd.R_reads' HO_27.out).2.2 x29_1 pq0 qq1
 cases eq3
 replace pq0 := eq_true pq0
 replace qq1 := eq_true qq1
 obtain ⟨adq5, eq6, hxq7, hxq8, hxq9, hxq10, hxq11, hxq12, pq13, qq14⟩ := t6d HB.out HR0.out (rd t198 x29_1)
 cases eq6
 obtain ⟨adq15, eq16, hxq17, hxq18, hxq19, hxq20, hxq21, hxq22, pq23, qq24⟩ := t6d HB.out HR0.out (rd t198 x29_1)
 obtain rfl : adq5 = adq15 := (by injection eq16)
 exact dd100) : p := h
theorem dd20 {p : Prop} (h : p := by
 obtain ⟨xq0, xq1, eq2, eq3⟩ := box49 HKg.out
 refine pu 0 68 ?_
 refine ta 1 69 hHeld (hy := by intro w' hs; obtain ⟨yq4, yq5, -, -⟩ := box49 hs; exact gz) ?_
 refine pu 2 4 ?_
 refine on0 3 (fun K hK => ?_)
 refine sk ?_
 refine hK.out _ _ (blk_far (p := ⟨ge, 1, none⟩) (blk_far (p := ⟨ge, 0, none⟩) hHeld hne _) hne _) (fun hHeld => ?_)
 clear hK K
 refine pu 4 6 ?_
 refine done_ (by kernel_rfl) ?_
 go_wp2
 refine bodyPost_ret (results_tct rfl _ _ ge rfl (run_loadVar_row _ ge 49 49 #[.int .i64 q2, .bool q3] (0, 0) _ (bp2 HKg.out) Tryz.underlying49 rfl (by kernel_rfl)) rfl rfl) rfl ?_
 exact dd110) : p := h
theorem dd21 {p : Prop} (h : p := by
 have hk := blkB hHeld HKR.out
 obtain ⟨vq0, vq1, vq2, vq3, eq4, eq5, eq6, eq7⟩ := box107 hk
 have HK := Am hk
 have HWq8 := Am hHeld
 clear hk
 refine la0 12 (fun K hK => ?_)
 refine sk ?_
 refine hK.out _ _ ?_
 clear hK K
 refine pu 13 5 ?_
 refine done_ (by kernel_rfl) ?_
 go_wp2
 refine bodyPost_ret (results_ct rfl _ _ gr 107 #[.pointer (some ⟨g, u3 * 6, none⟩), .pointer (some ⟨g, u2 * 6, none⟩), .int .i64 KK, .bool MM] (0, 0) _ rfl (bp4 HK.out) Tryz.underlying107 rfl (by kernel_rfl)) rfl ?_
 exact ⟨by rw [← HRV.out]; exact congrArg Ending.returned HKK.out.symm, by with_reducible repeat (first | exact bel_t HB1.out HWq8.out | refine below_set ?_ GE_gr.out)⟩) : p := h
theorem dd22 {p : Prop} (h : p := by
 exact ⟨_, er, by first | exact Kd.R_nil _ _ _ _ _ | exact Kd.N_nil _ _ _ _ _ | exact Kd.V_nil _ _ _ _ _ | exact Kd.Q_nil _ _ _ _ _ | exact Kd.S_nil _ _ _ _ _, bq⟩) : p := h
theorem dd23 {p : Prop} (h : p := by
 exact dd100) : p := h
theorem dd24 {p : Prop} (h : p := by
 obtain rfl := Option.some.inj H
 go_wp2_with (first | ((with_reducible refine Gc 83 rfl ?_); refine gL 26 Tryz.func83 #[.slice A0 l0.length c0, .int .i64 0] ?_; (with_reducible refine (table_order.calls k1 _ _ l0 0 t132 _ (kc (Kd.C_below HR0.out HB.out)) HC0.out A15.out).mono ?_); rintro e wq0 ⟨vq1, rfl, hoq2, hb⟩; refine ⟨_, rfl, ?_⟩; replace HO134 := Am (Kd.R_lower hoq2 (below_size bq)); replace HB := Am (below_step bq hb); (try clear hb); (try clear hb2); (try clear hk); (try clear hi); (try clear hoq2); obtain ⟨Aoq3, coq4, eoq5⟩ := Kd.R_slice HO134.out; subst eoq5))
 go_ret
 exact ⟨er, bq⟩) : p := h
theorem dd25 {p : Prop} (h : p := by
 exact ⟨by first | rw [HV.out] | rw [← HV.out], by with_reducible repeat (first | exact hbw | refine below_set ?_ GE_ge.out)⟩) : p := h
theorem dd26 {p : Prop} (h : p := by
 intro v' wq0 hownq1 hgq2 hnilq3 hatq4
 obtain ⟨A', c', hv'⟩ := own_slice hownq1
 subst hv'
 have hres := flat_inner HI.out HRL.out HRR.out HM.out (HB12.out.trans (HB3.out.mono HB12.out.size)) HOW.out HG.out HAT.out ((Below.refl _ _).alloc (Nat.le_refl _) _) (by rw [setR_len]; exact hownq1) hgq2 (gk - 1) (by have h_ := HI.out.meas; simp only [sizeR, sizeT] at h_ ⊢; omega)
 have HRES := Am hres
 have HK : gk - 1 < gk := by have h_ := HI.out.meas; omega
 clear hres hownq1 hgq2 hnilq3 hatq4
 exact dd109) : p := h
theorem dd27 {p : Prop} (h : p := by
 refine on 8 20 fun K hK => ?_
 refine goes_ (N := some 20) Tryz.func102 (by kernel_rfl) rfl #[.int .i64 4, .int .i64 40, .int .i64 1] (by rfl) rfl rfl (by (try simp only [List.map_toArray, List.map_cons, List.map_nil]); first | done | rfl) ?_
 refine (seq_leaf.calls 4 40 1 4 0 1 40 (-1) (-1) _ (by kernel_rfl)).mono ?_
 rintro _ Wq0 ⟨rfl, hb⟩
 replace hG := hG.call hb
 refine ⟨_, rfl, hK.out _ _ hG.b (fun hHeld => ?_)⟩
 clear hK K hb
 refine nm 20 ?_
 exact norm_ (by simp only [putAll, Act.put, sI, sZ, sS]) (hCont (g7, g8) _ hG)) : p := h
theorem dd28 {p : Prop} (h : p := by
 intro v' w' hown hg hnil hat
 obtain ⟨A', c', hv'⟩ := own_slice hown
 subst hv'
 have hres := flat_leaf HI.out HM.out (((Below.refl _ _).alloc (Nat.le_refl _) _).alloc (by simp) _ |>.alloc (by simp; omega) _) (by rw [setR_len]; exact hown) hg (gk - 1) (by have := HI.out.meas; simp only [sizeR, sizeT] at this; omega)
 have HRES := Am hres
 have HK : gk - 1 < gk := by have := HI.out.meas; omega
 clear hres hown hg hnil hat
 exact dd109) : p := h
theorem dd29 {p : Prop} (h : p := by
 go_enter Tryz.func105, Tryz.ntmps105
 go_wp2
 go_ret
 exact ⟨rfl, ((Below.refl _ _).alloc (Nat.le_refl _) _).alloc (by simp) _⟩) : p := h
theorem dd30 {p : Prop} (h : p := by
 refine on 10 8 fun K hK => ?_
 refine box_step (by rfl) (N := 8) rfl (cs := #[.int .i64 0, .int .i64 0, .int .i64 0, .int .i64 0, .int .i64 0, .int .i64 0]) (t := 69) ?hr ?_
 case hr => first | (go_simp; done) | (go_simp; rfl)
 intro gq0 hg Wq1 hk hb
 replace hG := hG.al8 hg hk hb
 refine hK.out _ _ hG.b (fun hHeld => ?_)
 clear hK K hb hg hk
 refine nm 8 ?_
 exact norm_ (by simp only [putAll, Act.put, sI, sZ, sS]) (hCont (g7, gq0) _ hG)) : p := h
theorem dd31 {p : Prop} (h : p := by
 refine on 9 7 fun K hK => ?_
 refine box_step (by rfl) (N := 7) rfl (cs := #[.int .i64 0, .int .i64 0, .int .i64 0, .int .i64 0, .int .i64 0, .int .i64 0]) (t := 69) ?hr ?_
 case hr => first | (go_simp; done) | (go_simp; rfl)
 intro gq0 hg Wq1 hk hb
 replace hG := hG.al7 hg hk hb
 refine hK.out _ _ hG.b (fun hHeld => ?_)
 clear hK K hb hg hk
 refine nm 7 ?_
 exact norm_ (by simp only [putAll, Act.put, sI, sZ, sS]) (hCont (gq0, g8) _ hG)) : p := h
theorem dd32 {p : Prop} (h : p := by
 have HOq0 := Am ho
 clear ho HO
 go_wp2
 go_roundg kq1
 case measure => omega
 case rel => exact ⟨st, HS7, HB7, HOq0⟩) : p := h
theorem dd33 {p : Prop} (h : p := by
 go_wp2_with (first | ((with_reducible refine Gd 2 rfl ?_); refine bF 2 HB.out (cs := #[.slice (some ad) t.length c0, .slice Ap par.length cp, .bool false]) (t := 175) ?_; clear HB; intro gb w_gb GX_gb GE_gb HK_gb HB BB_gb; obtain ⟨yq0, yq1, yq2, fq3, fq4, fq5⟩ := box175 HK_gb.out; obtain ⟨zq6, zq7, zq8, zq9, zq10, zq11⟩ := HZ.out _ HB.out; rw [HI.out.pl] at zq10; rw [HI.out.pr] at zq11))
 go_ret
 exact ⟨rfl, HB.out⟩) : p := h
theorem dd34 {p : Prop} (h : p := by
 go_wp2_with (first | ((with_reducible refine Gd 2 rfl ?_); refine bF 2 HB.out (cs := #[.slice (some ad) t.length c0, .slice Ap par.length cp, .bool true]) (t := 175) ?_; clear HB; intro gb w_gb GX_gb GE_gb HK_gb HB BB_gb; obtain ⟨yq0, yq1, yq2, fq3, fq4, fq5⟩ := box175 HK_gb.out; obtain ⟨zq6, zq7, zq8, zq9, zq10, zq11⟩ := HZ.out _ HB.out; rw [HI.out.pl] at zq10; rw [HI.out.pr] at zq11))
 go_ret
 exact ⟨rfl, HB.out⟩) : p := h
theorem dd35 {p : Prop} (h : p := by
 exact dd110) : p := h
theorem dd36 {p : Prop} (h : p := by
 have := ih (out ++ [i]) _ _ hp2 (by simp only [List.length_append]; omega) (by simp only [List.length_append, List.length_cons, List.length_nil]; omega)
 rw [show s.reverse ++ [(t.getD i.toNat z69).f5, (t.getD i.toNat z69).f4] = ((t.getD i.toNat z69).f4 :: (t.getD i.toNat z69).f5 :: s).reverse by simp, this]
 simp only [plT, List.append_assoc, Int.toNat_of_nonneg h0, List.cons_append, List.nil_append]) : p := h
theorem dd37 {p : Prop} (h : p := by
 exact ⟨by rw [← HV.out]; rfl, by with_reducible repeat (first | exact hbw | refine below_set ?_ GE_ge.out)⟩) : p := h
theorem dd38 {p : Prop} (h : p := by
 obtain rfl := Option.some.inj H
 go_enter Tryz.func123, Tryz.ntmps123
 go_wp2_with (first | ((with_reducible refine Gd 1 rfl ?_); refine bE 1 (cs := #[.int .i64 a0_0, .bool a0_1]) (t := 49) ?_; intro gbq0 hg wq1 hbox hb; obtain ⟨nq2, BKq3, GWq4, GEq5⟩ := bx hg hbox hb; clear HB; have HB := nq2; clear nq2 hb hbox hg; obtain ⟨zq6, zq7, fq8, fq9⟩ := cf2 BKq3.out))
 go_ret
 exact ⟨er, bs⟩) : p := h
theorem dd39 {p : Prop} (h : p := by
 go_enter Tryz.func110, Tryz.ntmps110
 go_wp2
 go_ret
 exact ⟨rfl, Below.refl _ _⟩) : p := h
theorem dd40 {p : Prop} (h : p := by
 exact dd108) : p := h
theorem dd41 {p : Prop} (h : p := by
 go_enter Tryz.func148, Tryz.ntmps148
 go_wp2_with (fail)
 refine (left_calls HBT.out hj key).mono ?_
 rintro _ wq0 ⟨he, hbq1⟩
 rw [HN.out, q1] at he
 subst he
 have HBq2 := Am hbq1
 obtain ⟨zq3, zq4, zq5, zq6, zq7, zq8⟩ := (HBT.out.below hbq1).at hj
 rw [HN.out] at zq3 zq4 zq5 zq6 zq7 zq8
 clear hbq1
 go_wp2
 go_ret
 exact ⟨rfl, HBq2.out⟩) : p := h
theorem dd42 {p : Prop} (h : p := by
 rw [if_neg (by rw [q3]; decide)] at hE
 clear q3
 go_wp2
 go_roundg kq1
 case measure => omega
 case rel => exact ⟨i + 1, _, by have := HQ.out; have := HLO.out; first | rfl | (rw [Go.IntWalk.wrap64_in _ (by omega)]; rfl), ⟨by have := HQ.out; omega, by have := HI.out.2.1; omega, by have := HI.out.2.2; omega⟩, HR3, HW3, ⟨hE⟩⟩) : p := h
theorem dd43 {p : Prop} (h : p := by
 go_roundg kq1
 case measure => omega
 case rel => exact ⟨i + 1, _, _, _, by have := HQ.out; have := HLO.out; first | rfl | (rw [Go.IntWalk.wrap64_in _ (by omega)]; rfl), ⟨by have := HQ.out; omega, by have := HI.out.2.1; omega, by have := HI.out.2.2; rw [List.length_append]; exact Nat.succ_le_succ this⟩, GM, G8, GW, ⟨hE⟩⟩) : p := h
theorem dd44 {p : Prop} (h : p := by
 go_roundg kq1
 case measure => omega
 case rel => exact ⟨all1, (op ++ [p]) ++ [all.length], (i : Int) + 1, by first | rfl | (rw [Go.IntWalk.wrap64_in _ (by have := HSZ.out; omega)]), HS5, ⟨by have := HO5.out; rw [List.map_append]; exact this⟩, HB5, HH⟩) : p := h
theorem dd45 {p : Prop} (h : p := by
 by_cases e : (t.getD (ps.getD i 0).toNat z69).f1 = 0
 ·rw [if_pos e, wi (i := i) (by omega), ih (i + 1) k (by omega) (by omega), infB, decide_eq_true e, Bool.true_and]
 ·rw [if_neg e, infB, decide_eq_false e, Bool.false_and, if_neg (by simp)]) : p := h
theorem dd46 {p : Prop} (h : p := by
 exact ⟨rfl, by with_reducible repeat (first | exact HB.out | refine below_set ?_ GE_gc.out | refine below_set ?_ GE_ga.out)⟩) : p := h
theorem dd47 {p : Prop} (h : p := by
 refine (model_Kind.calls 2 0 _ (by decide +kernel)).mono ?_
 rintro _ wq0 ⟨rfl, hd⟩
 have HBq1 := Am (bel_t HB2.out hd.below)
 clear hd HB2 HK2 y0 y1 y2 y3
 go_wp2
 go_roundg 2
 case measure => omega
 case rel => exact ⟨.inr ⟨rfl, rfl⟩, HBq1⟩) : p := h
theorem dd48 {p : Prop} (h : p := by
 go_wp2_with (fail)
 refine (weigh_keys.calls k A0 c0 l0 ord par ec _ HR0.out HC0.out HK.out).mono ?_
 rintro _ wq0 ⟨vq1, vq2, rfl, hq3, hq4, hb⟩
 have HB := Am hb
 clear hb hq3 hq4
 go_wp2
 go_ret2
 exact ⟨_, rfl, Kd.R_nil _ _ _ _ _, HB.out⟩) : p := h
theorem dd49 {p : Prop} (h : p := by
 obtain rfl := Option.some.inj ho
 clear ho HO
 go_wp2
 go_ret
 exact ⟨rfl, HB7.out⟩) : p := h
theorem dd50 {p : Prop} (h : p := by
 go_enter Tryz.func137, Tryz.ntmps137
 go_wp2
 go_ret
 exact ⟨rfl, Below.refl _ _⟩) : p := h
theorem dd51 {p : Prop} (h : p := by
 rw [← HT.out] at ho
 have HOq0 := Am ho
 have HBq1 := Am hb
 clear ho hb y0 y1 y2 y3 y4 y5 y6 y7 BX
 go_wp2
 go_roundg kq1
 case measure => omega
 case rel => exact ⟨_, by rw [HI.out.1], HI.out.2.1, HI.out.2.2, HOq0, HBq1⟩) : p := h
theorem dd52 {p : Prop} (h : p := by
 rcases hp' with rfl | hp'
 ·rw [Int.toNat_natCast]; exact ⟨hmet, by omega, by omega⟩
 ·have hq0 := hu p hp'
  by_cases e : i.toNat = p.toNat
  ·rw [← e]; exact ⟨hmet, hq0.2⟩
  ·rw [getD_set_ne _ _ _ e] at hq0; exact hq0) : p := h
theorem dd53 {p : Prop} (h : p := by
 rw [if_neg (by simp)]
 injection hprog with hprog
 injection hprog with h1 h2
 exact ⟨_, rfl, .inl ⟨rfl, h2.symm⟩⟩) : p := h
theorem dd54 {p : Prop} (h : p := by
 rintro _ wq0 ⟨v, rfl, ho, hbq1⟩
 have HO := Am (Kd.R_lower ho HB.out.size)
 have HBq2 := Am (bel_t HB.out hbq1)
 clear ho hbq1
 obtain ⟨Ao, co, rfl⟩ := Kd.R_slice HO.out
 go_wp2
 go_ret2
 exact ⟨_, rfl, HO.out, HBq2.out⟩) : p := h
theorem dd55 {p : Prop} (h : p := by
 have h_ := pw_own_below (pw_own_below HM.out.out HB12.out) HB3.out
 rw [setR_len] at h_
 exact h_.kept HG.out (by rcases own_type_ne HM.out.out HM.out.own (by decide) with e | e; exact .inl e; exact .inr e)) : p := h
theorem dd56 {p : Prop} (h : p := by
 clear hE
 go_wp2
 go_ret2
 exact ⟨by rw [HE00.out, hE0]; rfl, HOb.out.os.b⟩) : p := h
theorem dd57 {p : Prop} (h : p := by
 go_wp2
 go_ret
 exact HF.out _ ((Below.refl _ _).alloc (Nat.le_refl _) _)) : p := h
theorem dd58 {p : Prop} (h : p := by
 exact ⟨by rw [HV.out], by with_reducible repeat (first | exact hbw | refine below_set ?_ GE_ge.out)⟩) : p := h
theorem dd59 {p : Prop} (h : p := by
 have := ih (out ++ [i]) s q hq (by omega) (by rw [List.length_append, List.length_singleton]; omega)
 rw [this, List.append_assoc]
 simp only [plT, List.append_nil, Int.toNat_of_nonneg h0]) : p := h
theorem dd60 {p : Prop} (h : p := by
 rw [if_pos e, Go.IntWalk.wrap64_in _ (by omega)]
 exact ih (i + 1) k (by omega) (by omega) (fun j hj => by
  by_cases ej : j = i
  ·rw [ej]; exact e
  ·exact hpre j (by omega))) : p := h
theorem dd61 {p : Prop} (h : p := by
 obtain rfl := Option.some.inj hE
 clear hE HE
 obtain ⟨Ao, co, rfl⟩ := Kd.R_slice HR.out
 go_wp2
 go_ret2
 exact ⟨_, rfl, Kd.R_lower HR.out HB.out.size, bel_t HB.out HW.out⟩) : p := h
theorem dd62 {p : Prop} (h : p := by
 go_wp2
 go_ret2
 exact ⟨by (try rw [HR.out]); (try rw [HX2.out]); rfl, Drawn0.refl _⟩) : p := h
theorem dd63 {p : Prop} (h : p := by
 exact ⟨_, er, by (with_reducible repeat (first | apply Kd.R_alloc | apply Kd.R_drewN | apply Kd.R_drew)); exact Kd.R_mono HO_5.out (fun _ hk => trivial), bq⟩) : p := h
theorem dd64 {p : Prop} (h : p := by
 go_wp2
 go_roundg (gk - 1)
 case measure => have := HK.out; omega
 case rel => exact ⟨i + 1, by go_num, by omega, ⟨by have := HK.out; omega⟩, HST, HREP⟩) : p := h
theorem dd65 {p : Prop} (h : p := by
 go_wp2
 go_roundg (gk - 1)
 case measure => have := HK.out; omega
 case rel => exact ⟨i + 1, by go_num, by omega, ⟨by have := HK.out; omega⟩, HST, HRP⟩) : p := h
theorem dd66 {p : Prop} (h : p := by
 go_enter Tryz.func169, Tryz.ntmps169
 go_wp2
 go_ret
 exact ⟨rfl, Below.refl _ _⟩) : p := h
theorem dd67 {p : Prop} (h : p := by
 repeat' with_reducible first | exact ih0 _ _ _ _ | exact LeO.refl _ | exact LeO.none _ | refine LeO.ite ?_ ?_ | refine LeO.bind ?_ (fun _ => ?_)) : p := h
theorem dd68 {p : Prop} (h : p := by
 go_meet
 case rel => exact ⟨_, (true), (by first | rfl | (simp; done) | (simp [*]; done)), H', ⟨by first | omega | exact Nat.le_refl _⟩, ⟨bq⟩⟩) : p := h
theorem dd69 {p : Prop} (h : p := by
 refine ⟨fun hmem => ?_, hn⟩
 have := (hu _ hmem).1
 rw [Int.toNat_natCast, getD_set_eq _ _ _ (by omega)] at this
 exact absurd this (by simp)) : p := h
theorem dd70 {p : Prop} (h : p := by
 unfold seq_Next.f
 rw [hc1, Option.bind_some, if_pos rfl, up_to (fun k => seq_next.mono t key k) (by omega) hn, Option.bind_some]
 rfl) : p := h
theorem dd71 {p : Prop} (h : p := by
 rw [Below.heap_setCell _ _ _ _ (by show _ ≠ _; simp; omega), hn]
 have eq0 : j < i + 1 ↔ j < i := by omega
 simp only [eq0]) : p := h
theorem dd72 {p : Prop} (h : p := by
 obtain rfl := Option.some.inj H
 obtain ⟨Aoq0, coq1, eoq2⟩ := Kd.R_slice HO_7.out
 subst eoq2
 go_wp2
 go_ret
 exact ⟨er, bq⟩) : p := h
theorem dd73 {p : Prop} (h : p := by
 have hp' : tmps[p]?.getD undef = .pointer (some ⟨g, 0, none⟩) := by simpa using hp
 simp [results, h, hp', asAddr, hl]) : p := h
theorem dd74 {p : Prop} (h : p := by
 go_wp2_with (go_at_call 132; refine (weight_any _ _ _ H.out).mono ?_; rintro e w' ⟨rfl, rfl⟩)
 go_ret
 exact ⟨rfl, rfl⟩) : p := h
theorem dd75 {p : Prop} (h : p := by
 rcases List.mem_cons.1 hq with rfl | hq
 ·decide
 ·exact absurd hq (by simp [show (Kd.int .i64).E = [] from rfl])) : p := h
theorem dd76 {p : Prop} (h : p := by
 have := h.size
 simp only [sizeR, sizeT, List.length_append, setR_len, List.length_singleton] at this ⊢
 omega) : p := h
theorem dd77 {p : Prop} (h : p := by
 rw [hr]; simp only [plT, List.append_assoc, List.nil_append, List.cons_append]; rw [Int.toNat_of_nonneg h0]) : p := h
theorem dd78 {p : Prop} (h : p := by
 refine pu 8 4 ?_
 refine pu 9 5 ?_
 refine done_ (by kernel_rfl) ?_
 go_wp2
 go_ret2
 exact ⟨rfl, HB.out⟩) : p := h
theorem dd79 {p : Prop} (h : p := by
 obtain rfl := Option.some.inj H
 go_enter Tryz.func56, Tryz.ntmps56
 go_wp2
 go_ret
 exact ⟨er, bq⟩) : p := h
theorem dd80 {p : Prop} (h : p := by
 obtain rfl := Option.some.inj H
 go_enter Tryz.func55, Tryz.ntmps55
 go_wp2
 go_ret
 exact ⟨er, bq⟩) : p := h
theorem dd81 {p : Prop} (h : p := by
 injection e with e1 _ _
 injection e1 with e1
 injection e1 with e1 _ _
 rw [e1]; exact ⟨h1, h2⟩) : p := h
theorem dd82 {p : Prop} (h : p := by
 exact ⟨rfl, by with_reducible repeat (first | exact HB1.out | refine below_set ?_ GE_ge.out)⟩) : p := h
theorem dd83 {p : Prop} (h : p := by
 rcases own_type_ne hm.own hm.out (by decide) with e | e
 ·simp [Value.ownBlock] at e
 ·exact e) : p := h
theorem dd84 {p : Prop} (h : p := by
 go_wp2
 go_roundg kq1
 case measure => omega
 case rel => exact ⟨sm, st, rfl, HS, HB, ⟨hh⟩⟩) : p := h
theorem dd85 {p : Prop} (h : p := by
 simp only [updI, if_pos, if_neg hqi, hM]
 rw [Go.IntWalk.wrap64_in _ (by omega)]; omega) : p := h
theorem dd86 {p : Prop} (h : p := by
 rintro _ wq0 ⟨rfl, hb⟩
 have HB := Am hb
 clear hb
 go_wp2
 go_ret2
 exact ⟨rfl, HB.out⟩) : p := h
theorem dd87 {p : Prop} (h : p := by
 rw [if_pos rfl] at H
 obtain rfl := Option.some.inj H
 go_wp2
 go_ret
 exact ⟨er, bq⟩) : p := h
theorem dd88 {p : Prop} (h : p := by
 go_enter Tryz.func138, Tryz.ntmps138
 go_wp2
 go_ret
 exact ⟨rfl, Below.refl _ _⟩) : p := h
theorem dd89 {p : Prop} (h : p := by
 go_enter Tryz.func113, Tryz.ntmps113
 go_wp2
 go_ret
 exact ⟨rfl, Below.refl _ _⟩) : p := h
theorem dd90 {p : Prop} (h : p := by
 obtain rfl := Option.some.inj hh
 clear hh
 go_wp2
 go_ret
 exact ⟨rfl, HB.out⟩) : p := h
theorem dd91 {p : Prop} (h : p := by
 go_wp2
 go_ret
 exact ⟨_, rfl, rfl, (Below.refl _ _).alloc (Nat.le_refl _) _⟩) : p := h
theorem dd92 {p : Prop} (h : p := by
 exact hn.1 (by rw [show ((i.toNat : Nat) : Int) = p by omega]; exact hp')) : p := h
theorem dd93 {p : Prop} (h : p := by
 cases l with
 | nil => exact absurd rfl (mkT_ne hl)
 | node _ _ _ _ => rfl) : p := h
theorem dd94 {p : Prop} (h : p := by
 obtain rfl := Option.some.inj hu
 exact World.cell?_alloc_at _ _ _ _ rfl) : p := h
theorem dd95 {p : Prop} (h : p := by
 have ho := HO.out
 rw [← HU.out, ← HV.out] at ho
 have HOq0 := Am ho
 clear ho HO HU HV
 go_wp2_with (first | ((with_reducible refine Gd 101 rfl ?_); refine gen_l (fun W => I4 w7 gl gr (C165 X) (C165 Y) W) (by first | exact HI.out | (rw [HQ.out]; exact HI.out.setr 5 (.bool true))) (fun w20 hI => ?_); have HIq1 := Am hI; clear hI; clear y0 y1 y2 y3 y4 y5 f0 f1 f2 f3 f4 f5 v0 v1 v2 v3 v4 v5 e0 e1 e2 e3 e4 e5 z0 z1 z2 z3 z4 z5; obtain ⟨y0, y1, y2, y3, y4, y5, f0, f1, f2, f3, f4, f5⟩ := box6 HIq1.out.kl; obtain ⟨v0, v1, v2, v3, v4, v5, e0, e1, e2, e3, e4, e5⟩ := box6 HIq1.out.kr) | ((with_reducible refine Gd 103 rfl ?_); refine Kd.R_lit k165 _ 165 ?hg (N := 103) ?hd (xs := [X, Y]) (inner := [.int .i64 X.f0, .int .i64 X.f1, .int .i64 X.f2, .bool X.f3, .bool X.f4, .bool X.f5, .int .i64 Y.f0, .int .i64 Y.f1, .int .i64 Y.f2, .bool Y.f3, .bool Y.f4, .bool Y.f5]) (ok := fun _ => True) (okp := fun _ => True) ?hr ?hp (fun _ hk => hk) trivial (Below.refl _ _) (Nat.le_refl _) (by simp) ?_; (case hd => rfl); (case hg => rfl); (case hr => first | (go_simp; done) | (go_simp; rfl)); (case hp => exact ((Reps.none (k165.M _ _ _) 6).snoc (k165_mkM _ _ _ X) rfl).snoc (k165_mkM _ _ _ Y) rfl); intro vq2 wq3 hoq4 hbq5 hgq6 hnq7; clear hgq6 hnq7; obtain ⟨Aq8, cq9, rfl⟩ := Kd.R_slice hoq4; have HCq10 := Am (Kd.R_reads' hoq4).2.2; have HSq11 := Am (Kd.R_below HS7.out (bel_t HIq1.out.b hbq5)); have HBq12 := Am (bel_t (bel_t HB7.out HIq1.out.b) hbq5); clear hoq4 hbq5) | ((with_reducible refine gate_builtin (b := .append) (xs := #[.tmp 100, .tmp 103]) rfl ?_); at_builtin; refine Kd.R_append_rows k165 (w0 := w) w.heap.size rfl (.tmp 100) (.tmp 103) 166 165 (.agg #[.int .i64 0, .int .i64 0, .int .i64 0, .bool false, .bool false, .bool false]) 32 rfl Tryz.underlying166 info165 rfl (by decide) (by omega) (.slice (some ⟨g4, 0, none⟩) st.length c4) (stO st) [X, Y] Aq8 2 cq9 (fun _ => True) (fun _ => False) rfl rfl HSq11.out HCq10.out (fun _ _ h => h) (fun _ hk => hk.elim) (fun _ _ => trivial) HBq12.out HBq12.out.size ?aL ?_; (case aL => have := HL.out; rw [stO_len]; omega); intro vq13 wq14 hoq15 hbq16 hgq17 hatq18; have HSq19 : Aside0 (Kd.R k165 165 wq14 w.heap.size (fun _ => True) vq13 (stO (Y :: X :: st))) := ⟨by rw [stO_cons, stO_cons, List.append_assoc]; exact hoq15⟩; have HBq20 := Am hbq16; clear hoq15 hbq16 hgq17 hatq18))
 go_roundg kq1
 case measure => omega
 case rel => exact ⟨_, HSq19, HBq20, HOq0⟩) : p := h
theorem dd96 {p : Prop} (h : p := by
 refine puT HT_.out 7 12 ?_
 refine puT HT_.out 8 13 ?_
 refine pure_ (i := 9) (N := some 14) (v := undef) (a' := ?_) #[true, true, true, true, true, true, true, true, true, true, false, false, false, false, false, false, false, false, false, false, false, false, false] rfl rfl (any_of HT_.out (by kernel_rfl)) (fun _ _ _ h => h) (Or.inr ⟨by rfl, rfl⟩) ?_ ?_
 rotate_left
 ·simp only [Act.put, sI, sZ, sS, i64_w, i32_w]
  rfl
 refine pure_ (i := 10) (N := some 15) (v := undef) (a' := ?_) #[true, true, true, true, true, true, true, true, true, true, true, false, false, false, false, false, false, false, false, false, false, false, false] rfl rfl (any_of HT_.out (by kernel_rfl)) (fun _ _ _ h => h) (Or.inr ⟨by rfl, rfl⟩) ?_ ?_
 rotate_left
 ·simp only [Act.put, sI, sZ, sS, i64_w, i32_w]
  rfl
 refine pure_ (i := 11) (N := some 16) (v := undef) (a' := ?_) #[true, true, true, true, true, true, true, true, true, true, true, true, false, false, false, false, false, false, false, false, false, false, false] rfl rfl (any_of HT_.out (by kernel_rfl)) (fun _ _ _ h => h) (Or.inr ⟨by rfl, rfl⟩) ?_ ?_
 rotate_left
 ·simp only [Act.put, sI, sZ, sS, i64_w, i32_w]
  rfl
 exact dd4) : p := h
theorem dd97 {p : Prop} (h : p := by
 obtain rfl := Option.some.inj H
 go_enter Tryz.func145, Tryz.ntmps145
 go_wp2_with (first | ((with_reducible refine Gc 168 rfl ?_); refine gL 8 Tryz.func168 #[.int .i64 a0] ?_; (with_reducible refine (cmp_isNaN_int.calls a0 false _ A3.out).mono ?_); rintro e w' ⟨rfl, ⟨nd, rfl⟩⟩; refine ⟨_, rfl, ?_⟩) | ((with_reducible refine Gc 168 rfl ?_); refine gL 10 Tryz.func168 #[.int .i64 a1] ?_; (with_reducible refine (cmp_isNaN_int.calls a1 false _ A4.out).mono ?_); rintro e w' ⟨rfl, ⟨nd, rfl⟩⟩; refine ⟨_, rfl, ?_⟩))
 exact dd9) : p := h
theorem dd98 {p : Prop} (h : p := by
 cases h6 : childB a4 all with
 | false =>
  exact dd17
 | true =>
  have h6' := Am h6
  clear h6
  rw [Bool.true_and]
  cases h7 : childB a5 all with
  | false =>
   have h7' := Am h7
   clear h7
   rw [Bool.false_and]
   exact dd5
  | true =>
   have h7' := Am h7
   clear h7
   rw [Bool.true_and]
   by_cases h8 : a4 = a5
   ·have dq0 : (a4 != a5) = false := by simp [h8]
    have eq1 : decide (a4 ≠ a5) = false := decide_eq_false (by simp [h8])
    rw [eq1]
    clear eq1 h8
    exact dd5
   ·have dq0 : (a4 != a5) = true := by simp [h8]
    have eq1 : decide (a4 ≠ a5) = true := decide_eq_true h8
    rw [eq1]
    clear eq1 h8
    exact dd5) : p := h
theorem dd99 {p : Prop} (h : p := by
 go_wp2
 go_roundg kq1
 case measure => omega
 case rel => exact ⟨i + 1, _, _, by have := HI1.out; rw [Go.IntWalk.wrap64_in _ (by omega)]; rfl, ⟨by have := HI1.out; omega, by have := HI.out.2; omega⟩, ⟨hOc.ob.os⟩, HE4⟩) : p := h
theorem dd100 {p : Prop} (h : p := by
 go_wp2
 go_roundg k1
 case measure => have := HK1.out; omega
 case rel => exact ⟨(wrap64 (x29_1 + 1)), (by first | rfl | (simp; done) | (simp [*]; done)), H', ⟨by have := HK1.out; omega⟩, ⟨kr HO_27.out⟩, ⟨bq⟩⟩) : p := h
theorem dd101 {p : Prop} (h : p := by
 rintro _ wqq0 ⟨vqq1, rfl, hRqq2, hbqq3⟩
 have HRqq4 := Am (Kd.R_lower hRqq2 HBi.out.size)
 have HBqq5 := Am (bel_t HBi.out hbqq3)
 clear hRqq2 hbqq3
 go_wp2
 go_ret2
 exact ⟨_, rfl, HRqq4.out, HBqq5.out⟩) : p := h
theorem dd102 {p : Prop} (h : p := by
 exact ⟨by rw [← HRV.out, ← HZ2.out]; rfl, by with_reducible repeat (first | exact bel_t HB1.out HW20.out | refine below_set ?_ GE_gr.out | refine below_set ?_ GE_gd.out)⟩) : p := h
theorem dd103 {p : Prop} (h : p := by
 exact ⟨by rw [← HRV.out, ← HZ2.out]; rfl, by with_reducible repeat (first | exact bel_t HB1.out HW12.out | refine below_set ?_ GE_gr.out | refine below_set ?_ GE_gd.out)⟩) : p := h
theorem dd104 {p : Prop} (h : p := by
 obtain rfl := Option.some.inj H
 go_enter Tryz.func161, Tryz.ntmps161
 go_wp2
 exact dd9) : p := h
theorem dd105 {p : Prop} (h : p := by
 obtain rfl := Option.some.inj H
 go_enter Tryz.func160, Tryz.ntmps160
 go_wp2
 exact dd9) : p := h
theorem dd106 {p : Prop} (h : p := by
 obtain rfl := Option.some.inj H
 go_enter Tryz.func99, Tryz.ntmps99
 go_wp2
 exact dd9) : p := h
theorem dd107 {p : Prop} (h : p := by
 refine puT HT_.out 21 26 ?_
 refine puT HT_.out 22 4 ?_
 refine done_ (done_of HT_.out (by kernel_rfl)) ?_
 try go_wp2
 go_ret
 exact ⟨er, bs⟩) : p := h
theorem dd108 {p : Prop} (h : p := by
 rintro e w' ⟨rfl, rfl⟩
 go_wp2
 go_ret
 exact ⟨rfl, (Below.refl _ _).alloc (Nat.le_refl _) _⟩) : p := h
theorem dd109 {p : Prop} (h : p := by
 go_wp2
 go_roundg (gk - 1)
 case measure => exact HK
 case rel => exact ⟨_, _, _, ⟨HRES.out⟩⟩) : p := h
theorem dd110 {p : Prop} (h : p := by
 exact ⟨rfl, by with_reducible repeat (first | exact hbw | refine below_set ?_ GE_ge.out)⟩) : p := h
theorem dd111 {p : Prop} (h : p := by
 obtain rfl := Option.some.inj H
 go_wp2
 repeat (go_quiet (fail); try go_wp2)
 exact dd9) : p := h
theorem dd112 {p : Prop} (h : p := by
 obtain rfl := Option.some.inj H
 go_enter Tryz.func84, Tryz.ntmps84
 exact dd15) : p := h
theorem dd113 {p : Prop} (h : p := by
 have HF := Am hfin
 clear hfin
 go_enter Tryz.func126, Tryz.ntmps126
 exact dd57) : p := h
theorem dd114 {p : Prop} (h : p := by
 have HF := Am hfin
 clear hfin
 go_enter Tryz.func125, Tryz.ntmps125
 exact dd57) : p := h
end
end Go.Proofs.YtaabbaemfnecgaaGreat.T
namespace Go.Proofs.YtaabbaemfnecgaaGreat.T
open Go.ChangeShapes Go.WideShapes Go.RowKit Go.Deep
open Go.Proofs.YtaabbaemfnecgaaGreatW.PrintWords Go.Proofs.YtaabbaemfnecgaaGreatW.PrintLast Go.Proofs.YtaabbaemfnecgaaGreatW.PrintMore
theorem cells69 : Tryz.prog.cellsOf 69 = 6 := by kernel_rfl
section
variable {H : Type} {enc : TypeId × Value → H} {W : World} {base : Nat} {spare : Nat → Bool} {held : Bool}
set_option maxRecDepth 10000 in
theorem open_node {fuel : Nat} {cs : List Value} {x : DataW H × List MemPlace} (h : DataW.trod enc Tryz.prog W base spare held fuel 69 cs = some x) :
  ∃ n : S69, cs = [.int .i64 n.f0, .int .i64 n.f1, .int .i64 n.f2, .int .i64 n.f3, .int .i64 n.f4, .int .i64 n.f5] := by
 obtain ⟨xs, k, hk, hxy, hcl, hxl, hf⟩ := DataW.trod_struct Tryz.underlying69 h
 rw [cells69] at hcl
 replace hxl : xs.length = 6 := hxl
 match xs, hxl, cs, hcl with
 | [y0, y1, y2, y3, y4, y5], _, [v0, v1, v2, v3, v4, v5], _ =>
  have g0 : DataW.trod enc Tryz.prog W base spare held k 3 [v0] = some y0 := hf 0 _ rfl
  have g1 : DataW.trod enc Tryz.prog W base spare held k 3 [v1] = some y1 := hf 1 _ rfl
  have g2 : DataW.trod enc Tryz.prog W base spare held k 3 [v2] = some y2 := hf 2 _ rfl
  have g3 : DataW.trod enc Tryz.prog W base spare held k 3 [v3] = some y3 := hf 3 _ rfl
  have g4 : DataW.trod enc Tryz.prog W base spare held k 3 [v4] = some y4 := hf 4 _ rfl
  have g5 : DataW.trod enc Tryz.prog W base spare held k 3 [v5] = some y5 := hf 5 _ rfl
  obtain ⟨n0, e0, _⟩ := DataW.trod_int Tryz.underlying3 g0
  obtain ⟨n1, e1, _⟩ := DataW.trod_int Tryz.underlying3 g1
  obtain ⟨n2, e2, _⟩ := DataW.trod_int Tryz.underlying3 g2
  obtain ⟨n3, e3, _⟩ := DataW.trod_int Tryz.underlying3 g3
  obtain ⟨n4, e4, _⟩ := DataW.trod_int Tryz.underlying3 g4
  obtain ⟨n5, e5, _⟩ := DataW.trod_int Tryz.underlying3 g5
  simp only [List.cons.injEq, and_true] at e0 e1 e2 e3 e4 e5
  exact ⟨⟨n0, n1, n2, n3, n4, n5⟩, by rw [e0, e1, e2, e3, e4, e5]⟩
theorem open_tab {a : Option Addr} {len cap : Nat} {d : DataW H} {p : List MemPlace} (h : DataW.Trod enc Tryz.prog W base spare held 22 (.slice a len cap) d p) :
  ∃ zs : List S69, zs.length = len ∧ len ≤ cap ∧ Kd.C k69 W a zs.length zs := by
 obtain ⟨fuel, hf⟩ := h
 rcases open_slice Tryz.underlying22 hf with ⟨hcs, _⟩ | ⟨a', len', cap', m, n, D, Pl, hcs, hb, hl, hm, hmm, _, hx⟩
 ·simp [Value.cells] at hcs
  obtain ⟨rfl, rfl, rfl⟩ := hcs
  exact ⟨[], rfl, Nat.le_refl _, rfl, by simp, fun h => absurd h (by simp)⟩
 ·simp [Value.cells] at hcs
  obtain ⟨rfl, rfl, rfl⟩ := hcs
  have each : ∀ i, i < len → ∃ z : S69, ∀ (j : Nat) (u : Value), ([.int .i64 z.f0, .int .i64 z.f1, .int .i64 z.f2, .int .i64 z.f3, .int .i64 z.f4, .int .i64 z.f5] : List Value)[j]? = some u → W.cell? (a'.add (i * 6 + j)) = some u := by
   intro i hi
   obtain ⟨cs', h1, h2⟩ := hx i (by rw [hmm]; split <;> omega)
   obtain ⟨z, rfl⟩ := open_node h2
   rw [cells69] at h1
   obtain ⟨_, hlen, hcell⟩ := World.cells?_some h1
   refine ⟨z, fun j u hj => ?_⟩
   have hj6 : j < 6 := by have := (List.getElem?_eq_some_iff.1 hj).1; simpa using this
   have := hcell j hj6
   rw [Deep.add_add] at this
   rw [this, hj]
  haveI : Inhabited S69 := ⟨z69⟩
  obtain ⟨q, hq⟩ := choose_lt each
  have hml : len ≤ 9223372036854775807 := Nat.le_trans (Nat.le_trans hl hm) (by decide)
  refine ⟨(List.range len).map q, by simp, hl, by simp, by simpa using hml, fun _ => ⟨a', rfl, fun j pz hj => ?_⟩⟩
  rw [List.getElem?_map] at hj
  obtain ⟨i, hi, rfl⟩ := Option.map_eq_some_iff.1 hj
  have hjl : j < len := by have := (List.getElem?_eq_some_iff.1 hi).1; simpa using this
  rw [List.getElem?_range hjl] at hi
  obtain rfl := Option.some.inj hi
  exact ⟨_, rfl, k69_mk W _, fun i u hu => hq j hjl i u hu⟩
set_option maxRecDepth 10000 in
end
end Go.Proofs.YtaabbaemfnecgaaGreat.T
namespace Go.Proofs.YtaabbaemfnecgaaGreat.T
open Go.RowKit Go.Proofs.YtaabbaemfnecgaaGreatW.PrintWords Go.Proofs.YtaabbaemfnecgaaGreatW.PrintLast Go.Proofs.YtaabbaemfnecgaaGreatW.PrintMore
attribute [local go_sem] Tryz.underlying49 Tryz.underlying60 Tryz.underlying69
section
attribute [local go_sem] max2_int min2_int max_two min_two max_three min_three max_four min_four
theorem eqA69 (d : Nat) (w : World) (x0 y0 : Int) (x1 y1 : Int) (x2 y2 : Int) (x3 y3 : Int) (x4 y4 : Int) (x5 y5 : Int) :
  (Op.equalIn (d + 2) 69 (.agg #[.int .i64 x0, .int .i64 x1, .int .i64 x2, .int .i64 x3, .int .i64 x4, .int .i64 x5]) (.agg #[.int .i64 y0, .int .i64 y1, .int .i64 y2, .int .i64 y3, .int .i64 y4, .int .i64 y5])).run Tryz.prog w = .ok (x0 == y0 && (x1 == y1 && (x2 == y2 && (x3 == y3 && (x4 == y4 && (x5 == y5)))))) w := by
 refine eqA_of Tryz.underlying69 (by kernel_rfl) ?_
 refine eqf_cons (by rfl) (by go_simp; rfl) (by go_simp; rfl) (by go_simp) ?_
 refine eqf_cons (by rfl) (by go_simp; rfl) (by go_simp; rfl) (by go_simp) ?_
 refine eqf_cons (by rfl) (by go_simp; rfl) (by go_simp; rfl) (by go_simp) ?_
 refine eqf_cons (by rfl) (by go_simp; rfl) (by go_simp; rfl) (by go_simp) ?_
 refine eqf_cons (by rfl) (by go_simp; rfl) (by go_simp; rfl) (by go_simp) ?_
 exact eqf_last (by rfl) (by go_simp; rfl) (by go_simp; rfl) (by go_simp)
end
section
attribute [local go_sem] max2_int min2_int max_two min_two max_three min_three max_four min_four
attribute [local go_sem high] eqA69
def larchref16_Equal.l0 : Nat → List (S69) → List (S69) → Int → Option (Bool)
 | 0, _, _, _ => none
 | k + 1, x0, x1, x5 => if x5 < (x0.length : Int) then (if 0 ≤ x5 then (if x5 < (x1.length : Int) then (if (!(((rd_T69 x0 x5).f0) == ((rd_T69 x1 x5).f0)) || (!(((rd_T69 x0 x5).f1) == ((rd_T69 x1 x5).f1)) || (!(((rd_T69 x0 x5).f2) == ((rd_T69 x1 x5).f2)) || (!(((rd_T69 x0 x5).f3) == ((rd_T69 x1 x5).f3)) || (!(((rd_T69 x0 x5).f4) == ((rd_T69 x1 x5).f4)) || (!(((rd_T69 x0 x5).f5) == ((rd_T69 x1 x5).f5)))))))) = true then (some false) else (larchref16_Equal.l0 k x0 x1 (wrap64 (x5 + 1)))) else (none)) else (none)) else (some true)
def larchref16_Equal.f (k : Nat) (l0 : List (S69)) (l1 : List (S69)) : Option (Bool) := if (l0.length : Int) = (l1.length : Int) then (larchref16_Equal.l0 k l0 l1 0) else (some false)
theorem larchref16_Equal.calls (k : Nat) (A0 : Option Addr) (c0 : Nat) (l0 : List (S69)) (A1 : Option Addr) (c1 : Nat) (l1 : List (S69)) (r : Bool) (w : World) (hr0 : Kd.C k69 w A0 l0.length l0) (hc0 : l0.length ≤ c0) (hr1 : Kd.C k69 w A1 l1.length l1) (hc1 : l1.length ≤ c1) (h : larchref16_Equal.f k l0 l1 = some r) :
  Calls Tryz.prog 15 #[.slice A0 l0.length c0, .slice A1 l1.length c1] w fun e w' => e = .returned (.bool r) ∧ Drawn0 w w' := by
 have HR0 := Am hr0
 have HC0 := Am hc0
 clear hr0 hc0
 have HR1 := Am hr1
 have HC1 := Am hc1
 clear hr1 hc1
 have H := h
 unfold larchref16_Equal.f at H
 clear h
 by_cases c3 : (l0.length : Int) = (l1.length : Int)
 ·rw [if_pos c3] at H
  obtain ⟨c3b0, c3b1⟩ := eq2 c3
  have c3b2 : (l0.length == l1.length) = true := by first | simpa using c3 | (simp at c3 ⊢; omega)
  clear c3
  have H' := Am H
  clear H
  go_enter Tryz.func15, Tryz.ntmps15
  go_wp2
  repeat (go_quiet (fail); try go_wp2)
  go_loopg [5] k (fun kq v5 w' => ∃ (x5_1 : Int), v5 = .int .i64 x5_1 ∧ Aside0 (larchref16_Equal.l0 kq l0 l1 x5_1 = some r) ∧ Aside0 (kq ≤ k) ∧ Drawn0 w w')
  case atStart => exact ⟨(0), (by first | rfl | (simp; done) | (simp [*]; done)), H', ⟨Nat.le_refl _⟩, by repeat (first | exact Drawn0.refl _ | apply Drawn0.step)⟩
  case round =>
   clear H'
   clear c3b0 c3b1 c3b2
   obtain ⟨x5_1, rfl, HA, HK1, ⟨m1, rfl⟩⟩ := hrel
   cases gk with
   | zero => exact absurd HA.out (by simp [larchref16_Equal.l0])
   | succ k1 =>
    have H := HA.out
    clear HA
    simp only [larchref16_Equal.l0] at H
    by_cases c4 : x5_1 < (l0.length : Int)
    ·rw [if_pos c4] at H
     have c4b0 := decide_eq_true c4
     clear c4
     obtain ⟨c5b0, H⟩ := ge H
     obtain ⟨c6b0, H⟩ := ge H
     by_cases c7 : (!(((rd_T69 l0 x5_1).f0) == ((rd_T69 l1 x5_1).f0)) || (!(((rd_T69 l0 x5_1).f1) == ((rd_T69 l1 x5_1).f1)) || (!(((rd_T69 l0 x5_1).f2) == ((rd_T69 l1 x5_1).f2)) || (!(((rd_T69 l0 x5_1).f3) == ((rd_T69 l1 x5_1).f3)) || (!(((rd_T69 l0 x5_1).f4) == ((rd_T69 l1 x5_1).f4)) || (!(((rd_T69 l0 x5_1).f5) == ((rd_T69 l1 x5_1).f5)))))))) = true
     ·rw [if_pos c7] at H
      have c7b0 : (!(((rd_T69 l0 x5_1).f0) == ((rd_T69 l1 x5_1).f0)) || (!(((rd_T69 l0 x5_1).f1) == ((rd_T69 l1 x5_1).f1)) || (!(((rd_T69 l0 x5_1).f2) == ((rd_T69 l1 x5_1).f2)) || (!(((rd_T69 l0 x5_1).f3) == ((rd_T69 l1 x5_1).f3)) || (!(((rd_T69 l0 x5_1).f4) == ((rd_T69 l1 x5_1).f4)) || (!(((rd_T69 l0 x5_1).f5) == ((rd_T69 l1 x5_1).f5)))))))) = true := c7
      clear c7
      obtain rfl := Option.some.inj H
      have p101 : 0 ≤ (x5_1 : Int) := da
      have q101 : x5_1 < (l0.length : Int) := da
      obtain ⟨ad101, e101, hx101_0, hx101_1, hx101_2, hx101_3, hx101_4, hx101_5⟩ := at_T69 HR0.out x5_1 p101 q101
      cases e101
      replace p101 := eq_true p101
      replace q101 := eq_true q101
      have p102 : 0 ≤ (x5_1 : Int) := da
      have q102 : x5_1 < (l1.length : Int) := da
      obtain ⟨ad102, e102, hx102_0, hx102_1, hx102_2, hx102_3, hx102_4, hx102_5⟩ := at_T69 HR1.out x5_1 p102 q102
      cases e102
      replace p102 := eq_true p102
      replace q102 := eq_true q102
      go_wp2
      repeat (go_quiet (fail); try go_wp2)
      exact dd9
     ·rw [if_neg c7] at H
      have c7b0 : (!(((rd_T69 l0 x5_1).f0) == ((rd_T69 l1 x5_1).f0)) || (!(((rd_T69 l0 x5_1).f1) == ((rd_T69 l1 x5_1).f1)) || (!(((rd_T69 l0 x5_1).f2) == ((rd_T69 l1 x5_1).f2)) || (!(((rd_T69 l0 x5_1).f3) == ((rd_T69 l1 x5_1).f3)) || (!(((rd_T69 l0 x5_1).f4) == ((rd_T69 l1 x5_1).f4)) || (!(((rd_T69 l0 x5_1).f5) == ((rd_T69 l1 x5_1).f5)))))))) = false := by simpa using c7
      clear c7
      have H' := Am H
      clear H
      have p101 : 0 ≤ (x5_1 : Int) := da
      have q101 : x5_1 < (l0.length : Int) := da
      obtain ⟨ad101, e101, hx101_0, hx101_1, hx101_2, hx101_3, hx101_4, hx101_5⟩ := at_T69 HR0.out x5_1 p101 q101
      cases e101
      replace p101 := eq_true p101
      replace q101 := eq_true q101
      have p102 : 0 ≤ (x5_1 : Int) := da
      have q102 : x5_1 < (l1.length : Int) := da
      obtain ⟨ad102, e102, hx102_0, hx102_1, hx102_2, hx102_3, hx102_4, hx102_5⟩ := at_T69 HR1.out x5_1 p102 q102
      cases e102
      replace p102 := eq_true p102
      replace q102 := eq_true q102
      go_wp2
      repeat (go_quiet (fail); try go_wp2)
      go_roundg k1
      case measure => have := HK1.out; omega
      case rel => exact ⟨(wrap64 (x5_1 + 1)), (by first | rfl | (simp; done) | (simp [*]; done)), H', ⟨by have := HK1.out; omega⟩, by repeat (first | exact Drawn0.refl _ | apply Drawn0.step)⟩
    ·rw [if_neg c4] at H
     have c4b0 := decide_eq_false c4
     clear c4
     exact dd111
 ·rw [if_neg c3] at H
  obtain ⟨c3b0, c3b1⟩ := ne2 c3
  have c3b2 : (l0.length == l1.length) = false := by first | simpa using c3 | (simp at c3 ⊢; omega)
  obtain rfl := Option.some.inj H
  go_enter Tryz.func15, Tryz.ntmps15
  go_wp2
  repeat (go_quiet (fail); try go_wp2)
  exact dd9
def table_isLeaf.f (a0_0 : Int) (a0_1 : Int) (a0_2 : Int) (a0_3 : Int) (a0_4 : Int) (a0_5 : Int) : Option (Bool) := if a0_4 = (-1) then (some (a0_5 == (-1))) else (some false)
theorem table_isLeaf.calls (a0_0 : Int) (a0_1 : Int) (a0_2 : Int) (a0_3 : Int) (a0_4 : Int) (a0_5 : Int) (r : Bool) (w : World) (h : table_isLeaf.f a0_0 a0_1 a0_2 a0_3 a0_4 a0_5 = some r) :
  Calls Tryz.prog 84 #[.agg #[.int .i64 a0_0, .int .i64 a0_1, .int .i64 a0_2, .int .i64 a0_3, .int .i64 a0_4, .int .i64 a0_5]] w (RB w (.bool r)) := by
 have HB := Br w
 have H : (if a0_4 = (-1) then (some (a0_5 == (-1))) else (some false)) = some r := h
 clear h
 by_cases c2 : a0_4 = (-1)
 ·rw [if_pos c2] at H
  obtain ⟨c2b0, c2b1⟩ := eq2 c2
  clear c2
  exact dd112
 ·rw [if_neg c2] at H
  obtain ⟨c2b0, c2b1⟩ := ne2 c2
  exact dd112
def table_order.l0 : Nat → List (S69) → List Bool → List Int → List Int → Option (List Int)
 | 0, _, _, _, _ => none
 | k + 1, x0, x5, x6, x7 => if (x7.length : Int) > 0 then (if 0 ≤ (wrap64 ((x7.length : Int) - 1)) then (if (wrap64 ((x7.length : Int) - 1)) < (x7.length : Int) then (if (wrap64 ((x7.length : Int) - 1)) ≤ (x7.length : Int) then ((some (x7.take ((wrap64 ((x7.length : Int) - 1)) : Int).toNat : List Int)).bind fun y111 => (if 0 ≤ (rd x7 (wrap64 ((x7.length : Int) - 1))) then (if (rd x7 (wrap64 ((x7.length : Int) - 1))) < (x5.length : Int) then (if rdOf false x5 (rd x7 (wrap64 ((x7.length : Int) - 1))) = true then (some ([] : List Int)) else ((some (x5.set ((rd x7 (wrap64 ((x7.length : Int) - 1))) : Int).toNat true : List Bool)).bind fun y115 => (if x6.length < 17592186044416 then ((some (x6 ++ [rd x7 (wrap64 ((x7.length : Int) - 1))] : List Int)).bind fun y116 => (if (rd x7 (wrap64 ((x7.length : Int) - 1))) < (x0.length : Int) then ((table_isLeaf.f ((rd_T69 x0 (rd x7 (wrap64 ((x7.length : Int) - 1)))).f0) ((rd_T69 x0 (rd x7 (wrap64 ((x7.length : Int) - 1)))).f1) ((rd_T69 x0 (rd x7 (wrap64 ((x7.length : Int) - 1)))).f2) ((rd_T69 x0 (rd x7 (wrap64 ((x7.length : Int) - 1)))).f3) ((rd_T69 x0 (rd x7 (wrap64 ((x7.length : Int) - 1)))).f4) ((rd_T69 x0 (rd x7 (wrap64 ((x7.length : Int) - 1)))).f5)).bind fun t120 => (if t120 = true then (table_order.l0 k x0 y115 y116 y111) else ((some (([(rd_T69 x0 (rd x7 (wrap64 ((x7.length : Int) - 1)))).f5, (rd_T69 x0 (rd x7 (wrap64 ((x7.length : Int) - 1)))).f4] : List Int) : List Int)).bind fun y123 => (if y111.length + y123.length < 17592186044416 then (table_order.l0 k x0 y115 y116 (y111 ++ y123)) else (none))))) else (none))) else (none)))) else (none)) else (none))) else (none)) else (none)) else (none)) else (some x6)
def table_order.f (k : Nat) (l0 : List (S69)) (a1 : Int) : Option (List Int) := if 0 ≤ (l0.length : Int) then (if ((l0.length : Int) : Int).toNat ≤ 281474976710656 then (table_order.l0 k l0 (List.replicate ((l0.length : Int) : Int).toNat false) ([] : List Int) (([a1] : List Int))) else (none)) else (none)
theorem table_order.mono_l : ∀ k, (∀ y0 y1 y2 y3, LeO (table_order.l0 k y0 y1 y2 y3) (table_order.l0 (k + 1) y0 y1 y2 y3))
 | 0 => fun _ _ _ _ r h => by simp [table_order.l0] at h
 | k + 1 => by
  have ih0 := table_order.mono_l k
  ·intro y0 y1 y2 y3
   unfold table_order.l0
   repeat' with_reducible first | exact ih0 _ _ _ _ | exact LeO.refl _ | exact LeO.none _ | refine LeO.ite ?_ ?_ | refine LeO.bind ?_ (fun _ => ?_)
theorem table_order.mono : ∀ a0 a1 k, LeO (table_order.f k a0 a1) (table_order.f (k + 1) a0 a1) := by
 intro a0 a1 k
 have ih0 := table_order.mono_l k
 unfold table_order.f
 exact dd67
def table_order.T12 : Bool × List (List Nat × List Nat) := (true, [([], []), ([], []), ([], []), ([1, 2], [1, 2]), ([3], [3]), ([4], [4]), ([], []), ([], []), ([6, 7], [6, 7]), ([8], [8]), ([9], [9]), ([5, 10], [5, 10]), ([0, 11], [0, 11]), ([12, 12, 0, 1, 2, 3, 4, 5, 6, 7, 8, 9, 10, 11, 12], [0, 12])])
def table_order.B12 : List Nat := [0, 0, 0, 6, 14, 30, 0, 0, 192, 448, 960, 2046, 4095, 8191]
theorem table_order.tab12 : rtab .any (opsOf Tryz.f83 12) = table_order.T12 := by kernel_rfl
theorem table_order.bits12 : waitsOk table_order.T12.2 table_order.B12 = true := by kernel_rfl
theorem table_order.calls (k : Nat) (A0 : Option Addr) (c0 : Nat) (l0 : List (S69)) (a1 : Int) (r : List Int) (w : World) (hr0 : Kd.C k69 w A0 l0.length l0) (hc0 : l0.length ≤ c0) (h : table_order.f k l0 a1 = some r) :
  Calls Tryz.prog 83 #[.slice A0 l0.length c0, .int .i64 a1] w fun e w' => ∃ v0_ : Value, e = .returned (v0_) ∧ Kd.R (Kd.int .i64) 3 w' w.heap.size (fun _ => True) v0_ r ∧ Below w.heap.size w w' := by
 have HR0 := Am hr0
 have HC0 := Am hc0
 clear hr0 hc0
 have HB := Br w
 have H := h
 unfold table_order.f at H
 clear h
 obtain ⟨c3, H⟩ := gd H
 have c3b0 := eq_true c3
 have c3b1 := decide_eq_true c3
 clear c3
 obtain ⟨c4, H⟩ := gd H
 have c4b0 := eq_true c4
 have c4b1 := decide_eq_true c4
 clear c4
 obtain ⟨y104, hy104⟩ : ∃ y_ : List Bool, y_ = (List.replicate ((l0.length : Int) : Int).toNat false) := ⟨_, rfl⟩
 rw [← hy104] at H
 have Ny104 := Am hy104
 clear hy104
 obtain ⟨y107, hy107⟩ : ∃ y_ : List Int, y_ = (([a1] : List Int)) := ⟨_, rfl⟩
 rw [← hy107] at H
 have Ny107 := Am hy107
 clear hy107
 have H' := Am H
 clear H
 go_enter Tryz.func83, Tryz.ntmps83
 go_wp2_with (first | ((with_reducible refine Gd 11 rfl ?_); refine Kd.R_make Kd.bool _ 4 rfl (N := 11) rfl 138 _ _ rfl (l0.length : Int) rfl rfl Tryz.underlying138 (.bool false) 1 info4 rfl (by decide) (by omega) false (ok := fun _ => True) (okp := fun _ => True) rfl (fun _ hk => hk) trivial (da) (Nat.le_trans (Nat.mul_le_mul_right _ (da : (l0.length : Int).toNat ≤ 281474976710656)) (by omega)) (Below.refl _ _) (Nat.le_refl _) ?_; intro v105 w5 ho6 hb hg_ hnew_; clear hg_ hnew_; (first | rw [← Ny104.out] at ho6 | (simp only [Int.reduceToNat] at ho6; rw [← Ny104.out] at ho6)); replace HO106 := Am (Kd.R_lower ho6 (below_size bq)); replace HB := Am (below_step bq hb); clear hb ho6) | ((with_reducible refine Gd 13 rfl ?_); refine Kd.R_lit (Kd.int .i64) _ 3 ?hg (N := 13) ?hd (xs := ([a1] : List Int)) (inner := [.int .i64 a1]) (ok := fun _ => True) (okp := fun _ => True) ?hr ?hp (fun _ hk => hk) trivial (Below.refl _ _) (Nat.le_refl _) (by simp) ?_; (case hd => rfl); (case hg => rfl); (case hr => first | (go_simp; done) | (go_simp; rfl)); (case hp => exact (Reps.one (show Kd.M (Kd.int .i64) _ _ _ a1 [.int .i64 a1] from rfl) (Reps.none _ _))); intro v108 w7 ho8 hb hg_ hnew_; clear hg_ hnew_; (first | rw [← Ny107.out] at ho8 | (simp only [Int.reduceToNat] at ho8; rw [← Ny107.out] at ho8)); replace HO106 := Am (Kd.R_below (kr HO106.out) hb); replace HO109 := Am (Kd.R_lower ho8 (below_size bq)); replace HB := Am (below_step bq hb); clear hb ho8))
 go_loopg [6, 7] k (fun kq v6 v7 w' => ∃ (x5_1 : List Bool) (x6_1 : List Int) (x7_1 : List Int), Aside0 (table_order.l0 kq l0 x5_1 x6_1 x7_1 = some r) ∧ Aside0 (kq ≤ k) ∧ Aside0 (Kd.R Kd.bool 4 w' w.heap.size (fun _ => True) v105 x5_1) ∧ Aside0 (Kd.R (Kd.int .i64) 3 w' w.heap.size (fun k_ => some k_ ≠ (v7 : Value).ownBlock) v6 x6_1) ∧ Aside0 (Kd.R (Kd.int .i64) 3 w' w.heap.size (fun k_ => some k_ ≠ (v6 : Value).ownBlock) v7 x7_1) ∧ Aside0 (Below w.heap.size w w'))
 case atStart => exact ⟨(y104), (([] : List Int)), (y107), H', ⟨Nat.le_refl _⟩, ⟨kr HO106.out⟩, ⟨by first | exact Kd.R_nil _ _ _ _ _ | exact Kd.N_nil _ _ _ _ _ | exact Kd.V_nil _ _ _ _ _ | exact Kd.Q_nil _ _ _ _ _ | exact Kd.S_nil _ _ _ _ _⟩, ⟨by (with_reducible repeat (first | apply Kd.R_alloc | apply Kd.R_drewN | apply Kd.R_drew)); exact Kd.R_mono HO109.out (fun _ hk => (by simp [Value.ownBlock]))⟩, ⟨bq⟩⟩
 case round =>
  clear H'
  clear c3b0 c3b1 c4b0 c4b1
  obtain ⟨x5_1, x6_1, x7_1, HA, HK1, HO_5, HO_6, HO_7, HB⟩ := hrel
  cases gk with
  | zero => exact absurd HA.out (by simp [table_order.l0])
  | succ k1 =>
   have H := HA.out
   clear HA
   simp only [table_order.l0] at H
   by_cases c9 : (x7_1.length : Int) > 0
   ·rw [if_pos c9] at H
    have c9b0 : decide (0 < (x7_1.length : Int)) = true := decide_eq_true c9
    have c9b1 : decide (0 < x7_1.length) = true := decide_eq_true (by omega)
    clear c9
    obtain ⟨ji10, hji10⟩ : ∃ j_ : Int, (wrap64 ((x7_1.length : Int) - 1)) = j_ := ⟨_, rfl⟩
    first | rw [hji10] at H | simp only [hji10] at H
    have hji10w : (IntKind.i64.wrap ((x7_1.length : Int) - 1)) = ji10 := (i64_w _).trans hji10
    obtain ⟨c11b0, H⟩ := ge H
    obtain ⟨c12b0, H⟩ := ge H
    obtain ⟨c13, H⟩ := gd H
    have c13b0 := eq_true c13
    have c13b1 := decide_eq_true c13
    clear c13
    obtain ⟨y111, Ny111, H⟩ := gb H
    obtain ⟨c14b0, H⟩ := ge H
    obtain ⟨c15b0, H⟩ := ge H
    obtain ⟨bq16, hbq16⟩ : ∃ b_ : Bool, b_ = (rdOf false x5_1 (rd x7_1 (ji10))) := ⟨_, rfl⟩
    rw [← hbq16] at H
    have Nbq16 := Am hbq16
    clear hbq16
    by_cases c17 : bq16 = true
    ·subst c17
     rw [if_pos rfl] at H
     obtain rfl := Option.some.inj H
     obtain ⟨Ao18, co18, eo18⟩ := Kd.R_slice HO_7.out
     subst eo18
     have p110 : 0 ≤ ((ji10) : Int) := da
     have q110 : (ji10) < (x7_1.length : Int) := da
     obtain ⟨ad110, e110, hx110_0⟩ := Kd.at_int (Kd.R_reads' HO_7.out).2.2 (ji10) p110 q110
     cases e110
     replace p110 := eq_true p110
     replace q110 := eq_true q110
     have q19 : ((ji10) : Int) ≤ ((x7_1.length : Int) : Int) := da
     obtain ⟨i019, hi019, _, hsz19, _⟩ := info_parts info3
     have hcut19 := cut_to (P := Tryz.prog) 60 3 .i64 Tryz.underlying60 hi019 (some ad110) x7_1.length co18 (ji10) (da) q19 (Kd.R_reads' HO_7.out).2.1
     have hr19 := Kd.R_take (m := ((ji10) : Int).toNat) HO_7.out (by omega)
     have hy19 : y111.length = ((ji10) : Int).toNat := (by rw [Ny111.out, List.length_take]; omega)
     rw [← Ny111.out] at hr19
     rw [← hy19] at hr19 hcut19
     clear hy19 hi019 hsz19 HO_7
     have HO113 := Am hr19
     clear hr19
     replace q19 := eq_true q19
     obtain ⟨Ao20, co20, eo20⟩ := Kd.R_slice HO_5.out
     subst eo20
     have p114 : 0 ≤ ((rd x7_1 (ji10)) : Int) := da
     have q114 : (rd x7_1 (ji10)) < (x5_1.length : Int) := da
     obtain ⟨ad114, e114, hx114_0⟩ := Kd.at_bool (Kd.R_reads' HO_5.out).2.2 (rd x7_1 (ji10)) p114 q114
     (try rw [← Nbq16.out] at hx114_0)
     cases e114
     replace p114 := eq_true p114
     replace q114 := eq_true q114
     go_wp2
     go_ret
     exact ⟨_, by first | rfl | (simp [errW_none, errW_some] <;> rfl) | (simp only [← hji10]; first | rfl | (simp [errW_none, errW_some] <;> rfl)) | (simp [*, errW_none, errW_some] <;> rfl), by first | exact Kd.R_nil _ _ _ _ _ | exact Kd.N_nil _ _ _ _ _ | exact Kd.V_nil _ _ _ _ _ | exact Kd.Q_nil _ _ _ _ _ | exact Kd.S_nil _ _ _ _ _, bq⟩
    ·replace c17 := Bool.eq_false_iff.mpr c17
     subst c17
     rw [if_neg nf] at H
     obtain ⟨y115, Ny115, H⟩ := gb H
     obtain ⟨c22, H⟩ := gd H
     have LMc22 := Am c22
     clear c22
     obtain ⟨y116, Ny116, H⟩ := gb H
     obtain ⟨c23b0, H⟩ := ge H
     obtain ⟨t120, A24, H⟩ := bo H
     by_cases c25 : t120 = true
     ·subst c25
      rw [if_pos rfl] at H
      have H' := Am H
      clear H
      obtain ⟨Ao26, co26, eo26⟩ := Kd.R_slice HO_7.out
      subst eo26
      have p110 : 0 ≤ ((ji10) : Int) := da
      have q110 : (ji10) < (x7_1.length : Int) := da
      obtain ⟨ad110, e110, hx110_0⟩ := Kd.at_int (Kd.R_reads' HO_7.out).2.2 (ji10) p110 q110
      cases e110
      replace p110 := eq_true p110
      replace q110 := eq_true q110
      have q27 : ((ji10) : Int) ≤ ((x7_1.length : Int) : Int) := da
      obtain ⟨i027, hi027, _, hsz27, _⟩ := info_parts info3
      have hcut27 := cut_to (P := Tryz.prog) 60 3 .i64 Tryz.underlying60 hi027 (some ad110) x7_1.length co26 (ji10) (da) q27 (Kd.R_reads' HO_7.out).2.1
      have hr27 := Kd.R_take (m := ((ji10) : Int).toNat) HO_7.out (by omega)
      have hy27 : y111.length = ((ji10) : Int).toNat := (by rw [Ny111.out, List.length_take]; omega)
      rw [← Ny111.out] at hr27
      rw [← hy27] at hr27 hcut27
      clear hy27 hi027 hsz27 HO_7
      have HO113 := Am hr27
      clear hr27
      replace q27 := eq_true q27
      obtain ⟨Ao28, co28, eo28⟩ := Kd.R_slice HO_5.out
      subst eo28
      have p114 : 0 ≤ ((rd x7_1 (ji10)) : Int) := da
      have q114 : (rd x7_1 (ji10)) < (x5_1.length : Int) := da
      obtain ⟨ad114, e114, hx114_0⟩ := Kd.at_bool (Kd.R_reads' HO_5.out).2.2 (rd x7_1 (ji10)) p114 q114
      (try rw [← Nbq16.out] at hx114_0)
      cases e114
      replace p114 := eq_true p114
      replace q114 := eq_true q114
      have p21 : 0 ≤ ((rd x7_1 (ji10)) : Int) := da
      have q21 : ((rd x7_1 (ji10)) : Int) < ((x5_1.length : Int) : Int) := da
      obtain ⟨go21, co21, eo21, gb21, gl21, cl21, HG21⟩ := Kd.R_form HO_5.out (by omega)
      (first | cases eo21 | (injection eo21 with ea_ en_ ec_; (first | subst ea_ | (injection ea_ with ea_; subst ea_)); subst ec_; clear en_))
      have GB21 := Am gb21
      have GG21 := Am HG21
      clear gb21 gl21 HG21
      (first | simp only [add_plain] at hx114_0 | skip)
      obtain ⟨hx21_0, hf21_0⟩ := Kd.R_celln false HO_5.out ((rd x7_1 (ji10)) : Int) p21 q21
      replace p21 := eq_true p21
      replace q21 := eq_true q21
      have HP29 := Kd.R_putg HO_5.out ((rd x7_1 (ji10)) : Int) true
      go_wp2_with (first | ((with_reducible refine gate_store (t := 4) (p := 34) rfl ?_); refine store_event (t := 4) (p := 34) (v := ?vo_w30) (w1 := (wr.setCell ⟨go21, ((rd x7_1 (ji10)) : Int).toNat, none⟩ (.bool true))) ?hg ?ho ?hn ?hr ?_; (case ho => rfl); (case hg => rfl); (case hn => rfl); (case hr => first | (go_simp; done) | (go_simp; rfl)); intro w30 hw; have hg : wr.grownBy w30 (some go21) := (by rw [hw]; exact HP29.2); have hp_ : Kd.R Kd.bool 4 w30 w.heap.size (fun _ => True) (.slice (some ⟨go21, 0, none⟩) x5_1.length co28) y115 := (by rw [hw, Ny115.out]; exact HP29.1); clear HP29; replace HO_6 := Am (Kd.R_over' (v := (.slice (some ⟨go21, 0, none⟩) x5_1.length co28)) (kr HO_6.out) (Kd.R_typed HO_5.out) (by decide) hg); replace HO113 := Am (Kd.R_over' (v := (.slice (some ⟨go21, 0, none⟩) x5_1.length co28)) (kr HO113.out) (Kd.R_typed HO_5.out) (by decide) hg); replace HO_5 := Am (hp_); replace HB := Am ((by rw [hw]; exact below_set (HB.out) GB21.out : Below w.heap.size w w30)); clear hg hw hp_) | ((with_reducible refine gate_builtin (b := .append) (xs := #[.tmp 35, .tmp 37]) rfl ?_); at_builtin; refine Kd.R_append (Kd.int .i64) (w0 := w) w.heap.size rfl (.tmp 35) (.tmp 37) 60 3 (.int .i64 0) 8 rfl Tryz.underlying60 info3 rfl (by decide) (by omega) u6 x6_1 (rd x7_1 (ji10)) [.int .i64 (rd x7_1 (ji10))] (fun k_ => some k_ ≠ (.slice (some ad110) y111.length co26 : Value).ownBlock) (fun _ => False) rfl rfl ?aP (fun _ hk => hk.elim) ?aF ?aO ?aB ?aS ?aL ?_; (case aP => exact rfl); (case aB => exact bq); (case aF => exact (fun k_ hk => Kd.fresh' (Kd.R_lt (kr HO113.out)) k_ hk)); (case aO => exact (kr HO_6.out)); (case aS => exact (below_size bq)); (case aL => have := LMc22.out; omega); intro v117 w31 ho hb hg hat; rw [← Ny116.out] at ho; replace HO_5 := Am (Kd.R_over' (kr HO_5.out) (Kd.R_typed (kr HO_6.out)) (by decide) hg); replace HO113 := Am (Kd.R_after (ok := (fun _ => True)) (by (with_reducible repeat (first | apply Kd.R_alloc | apply Kd.R_drewN | apply Kd.R_drew)); exact Kd.R_mono HO113.out (fun _ hk => ⟨trivial, hk⟩)) hg hat); replace HB := Am (hb); have HO118 := Am (ho); clear HO_6; clear ho hb hg hat; obtain ⟨ad119, e119, hx119_0, hx119_1, hx119_2, hx119_3, hx119_4, hx119_5, p119, q119⟩ := t6d HB.out HR0.out (rd x7_1 (ji10)); cases e119) | ((with_reducible refine Gc 84 rfl ?_); refine goesL_ (some 43) rfl rfl Tryz.func84 (by kernel_rfl) rfl #[.agg (cN (rd_T69 l0 (rd x7_1 (ji10))))] rfl (by (try simp only [List.map_toArray, List.map_cons, List.map_nil]); first | done | (simp only [hji10]; rfl) | rfl | (simp only [List.length_drop, List.length_take]; rfl)) ?_; (with_reducible refine (table_isLeaf.calls _ _ _ _ _ _ true _ A24.out).mono ?_); rintro e w32 ⟨rfl, hb⟩; refine ⟨_, rfl, ?_⟩; replace HO_5 := Am (Kd.R_below (kr HO_5.out) hb); replace HO113 := Am (Kd.R_below (kr HO113.out) hb); replace HO118 := Am (Kd.R_below (kr HO118.out) hb); replace HB := Am (below_step bq hb); (try clear hb)))
      go_roundg k1
      case measure => have := HK1.out; omega
      case rel => exact ⟨(y115), (y116), (y111), H', ⟨by have := HK1.out; omega⟩, ⟨kr HO_5.out⟩, ⟨kr HO118.out⟩, ⟨by (with_reducible repeat (first | apply Kd.R_alloc | apply Kd.R_drewN | apply Kd.R_drew)); exact Kd.R_mono HO113.out (fun _ hk => hk.2)⟩, ⟨bq⟩⟩
     ·replace c25 := Bool.eq_false_iff.mpr c25
      subst c25
      rw [if_neg nf] at H
      obtain ⟨y123, Ny123, H⟩ := gb H
      obtain ⟨c33, H⟩ := gd H
      have LMc33 := Am c33
      clear c33
      obtain ⟨y126, hy126⟩ : ∃ y_ : List Int, y_ = (y111 ++ y123) := ⟨_, rfl⟩
      rw [← hy126] at H
      have Ny126 := Am hy126
      clear hy126
      have H' := Am H
      clear H
      obtain ⟨Ao34, co34, eo34⟩ := Kd.R_slice HO_7.out
      subst eo34
      have p110 : 0 ≤ ((ji10) : Int) := da
      have q110 : (ji10) < (x7_1.length : Int) := da
      obtain ⟨ad110, e110, hx110_0⟩ := Kd.at_int (Kd.R_reads' HO_7.out).2.2 (ji10) p110 q110
      cases e110
      replace p110 := eq_true p110
      replace q110 := eq_true q110
      have q35 : ((ji10) : Int) ≤ ((x7_1.length : Int) : Int) := da
      obtain ⟨i035, hi035, _, hsz35, _⟩ := info_parts info3
      have hcut35 := cut_to (P := Tryz.prog) 60 3 .i64 Tryz.underlying60 hi035 (some ad110) x7_1.length co34 (ji10) (da) q35 (Kd.R_reads' HO_7.out).2.1
      have hr35 := Kd.R_take (m := ((ji10) : Int).toNat) HO_7.out (by omega)
      have hy35 : y111.length = ((ji10) : Int).toNat := (by rw [Ny111.out, List.length_take]; omega)
      rw [← Ny111.out] at hr35
      rw [← hy35] at hr35 hcut35
      clear hy35 hi035 hsz35 HO_7
      have HO113 := Am hr35
      clear hr35
      replace q35 := eq_true q35
      obtain ⟨Ao36, co36, eo36⟩ := Kd.R_slice HO_5.out
      subst eo36
      have p114 : 0 ≤ ((rd x7_1 (ji10)) : Int) := da
      have q114 : (rd x7_1 (ji10)) < (x5_1.length : Int) := da
      obtain ⟨ad114, e114, hx114_0⟩ := Kd.at_bool (Kd.R_reads' HO_5.out).2.2 (rd x7_1 (ji10)) p114 q114
      (try rw [← Nbq16.out] at hx114_0)
      cases e114
      replace p114 := eq_true p114
      replace q114 := eq_true q114
      have p21 : 0 ≤ ((rd x7_1 (ji10)) : Int) := da
      have q21 : ((rd x7_1 (ji10)) : Int) < ((x5_1.length : Int) : Int) := da
      obtain ⟨go21, co21, eo21, gb21, gl21, cl21, HG21⟩ := Kd.R_form HO_5.out (by omega)
      (first | cases eo21 | (injection eo21 with ea_ en_ ec_; (first | subst ea_ | (injection ea_ with ea_; subst ea_)); subst ec_; clear en_))
      have GB21 := Am gb21
      have GG21 := Am HG21
      clear gb21 gl21 HG21
      (first | simp only [add_plain] at hx114_0 | skip)
      obtain ⟨hx21_0, hf21_0⟩ := Kd.R_celln false HO_5.out ((rd x7_1 (ji10)) : Int) p21 q21
      replace p21 := eq_true p21
      replace q21 := eq_true q21
      have HP37 := Kd.R_putg HO_5.out ((rd x7_1 (ji10)) : Int) true
      try go_wp2_with (first | ((with_reducible refine gate_store (t := 4) (p := 34) rfl ?_); refine store_event (t := 4) (p := 34) (v := ?vo_w38) (w1 := (wr.setCell ⟨go21, ((rd x7_1 (ji10)) : Int).toNat, none⟩ (.bool true))) ?hg ?ho ?hn ?hr ?_; (case ho => rfl); (case hg => rfl); (case hn => rfl); (case hr => first | (go_simp; done) | (go_simp; rfl)); intro w38 hw; have hg : wr.grownBy w38 (some go21) := (by rw [hw]; exact HP37.2); have hp_ : Kd.R Kd.bool 4 w38 w.heap.size (fun _ => True) (.slice (some ⟨go21, 0, none⟩) x5_1.length co36) y115 := (by rw [hw, Ny115.out]; exact HP37.1); clear HP37; replace HO_6 := Am (Kd.R_over' (v := (.slice (some ⟨go21, 0, none⟩) x5_1.length co36)) (kr HO_6.out) (Kd.R_typed HO_5.out) (by decide) hg); replace HO113 := Am (Kd.R_over' (v := (.slice (some ⟨go21, 0, none⟩) x5_1.length co36)) (kr HO113.out) (Kd.R_typed HO_5.out) (by decide) hg); replace HO_5 := Am (hp_); replace HB := Am ((by rw [hw]; exact below_set (HB.out) GB21.out : Below w.heap.size w w38)); clear hg hw hp_) | ((with_reducible refine gate_builtin (b := .append) (xs := #[.tmp 35, .tmp 37]) rfl ?_); at_builtin; refine Kd.R_append (Kd.int .i64) (w0 := w) w.heap.size rfl (.tmp 35) (.tmp 37) 60 3 (.int .i64 0) 8 rfl Tryz.underlying60 info3 rfl (by decide) (by omega) u6 x6_1 (rd x7_1 (ji10)) [.int .i64 (rd x7_1 (ji10))] (fun k_ => some k_ ≠ (.slice (some ad110) y111.length co34 : Value).ownBlock) (fun _ => False) rfl rfl ?aP (fun _ hk => hk.elim) ?aF ?aO ?aB ?aS ?aL ?_; (case aP => exact rfl); (case aB => exact bq); (case aF => exact (fun k_ hk => Kd.fresh' (Kd.R_lt (kr HO113.out)) k_ hk)); (case aO => exact (kr HO_6.out)); (case aS => exact (below_size bq)); (case aL => have := LMc22.out; omega); intro v117 w39 ho hb hg hat; rw [← Ny116.out] at ho; replace HO_5 := Am (Kd.R_over' (kr HO_5.out) (Kd.R_typed (kr HO_6.out)) (by decide) hg); replace HO113 := Am (Kd.R_after (ok := (fun _ => True)) (by (with_reducible repeat (first | apply Kd.R_alloc | apply Kd.R_drewN | apply Kd.R_drew)); exact Kd.R_mono HO113.out (fun _ hk => ⟨trivial, hk⟩)) hg hat); replace HB := Am (hb); have HO118 := Am (ho); clear HO_6; clear ho hb hg hat; obtain ⟨ad119, e119, hx119_0, hx119_1, hx119_2, hx119_3, hx119_4, hx119_5, p119, q119⟩ := t6d HB.out HR0.out (rd x7_1 (ji10)); cases e119) | ((with_reducible refine Gc 84 rfl ?_); refine goesL_ (some 43) rfl rfl Tryz.func84 (by kernel_rfl) rfl #[.agg (cN (rd_T69 l0 (rd x7_1 (ji10))))] rfl (by (try simp only [List.map_toArray, List.map_cons, List.map_nil]); first | done | (simp only [hji10]; rfl) | rfl | (simp only [List.length_drop, List.length_take]; rfl)) ?_; (with_reducible refine (table_isLeaf.calls _ _ _ _ _ _ false _ A24.out).mono ?_); rintro e w40 ⟨rfl, hb⟩; refine ⟨_, rfl, ?_⟩; replace HO_5 := Am (Kd.R_below (kr HO_5.out) hb); replace HO113 := Am (Kd.R_below (kr HO113.out) hb); replace HO118 := Am (Kd.R_below (kr HO118.out) hb); replace HB := Am (below_step bq hb); (try clear hb)))
      replace HO_5 := Am (Kd.R_drew HO_5.out)
      replace HO113 := Am (Kd.R_drew HO113.out)
      replace HO118 := Am (Kd.R_drew HO118.out)
      replace HB := Am (bd HB.out)
      obtain ⟨ad121, e121, ⟨hw121_0, hw121_1, hw121_2, hw121_3, hw121_4, hw121_5⟩, hx121_0, hx121_1, hx121_2, hx121_3, hx121_4, hx121_5, p121, q121⟩ := t6e HB.out HR0.out (rd x7_1 (ji10))
      obtain rfl : ad119 = ad121 := (by injection e121)
      obtain ⟨ad122, e122, ⟨hw122_0, hw122_1, hw122_2, hw122_3, hw122_4, hw122_5⟩, hx122_0, hx122_1, hx122_2, hx122_3, hx122_4, hx122_5, p122, q122⟩ := t6e HB.out HR0.out (rd x7_1 (ji10))
      obtain rfl : ad119 = ad122 := (by injection e122)
      refine sT 14 [] (S := fun w' => w'.cell? (ad119.add (((rd x7_1 (ji10))).toNat * 6)) = some (.int .i64 ((rd_T69 l0 (rd x7_1 (ji10))).f0)) ∧ w'.cell? ⟨(ad119.add (((rd x7_1 (ji10))).toNat * 6)).block, (ad119.add (((rd x7_1 (ji10))).toNat * 6)).off + 1, none⟩ = some (.int .i64 ((rd_T69 l0 (rd x7_1 (ji10))).f1)) ∧ w'.cell? ⟨(ad119.add (((rd x7_1 (ji10))).toNat * 6)).block, (ad119.add (((rd x7_1 (ji10))).toNat * 6)).off + 2, none⟩ = some (.int .i64 ((rd_T69 l0 (rd x7_1 (ji10))).f2)) ∧ w'.cell? ⟨(ad119.add (((rd x7_1 (ji10))).toNat * 6)).block, (ad119.add (((rd x7_1 (ji10))).toNat * 6)).off + 3, none⟩ = some (.int .i64 ((rd_T69 l0 (rd x7_1 (ji10))).f3)) ∧ w'.cell? ⟨(ad119.add (((rd x7_1 (ji10))).toNat * 6)).block, (ad119.add (((rd x7_1 (ji10))).toNat * 6)).off + 4, none⟩ = some (.int .i64 ((rd_T69 l0 (rd x7_1 (ji10))).f4)) ∧ w'.cell? ⟨(ad119.add (((rd x7_1 (ji10))).toNat * 6)).block, (ad119.add (((rd x7_1 (ji10))).toNat * 6)).off + 5, none⟩ = some (.int .i64 ((rd_T69 l0 (rd x7_1 (ji10))).f5))) ⟨(hc hw121_0), (hc hw121_1), (hc hw121_2), (hc hw121_3), (hc hw121_4), (hc hw121_5)⟩ fun hHeld => ?_; refine with_tabW table_order.tab12 table_order.bits12 (fun HT_ HW_ => ?_)
      generalize w40.drew = w41 at HO_5 HO113 HO118 HB hx121_0 hx121_1 hx121_2 hx121_3 hx121_4 hx121_5 hx122_0 hx122_1 hx122_2 hx122_3 hx122_4 hx122_5 hHeld ⊢
      refine puT HT_.out 0 45 ?_
      refine puT HT_.out 1 46 ?_
      refine puT HT_.out 2 47 ?_
      refine puT HT_.out 3 48 ?_
      refine puT HT_.out 4 49 ?_
      refine puT HT_.out 6 51 ?_
      refine puT HT_.out 7 52 ?_
      refine puT HT_.out 8 53 ?_
      refine puT HT_.out 9 54 ?_
      refine taT HT_.out HW_.out 5 50 hHeld ?_
      refine taT HT_.out HW_.out 10 55 hHeld ?_
      refine onT HT_.out 11 56 fun K hK => ?_
      refine Kd.R_lit_step (Kd.int .i64) _ 3 ?hg (N := 56) ?hd (xs := ([(rd_T69 l0 (rd x7_1 (ji10))).f5, (rd_T69 l0 (rd x7_1 (ji10))).f4] : List Int)) (inner := [.int .i64 ((rd_T69 l0 (rd x7_1 (ji10))).f5), .int .i64 ((rd_T69 l0 (rd x7_1 (ji10))).f4)]) (ok := fun _ => True) (okp := fun _ => True) ?hr ?hp (fun _ hk => hk) trivial (Below.refl _ _) (Nat.le_refl _) (by simp) ?_; (case hd => rfl); (case hg => rfl); (case hr => first | (go_simp; done) | (go_simp; rfl)); (case hp => exact (Reps.one (show Kd.M (Kd.int .i64) _ _ _ ((rd_T69 l0 (rd x7_1 (ji10))).f5) [.int .i64 ((rd_T69 l0 (rd x7_1 (ji10))).f5)] from rfl) (Reps.one (show Kd.M (Kd.int .i64) _ _ _ ((rd_T69 l0 (rd x7_1 (ji10))).f4) [.int .i64 ((rd_T69 l0 (rd x7_1 (ji10))).f4)] from rfl) (Reps.none _ _))))
      intro v124 w42 ho43 hb hg_ hnew_
      clear hg_ hnew_
      (first | rw [← Ny123.out] at ho43 | (simp only [Int.reduceToNat] at ho43; rw [← Ny123.out] at ho43))
      replace HO_5 := Am (Kd.R_below (kr HO_5.out) hb)
      have HO125 := Am (Kd.R_lower (Kd.R_new' (Kd.R_new' ho43 (Kd.R_lt (kr HO113.out))) (Kd.R_lt (kr HO118.out))) (below_size bq))
      replace HO113 := Am (Kd.R_elder' (kr HO113.out) (Kd.R_base ho43) hb)
      replace HO118 := Am (Kd.R_elder' (kr HO118.out) (Kd.R_base ho43) hb)
      replace HB := Am (below_step bq hb)
      clear hb ho43
      obtain ⟨Ao45, co45, eo45⟩ := Kd.R_slice HO125.out
      (first | subst eo45 | (injection eo45 with f1_ f2_ f3_; have f4_ := f1_.symm; have f5_ := f3_.symm; clear f1_ f2_ f3_; subst f4_; subst f5_))
      refine hK.out _ _ ⟨(hc hw121_0), (hc hw121_1), (hc hw121_2), (hc hw121_3), (hc hw121_4), (hc hw121_5)⟩ (fun hHeld => ?_)
      clear hK K
      refine nm 56 ?_
      refine onT HT_.out 12 57 fun K hK => ?_
      refine Kd.R_append_rows_step (Kd.int .i64) (w0 := w) w.heap.size (by rfl) (.tmp 45) (.tmp 56) 60 3 (.int .i64 0) 8 rfl Tryz.underlying60 info3 rfl (by decide) (by omega) (.slice (some ad110) y111.length co34) y111 y123 _ _ _ (fun k_ => some k_ ≠ (v117 : Value).ownBlock ∧ some k_ ≠ (.slice Ao45 y123.length co45 : Value).ownBlock) (fun _ => False) rfl rfl ?aO ?aR (fun _ _ h => h) (fun _ h => h.elim) ?aF ?aB ?aS ?aL ?_
      (case aR => repeat (first | exact (Kd.R_reads' HO125.out).2.2 | (with_reducible refine Kd.C_alloc ?_ _) | (with_reducible refine Kd.C_drewN ?_ _) | (with_reducible refine Kd.C_drew ?_)))
      (case aB => exact bq)
      (case aF => exact (fun k_ hk => ⟨Kd.fresh' (Kd.R_lt (kr HO118.out)) k_ hk, Kd.fresh' (Kd.R_lt (kr HO125.out)) k_ hk⟩))
      (case aO => exact (by (with_reducible repeat (first | apply Kd.R_alloc | apply Kd.R_drewN | apply Kd.R_drew)); exact Kd.R_mono HO113.out (fun _ hk => ⟨hk.1.2, hk.2⟩)))
      (case aS => exact (below_size bq))
      (case aL => have := LMc33.out; omega)
      intro v127 w44 ho hb hg hat
      rw [← Ny126.out] at ho
      replace HO_5 := Am (Kd.R_over' (kr HO_5.out) (Kd.R_typed (kr HO113.out)) (by decide) hg)
      replace HO118 := Am (Kd.R_after (ok := (fun k_ => some k_ ≠ (.slice Ao45 y123.length co45 : Value).ownBlock)) (by (with_reducible repeat (first | apply Kd.R_alloc | apply Kd.R_drewN | apply Kd.R_drew)); exact Kd.R_mono HO118.out (fun _ hk => ⟨hk.2, hk.1⟩)) hg hat)
      replace HO125 := Am (Kd.R_after (ok := (fun k_ => some k_ ≠ (v117 : Value).ownBlock)) (by (with_reducible repeat (first | apply Kd.R_alloc | apply Kd.R_drewN | apply Kd.R_drew)); exact Kd.R_mono HO125.out (fun _ hk => ⟨hk.2, hk.1.2⟩)) hg hat)
      replace HB := Am (hb)
      have HO128 := Am (ho)
      clear HO113
      clear ho hb hg hat
      refine hK.out _ _ ⟨(hc hw121_0), (hc hw121_1), (hc hw121_2), (hc hw121_3), (hc hw121_4), (hc hw121_5)⟩ (fun hHeld => ?_)
      clear hK K
      refine nm 57 ?_
      refine puT HT_.out 13 7 ?_
      refine done_ (done_of HT_.out (by kernel_rfl)) ?_
      try go_wp2
      go_roundg k1
      case measure => have := HK1.out; omega
      case rel => exact ⟨(y115), (y116), (y126), H', ⟨by have := HK1.out; omega⟩, ⟨kr HO_5.out⟩, ⟨by (with_reducible repeat (first | apply Kd.R_alloc | apply Kd.R_drewN | apply Kd.R_drew)); exact Kd.R_mono HO118.out (fun _ hk => hk.2)⟩, ⟨by (with_reducible repeat (first | apply Kd.R_alloc | apply Kd.R_drewN | apply Kd.R_drew)); exact Kd.R_mono HO128.out (fun _ hk => hk.1)⟩, ⟨bq⟩⟩
   ·rw [if_neg c9] at H
    have c9b0 : decide (0 < (x7_1.length : Int)) = false := decide_eq_false c9
    have c9b1 : decide (0 < x7_1.length) = false := decide_eq_false (by omega)
    clear c9
    obtain rfl := Option.some.inj H
    obtain ⟨Ao46, co46, eo46⟩ := Kd.R_slice HO_7.out
    subst eo46
    go_wp2
    go_ret
    exact ⟨_, er, by (with_reducible repeat (first | apply Kd.R_alloc | apply Kd.R_drewN | apply Kd.R_drew)); exact Kd.R_mono HO_6.out (fun _ hk => trivial), bq⟩
end
section
attribute [local go_sem] max2_int min2_int max_two min_two max_three min_three max_four min_four
def childB (i all : Int) : Bool := decide (1 ≤ i) && decide (i < all)
theorem child_yes (i all : Int) (g : Nat) (w : World) (hc : w.cell? ⟨g, 0, none⟩ = some (.int .i64 all)) (h0 : 1 ≤ i) (h1 : i < all) :
  Calls Tryz.prog 156 #[.int .i64 i, .pointer (some ⟨g, 0, none⟩)] w fun e w' => e = .returned (.bool true) ∧ w' = w := by
 have d0 : decide (1 ≤ i) = true := decide_eq_true h0
 have d1 : decide (i < all) = true := decide_eq_true h1
 go_enter Tryz.func156, Tryz.ntmps156
 go_wp2
 go_ret
 exact ⟨rfl, rfl⟩
theorem child_no1 (i all : Int) (g : Nat) (w : World) (hc : w.cell? ⟨g, 0, none⟩ = some (.int .i64 all)) (h0 : ¬ 1 ≤ i) :
  Calls Tryz.prog 156 #[.int .i64 i, .pointer (some ⟨g, 0, none⟩)] w fun e w' => e = .returned (.bool false) ∧ w' = w := by
 have d0 : decide (1 ≤ i) = false := decide_eq_false h0
 go_enter Tryz.func156, Tryz.ntmps156
 go_wp2
 go_ret
 exact ⟨rfl, rfl⟩
theorem child_no2 (i all : Int) (g : Nat) (w : World) (hc : w.cell? ⟨g, 0, none⟩ = some (.int .i64 all)) (h0 : 1 ≤ i) (h1 : ¬ i < all) :
  Calls Tryz.prog 156 #[.int .i64 i, .pointer (some ⟨g, 0, none⟩)] w fun e w' => e = .returned (.bool false) ∧ w' = w := by
 have d0 : decide (1 ≤ i) = true := decide_eq_true h0
 have d1 : decide (i < all) = false := decide_eq_false h1
 go_enter Tryz.func156, Tryz.ntmps156
 go_wp2
 go_ret
 exact ⟨rfl, rfl⟩
theorem child_any (i all : Int) (g : Nat) (w : World) (hc : w.cell? ⟨g, 0, none⟩ = some (.int .i64 all)) :
  Calls Tryz.prog 156 #[.int .i64 i, .pointer (some ⟨g, 0, none⟩)] w fun e w' => e = .returned (.bool (childB i all)) ∧ w' = w := by
 unfold childB
 by_cases h0 : 1 ≤ i
 ·by_cases h1 : i < all
  ·simp only [h0, h1, decide_true, Bool.and_self]; exact child_yes i all g w hc h0 h1
  ·simp only [h0, h1, decide_true, decide_false, Bool.and_false]; exact child_no2 i all g w hc h0 h1
 ·simp only [h0, decide_false, Bool.false_and]; exact child_no1 i all g w hc h0
theorem bcell {W w1 : World} (hb : Below W.heap.size W w1) : (∀ b o, b < W.heap.size → w1.cell? ⟨b, o, none⟩ = W.cell? ⟨b, o, none⟩) ∧ (∀ b o, b < W.heap.size → w1.frozen? ⟨b, o, none⟩ = W.frozen? ⟨b, o, none⟩) :=
 ⟨fun b o h => hb.cell (p := ⟨b, o, none⟩) h, fun b o h => hb.frozen (p := ⟨b, o, none⟩) h⟩
def formedB (a0 a1 a2 a3 a4 a5 all : Int) : Bool :=
 if a2 < 0 ∨ 1000000 < a2 ∨ (a1 ≠ 0 ∧ a1 ≠ 1) then false
 else if a1 = 1 ∧ (a0 ≠ 0 ∨ a3 ≠ 0) then false
 else if a4 = -1 ∧ a5 = -1 then true
 else decide (a3 = 0) && childB a4 all && childB a5 all && decide (a4 ≠ a5)
theorem formed_e1 (a0 a1 a2 a3 a4 a5 all : Int) (w : World) (h : a2 < 0 ∨ 1000000 < a2 ∨ (a1 ≠ 0 ∧ a1 ≠ 1)) :
  Calls Tryz.prog 105 #[.agg #[.int .i64 a0, .int .i64 a1, .int .i64 a2, .int .i64 a3, .int .i64 a4, .int .i64 a5], .int .i64 all] w (RB w (.bool false)) := by
 have hu34 := Tryz.underlying69
 by_cases h0 : a2 < 0
 ·clear h
  have d0 : decide (a2 < 0) = true := decide_eq_true h0
  clear h0
  exact dd29
 ·have d0 : decide (a2 < 0) = false := decide_eq_false h0
  by_cases h1 : 1000000 < a2
  ·clear h
   have d1 : decide (1000000 < a2) = true := decide_eq_true h1
   clear h0 h1
   exact dd29
  ·have d1 : decide (1000000 < a2) = false := decide_eq_false h1
   have d2 : (a1 != 0) = true := by rw [bne_iff_ne]; omega
   have d3 : (a1 != 1) = true := by rw [bne_iff_ne]; omega
   clear h0 h1 h
   exact dd29
theorem formed_e2 (a0 a1 a2 a3 a4 a5 all : Int) (w : World) (h0 : 0 ≤ a2) (h1 : a2 ≤ 1000000) (h2 : a1 = 1) (h3 : a0 ≠ 0 ∨ a3 ≠ 0) :
  Calls Tryz.prog 105 #[.agg #[.int .i64 a0, .int .i64 a1, .int .i64 a2, .int .i64 a3, .int .i64 a4, .int .i64 a5], .int .i64 all] w (RB w (.bool false)) := by
 have hu34 := Tryz.underlying69
 have d0 : decide (a2 < 0) = false := decide_eq_false (by omega)
 have d1 : decide (1000000 < a2) = false := decide_eq_false (by omega)
 subst h2
 clear h0 h1
 by_cases h4 : a0 = 0
 ·have d4 : (a0 != 0) = false := by simp [h4]
  have d5 : (a3 != 0) = true := by rw [bne_iff_ne]; omega
  clear h4 h3
  exact dd29
 ·have d4 : (a0 != 0) = true := by rw [bne_iff_ne]; omega
  clear h4 h3
  exact dd29
theorem formed_rest (a0 a1 a2 a3 a4 a5 all : Int) (b : Bool) (w : World) (h0 : 0 ≤ a2) (h1 : a2 ≤ 1000000)
  (h4 : table_isLeaf.f a0 a1 a2 a3 a4 a5 = some b)
  (h2 : (a1 = 1 ∧ a0 = 0 ∧ a3 = 0) ∨ a1 = 0) :
  Calls Tryz.prog 105 #[.agg #[.int .i64 a0, .int .i64 a1, .int .i64 a2, .int .i64 a3, .int .i64 a4, .int .i64 a5], .int .i64 all] w fun e w' => e = .returned (.bool (b || (decide (a3 = 0) && childB a4 all && childB a5 all && decide (a4 ≠ a5)))) ∧ Below w.heap.size w w' := by
 have hu34 := Tryz.underlying69
 have d0 : decide (a2 < 0) = false := decide_eq_false (by omega)
 have d1 : decide (1000000 < a2) = false := decide_eq_false (by omega)
 clear h0 h1
 have H4 := Am h4
 clear h4
 cases b with
 | true =>
  rw [Bool.true_or]
  rcases h2 with ⟨rfl, rfl, rfl⟩ | rfl
  all_goals
   go_enter Tryz.func105, Tryz.ntmps105
   go_wp2_with (fail)
   refine (table_isLeaf.calls _ _ _ _ _ _ _ _ H4.out).mono ?_
   rintro e w' ⟨rfl, hb⟩
   go_wp2
   go_ret
   exact ⟨rfl, (((Below.refl _ _).alloc (Nat.le_refl _) _).alloc (by simp) _).trans (hb.mono (by simp; omega))⟩
 | false =>
  rw [Bool.false_or]
  rcases h2 with ⟨rfl, rfl, rfl⟩ | rfl
  ·have e5 : decide ((0:Int) = 0) = true := rfl
   rw [e5, Bool.true_and]
   clear e5
   exact dd98
  ·by_cases h5 : a3 = 0
   ·have d5 : (a3 == 0) = true := by simp [h5]
    have e5 : decide (a3 = 0) = true := decide_eq_true h5
    rw [e5, Bool.true_and]
    clear e5 h5
    exact dd98
   ·have d5 : (a3 == 0) = false := by simp [h5]
    have e5 : decide (a3 = 0) = false := decide_eq_false h5
    rw [e5, Bool.false_and, Bool.false_and, Bool.false_and]
    clear e5 h5
    go_enter Tryz.func105, Tryz.ntmps105
    go_wp2_with (fail)
    refine (table_isLeaf.calls _ _ _ _ _ _ _ _ H4.out).mono ?_
    rintro e w' ⟨rfl, hb⟩
    obtain ⟨hc, hf⟩ := bcell hb
    have hz : w.heap.size + 2 ≤ w'.heap.size := by have := hb.size; simpa using this
    have hc0 : w'.cell? ⟨w.heap.size + 1, 0, none⟩ = some (.int .i64 all) := (hc _ _ (by simp)).trans (World.cell?_alloc_at _ _ _ _ (by simp))
    have hfin : Below w.heap.size w w' := (((Below.refl _ _).alloc (Nat.le_refl _) _).alloc (by simp) _).trans (hb.mono (by simp; omega))
    have HF := Am hfin
    clear hb hfin
    go_wp2
    go_ret
    exact ⟨rfl, HF.out⟩
def table_formed.f (a0_0 a0_1 a0_2 a0_3 a0_4 a0_5 a1 : Int) : Option Bool := some (formedB a0_0 a0_1 a0_2 a0_3 a0_4 a0_5 a1)
theorem table_formed.calls (a0_0 a0_1 a0_2 a0_3 a0_4 a0_5 a1 : Int) (r : Bool) (w : World) (h : table_formed.f a0_0 a0_1 a0_2 a0_3 a0_4 a0_5 a1 = some r) :
  Calls Tryz.prog 105 #[.agg #[.int .i64 a0_0, .int .i64 a0_1, .int .i64 a0_2, .int .i64 a0_3, .int .i64 a0_4, .int .i64 a0_5], .int .i64 a1] w (RB w (.bool r)) := by
 obtain rfl := Option.some.inj h
 by_cases h1 : a0_2 < 0 ∨ 1000000 < a0_2 ∨ (a0_1 ≠ 0 ∧ a0_1 ≠ 1)
 ·rw [show formedB a0_0 a0_1 a0_2 a0_3 a0_4 a0_5 a1 = false from by rw [formedB, if_pos h1]]
  exact formed_e1 _ _ _ _ _ _ _ _ h1
 ·by_cases h2 : a0_1 = 1 ∧ (a0_0 ≠ 0 ∨ a0_3 ≠ 0)
  ·rw [show formedB a0_0 a0_1 a0_2 a0_3 a0_4 a0_5 a1 = false from by rw [formedB, if_neg h1, if_pos h2]]
   exact formed_e2 _ _ _ _ _ _ _ _ (by omega) (by omega) h2.1 h2.2
  ·have e : formedB a0_0 a0_1 a0_2 a0_3 a0_4 a0_5 a1 = (decide (a0_4 = -1 ∧ a0_5 = -1) || (decide (a0_3 = 0) && childB a0_4 a1 && childB a0_5 a1 && decide (a0_4 ≠ a0_5))) := by
    rw [formedB, if_neg h1, if_neg h2]
    split <;> simp [*]
   rw [e]
   refine formed_rest _ _ _ _ _ _ _ _ _ (by omega) (by omega) ?_ (by omega)
   unfold table_isLeaf.f
   split
   ·rename_i h4; simp [h4]
    by_cases h5 : a0_5 = -1 <;> simp [h5]
   ·rename_i h4; simp [h4]
def table_Check.l0 : Nat → List (S69) → List (S69) → Int → Int → Option (Int)
 | 0, _, _, _, _ => none
 | k + 1, x0, x13, x14, x15 => if x15 < x14 then (if 0 ≤ x15 then (if x15 < (x13.length : Int) then ((table_formed.f ((rd_T69 x13 x15).f0) ((rd_T69 x13 x15).f1) ((rd_T69 x13 x15).f2) ((rd_T69 x13 x15).f3) ((rd_T69 x13 x15).f4) ((rd_T69 x13 x15).f5) (x0.length : Int)).bind fun t131 => (if t131 = true then (table_Check.l0 k x0 x13 x14 (wrap64 (x15 + 1))) else (some 3))) else (none)) else (none)) else ((table_order.f k x0 0).bind fun t132 => (if (t132.length : Int) = (x0.length : Int) then (some 0) else (some 3)))
def table_Check.f (k : Nat) (l0 : List (S69)) : Option (Int) := if (l0.length : Int) > 100000 then (some 2) else (if (l0.length : Int) = 0 then (some 3) else (table_Check.l0 k l0 l0 (l0.length : Int) 0))
theorem table_Check.mono_l : ∀ k, (∀ y0 y1 y2 y3, LeO (table_Check.l0 k y0 y1 y2 y3) (table_Check.l0 (k + 1) y0 y1 y2 y3))
 | 0 => fun _ _ _ _ r h => by simp [table_Check.l0] at h
 | k + 1 => by
  have ih0 := table_Check.mono_l k
  ·intro y0 y1 y2 y3
   unfold table_Check.l0
   repeat' with_reducible first | exact ih0 _ _ _ _ | exact table_order.mono _ _ _ | exact LeO.refl _ | exact LeO.none _ | refine LeO.ite ?_ ?_ | refine LeO.bind ?_ (fun _ => ?_)
theorem table_Check.mono : ∀ a0 k, LeO (table_Check.f k a0) (table_Check.f (k + 1) a0) := by
 intro a0 k
 have ih0 := table_Check.mono_l k
 unfold table_Check.f
 repeat' with_reducible first | exact ih0 _ _ _ _ | exact table_order.mono _ _ _ | exact LeO.refl _ | exact LeO.none _ | refine LeO.ite ?_ ?_ | refine LeO.bind ?_ (fun _ => ?_)
theorem table_Check.calls (k : Nat) (A0 : Option Addr) (c0 : Nat) (l0 : List (S69)) (r : Int) (w : World) (hr0 : Kd.C k69 w A0 l0.length l0) (hc0 : l0.length ≤ c0) (h : table_Check.f k l0 = some r) :
  Calls Tryz.prog 55 #[.slice A0 l0.length c0] w (RB w (.int .i64 r)) := by
 have HR0 := Am hr0
 have HC0 := Am hc0
 clear hr0 hc0
 have HB := Br w
 have H := h
 unfold table_Check.f at H
 clear h
 by_cases c2 : (l0.length : Int) > 100000
 ·rw [if_pos c2] at H
  have c2b0 : decide (100000 < (l0.length : Int)) = true := decide_eq_true c2
  have c2b1 : decide (100000 < l0.length) = true := decide_eq_true (by omega)
  clear c2
  exact dd80
 ·rw [if_neg c2] at H
  have c2b0 : decide (100000 < (l0.length : Int)) = false := decide_eq_false c2
  have c2b1 : decide (100000 < l0.length) = false := decide_eq_false (by omega)
  clear c2
  by_cases c3 : (l0.length : Int) = 0
  ·rw [if_pos c3] at H
   obtain ⟨c3b0, c3b1⟩ := eq2 c3
   clear c3
   exact dd80
  ·rw [if_neg c3] at H
   obtain ⟨c3b0, c3b1⟩ := ne2 c3
   have c3b2 : ¬ (l0 = []) := fun h_ => c3 (by rw [h_]; rfl)
   have H' := Am H
   clear H
   go_enter Tryz.func55, Tryz.ntmps55
   go_wp2
   go_loopg [15] k (fun kq v15 w' => ∃ (x15_1 : Int), v15 = .int .i64 x15_1 ∧ Aside0 (table_Check.l0 kq l0 l0 (l0.length : Int) x15_1 = some r) ∧ Aside0 (kq ≤ k) ∧ Aside0 (Below w.heap.size w w'))
   case atStart => exact ⟨(0), (by first | rfl | (simp; done) | (simp [*]; done)), H', ⟨Nat.le_refl _⟩, ⟨bq⟩⟩
   case round =>
    clear H'
    clear c2b0 c2b1 c3 c3b0 c3b1 c3b2
    obtain ⟨x15_1, rfl, HA, HK1, HB⟩ := hrel
    cases gk with
    | zero => exact absurd HA.out (by simp [table_Check.l0])
    | succ k1 =>
     have H := HA.out
     clear HA
     simp only [table_Check.l0] at H
     by_cases c4 : x15_1 < (l0.length : Int)
     ·rw [if_pos c4] at H
      have c4b0 := decide_eq_true c4
      clear c4
      obtain ⟨c5b0, H⟩ := ge H
      obtain ⟨c6b0, H⟩ := ge H
      obtain ⟨t131, A7, H⟩ := bo H
      by_cases c8 : t131 = true
      ·subst c8
       rw [if_pos rfl] at H
       have H' := Am H
       clear H
       obtain ⟨ad129, e129, hx129_0, hx129_1, hx129_2, hx129_3, hx129_4, hx129_5, p129, q129⟩ := t6d HB.out HR0.out x15_1
       cases e129
       go_wp2_with (first | ((with_reducible refine Gd 4 rfl ?_); refine bE 4 (cs := #[.int .i64 0, .int .i64 0, .int .i64 0, .int .i64 0, .int .i64 0, .int .i64 0]) (t := 69) ?_; intro gb130 hg w9 hbox hb; obtain ⟨n0_, BK130, GW130, GE130⟩ := bx hg hbox hb; clear HB; have HB := n0_; clear n0_ hb hbox hg; obtain ⟨z10_0, z10_1, z10_2, z10_3, z10_4, z10_5, f10_0, f10_1, f10_2, f10_3, f10_4, f10_5⟩ := cf6 BK130.out) | ((with_reducible refine Gc 105 rfl ?_); refine gL 22 Tryz.func105 #[.agg (cN (rd_T69 l0 x15_1)), .int .i64 (l0.length : Int)] ?_; (with_reducible refine (table_formed.calls _ _ _ _ _ _ (l0.length : Int) true _ A7.out).mono ?_); rintro e w11 ⟨rfl, hb⟩; refine ⟨_, rfl, ?_⟩; replace BK130 := Am (blk_below (g := gb130) (o := .cells (cN (rd_T69 l0 x15_1)) 69 (0, 0)) (bp6 BK130.out) hb); replace HB := Am (below_step bs hb); (try clear hb)))
       go_roundg k1
       case measure => have := HK1.out; omega
       case rel => exact ⟨(wrap64 (x15_1 + 1)), (by first | rfl | (simp; done) | (simp [*]; done)), H', ⟨by have := HK1.out; omega⟩, ⟨bs⟩⟩
      ·replace c8 := Bool.eq_false_iff.mpr c8
       subst c8
       rw [if_neg nf] at H
       obtain rfl := Option.some.inj H
       obtain ⟨ad129, e129, hx129_0, hx129_1, hx129_2, hx129_3, hx129_4, hx129_5, p129, q129⟩ := t6d HB.out HR0.out x15_1
       cases e129
       go_wp2_with (first | ((with_reducible refine Gd 4 rfl ?_); refine bE 4 (cs := #[.int .i64 0, .int .i64 0, .int .i64 0, .int .i64 0, .int .i64 0, .int .i64 0]) (t := 69) ?_; intro gb130 hg w12 hbox hb; obtain ⟨n0_, BK130, GW130, GE130⟩ := bx hg hbox hb; clear HB; have HB := n0_; clear n0_ hb hbox hg; obtain ⟨z13_0, z13_1, z13_2, z13_3, z13_4, z13_5, f13_0, f13_1, f13_2, f13_3, f13_4, f13_5⟩ := cf6 BK130.out) | ((with_reducible refine Gc 105 rfl ?_); refine gL 22 Tryz.func105 #[.agg (cN (rd_T69 l0 x15_1)), .int .i64 (l0.length : Int)] ?_; (with_reducible refine (table_formed.calls _ _ _ _ _ _ (l0.length : Int) false _ A7.out).mono ?_); rintro e w14 ⟨rfl, hb⟩; refine ⟨_, rfl, ?_⟩; replace BK130 := Am (blk_below (g := gb130) (o := .cells (cN (rd_T69 l0 x15_1)) 69 (0, 0)) (bp6 BK130.out) hb); replace HB := Am (below_step bs hb); (try clear hb)))
       go_ret
       exact ⟨er, bs⟩
     ·rw [if_neg c4] at H
      have c4b0 := decide_eq_false c4
      clear c4
      obtain ⟨t132, A15, H⟩ := bo H
      by_cases c16 : (t132.length : Int) = (l0.length : Int)
      ·rw [if_pos c16] at H
       obtain ⟨c16b0, c16b1⟩ := eq2 c16
       have c16b2 : (t132.length == l0.length) = true := by first | simpa using c16 | (simp at c16 ⊢; omega)
       clear c16
       exact dd24
      ·rw [if_neg c16] at H
       obtain ⟨c16b0, c16b1⟩ := ne2 c16
       have c16b2 : (t132.length == l0.length) = false := by first | simpa using c16 | (simp at c16 ⊢; omega)
       exact dd24
end
end Go.Proofs.YtaabbaemfnecgaaGreat.T
namespace Go.Proofs.YtaabbaemfnecgaaGreat.V
open Go.Proofs.YtaabbaemfnecgaaGreat.T
open Go.RowKit Go.Proofs.YtaabbaemfnecgaaGreatW.PrintWords Go.Proofs.YtaabbaemfnecgaaGreatW.PrintLast Go.Proofs.YtaabbaemfnecgaaGreatW.PrintMore
set_option linter.unusedVariables false
set_option linter.unusedSimpArgs false
theorem rd_cells {w : World} {A : Option Addr} {l : List S69} (h : Kd.C k69 w A l.length l) {i : Nat} (hi : i < l.length) : ∃ ad, A = some ad ∧ ∀ w', Below w.heap.size w w' → w'.cell? (ad.add (i * 6)) = some (.int .i64 (l.getD i z69).f0) ∧ w'.cell? ⟨(ad.add (i * 6)).block, (ad.add (i * 6)).off + 1, none⟩ = some (.int .i64 (l.getD i z69).f1) ∧ w'.cell? ⟨(ad.add (i * 6)).block, (ad.add (i * 6)).off + 2, none⟩ = some (.int .i64 (l.getD i z69).f2) ∧ w'.cell? ⟨(ad.add (i * 6)).block, (ad.add (i * 6)).off + 3, none⟩ = some (.int .i64 (l.getD i z69).f3) ∧ w'.cell? ⟨(ad.add (i * 6)).block, (ad.add (i * 6)).off + 4, none⟩ = some (.int .i64 (l.getD i z69).f4) ∧ w'.cell? ⟨(ad.add (i * 6)).block, (ad.add (i * 6)).off + 5, none⟩ = some (.int .i64 (l.getD i z69).f5) := by
 obtain ⟨ad, e, h0, h1, h2, h3, h4, h5⟩ := at_T69 h (i : Int) (by omega) (by omega)
 have t : ∀ (w' : World) (a : Addr) (v : Value), Below w.heap.size w w' → w.cell? a = some v → w'.cell? a = some v := fun w' a v hb h => (hb.cell (World.block_lt_of_cell? w a h)).trans h
 exact ⟨ad, e, fun w' hb => ⟨t _ _ _ hb h0, t _ _ _ hb h1, t _ _ _ hb h2, t _ _ _ hb h3, t _ _ _ hb h4, t _ _ _ hb h5⟩⟩
theorem leaf_f (n : S69) : table_isLeaf.f n.f0 n.f1 n.f2 n.f3 n.f4 n.f5 = some (decide (n.f4 = -1 ∧ n.f5 = -1)) := by
 unfold table_isLeaf.f
 by_cases h : n.f4 = -1
 ·rw [if_pos h]
  by_cases h5 : n.f5 = -1
  ·simp [h, h5]
  ·simp [h, h5]
 ·rw [if_neg h]
  simp [h]
theorem putI {W : World} {base g n cap : Nat} {ok : Nat → Prop} {xs : List Int} (h : Kd.R (Kd.int .i64) 3 W base ok (.slice (some ⟨g, 0, none⟩) n cap) xs) {c : Nat} (hc : c < n) (x : Int) :
  (∃ u, W.cell? ⟨g, c, none⟩ = some u) ∧ W.frozen? ⟨g, c, none⟩ = false ∧ Kd.R (Kd.int .i64) 3 (W.setCell ⟨g, c, none⟩ (.int .i64 x)) base ok (.slice (some ⟨g, 0, none⟩) n cap) (xs.set c x) ∧ W.grownBy (W.setCell ⟨g, c, none⟩ (.int .i64 x)) (some g) := by
 obtain ⟨h1, h2⟩ := Kd.R_celln 0 h (c : Int) (by omega) (by omega)
 have h3 := Kd.R_putg h (c : Int) x
 rw [Int.toNat_natCast] at h1 h2 h3
 exact ⟨⟨_, h1⟩, h2, h3⟩
theorem gen_q {Q : Exit → Act → World → Prop} {e : Exit} {a : Act} {W : World} (S : World → Prop) (h : S W) (k : ∀ W', S W' → Q e a W') : Q e a W := k W h
theorem gen_any {P : Program} {md : Region.Mode} {ops : Array Oper} {Q : Exit → Act → World → Prop} {T : World → Prop} {ds : List Nat} {f : Nat} {l : Array Bool} {a : Act} {W : World} (S : World → Prop) (h : S W) (k : ∀ W', S W' → wpAnyLast P md ops Q T ds f l a W') : wpAnyLast P md ops Q T ds f l a W := k W h
theorem blkB {w W' : World} (h : Below w.heap.size w W') {k : Nat} {o : Obj} (hc : w.heap[k]? = some o) : W'.heap[k]? = some o := (h.block k (blk_lt hc)).trans hc
theorem bel_t {w w1 w2 : World} (h : Below w.heap.size w w1) (hb : Below w1.heap.size w1 w2) : Below w.heap.size w w2 := h.trans (hb.mono h.size)
theorem grown_below {w W W' : World} {g : Nat} (h : W.grownBy W' (some g)) (hb : Below w.heap.size w W) (hg : w.heap.size ≤ g) : Below w.heap.size w W' :=
 hb.trans ⟨h.os, h.tape, h.output, h.size, fun k hk => by
  rcases Nat.lt_or_ge k W.heap.size with hlt | hge
  ·exact h.block k hlt (fun he => by injection he with he; omega)
  ·exact absurd (Nat.lt_of_lt_of_le hk hb.size) (by omega)⟩
theorem up_to {α : Type} {f : Nat → Option α} (h : ∀ k, LeO (f k) (f (k + 1))) {k k' : Nat} (hk : k ≤ k') {r : α} (hr : f k = some r) : f k' = some r := by
 induction hk with
 | refl => exact hr
 | step _ ih => exact h _ _ ih
theorem box69 {W : World} {g : Nat} {a b c d e f : Value} (h : W.heap[g]? = some (.cells #[a, b, c, d, e, f] 69 (0, 0))) : W.cell? ⟨g, 0, none⟩ = some a ∧ W.cell? ⟨g, 1, none⟩ = some b ∧ W.cell? ⟨g, 2, none⟩ = some c ∧ W.cell? ⟨g, 3, none⟩ = some d ∧ W.cell? ⟨g, 4, none⟩ = some e ∧ W.cell? ⟨g, 5, none⟩ = some f ∧ W.frozen? ⟨g, 0, none⟩ = false ∧ W.frozen? ⟨g, 1, none⟩ = false ∧ W.frozen? ⟨g, 2, none⟩ = false ∧ W.frozen? ⟨g, 3, none⟩ = false ∧ W.frozen? ⟨g, 4, none⟩ = false ∧ W.frozen? ⟨g, 5, none⟩ = false :=
 ⟨(blk_cell h 0).trans rfl, (blk_cell h 1).trans rfl, (blk_cell h 2).trans rfl, (blk_cell h 3).trans rfl, (blk_cell h 4).trans rfl, (blk_cell h 5).trans rfl, blk_frozen h 0, blk_frozen h 1, blk_frozen h 2, blk_frozen h 3, blk_frozen h 4, blk_frozen h 5⟩
abbrev cs69 (n : S69) : Array Value := #[.int .i64 n.f0, .int .i64 n.f1, .int .i64 n.f2, .int .i64 n.f3, .int .i64 n.f4, .int .i64 n.f5]
abbrev set69 (W : World) (g : Nat) (n : S69) : World := ((((((W.setCell ⟨g, 0, none⟩ (.int .i64 n.f0)).setCell ⟨g, 1, none⟩ (.int .i64 n.f1)).setCell ⟨g, 2, none⟩ (.int .i64 n.f2)).setCell ⟨g, 3, none⟩ (.int .i64 n.f3)).setCell ⟨g, 4, none⟩ (.int .i64 n.f4)).setCell ⟨g, 5, none⟩ (.int .i64 n.f5))
theorem set69_blk {W : World} {g : Nat} {a b c d e f : Value} (h : W.heap[g]? = some (.cells #[a, b, c, d, e, f] 69 (0, 0))) (n : S69) : (set69 W g n).heap[g]? = some (.cells (cs69 n) 69 (0, 0)) :=
 blk_set (blk_set (blk_set (blk_set (blk_set (blk_set h 0 (.int .i64 n.f0)) 1 (.int .i64 n.f1)) 2 (.int .i64 n.f2)) 3 (.int .i64 n.f3)) 4 (.int .i64 n.f4)) 5 (.int .i64 n.f5)
theorem set69_bel {w W : World} {g : Nat} (h : Below w.heap.size w W) (hg : w.heap.size ≤ g) (n : S69) : Below w.heap.size w (set69 W g n) :=
 below_set (below_set (below_set (below_set (below_set (below_set h hg) hg) hg) hg) hg) hg
theorem set69_R {α : Type} {d : Kd α} {e : Nat} {W : World} {base : Nat} {ok : Nat → Prop} {v : Value} {xs : List α} (h : d.R e W base ok v xs) {g : Nat} {a b c d' e' f : Value} (hb : W.heap[g]? = some (.cells #[a, b, c, d', e', f] 69 (0, 0))) (ht : ∀ q, q ∈ e :: d.E → q ≠ 69) (n : S69) : d.R e (set69 W g n) base ok v xs := by
 have b1 := blk_set hb 0 (.int .i64 n.f0)
 have b2 := blk_set b1 1 (.int .i64 n.f1)
 have b3 := blk_set b2 2 (.int .i64 n.f2)
 have b4 := blk_set b3 3 (.int .i64 n.f3)
 have b5 := blk_set b4 4 (.int .i64 n.f4)
 exact Kd.R_set (Kd.R_set (Kd.R_set (Kd.R_set (Kd.R_set (Kd.R_set h hb ht _ _) b1 ht _ _) b2 ht _ _) b3 ht _ _) b4 ht _ _) b5 ht _ _
theorem int_far {W : World} {base g n cap : Nat} {ok : Nat → Prop} {xs : List Int} (h : Kd.R (Kd.int .i64) 3 W base ok (.slice (some ⟨g, 0, none⟩) n cap) xs) (hp : 0 < n) {gb t : Nat} {c : Array Value} (hb : W.heap[gb]? = some (.cells c t (0, 0))) (ht : (t == 3) = false) (i : Nat) (u : Value) : (W.setCell ⟨g, i, none⟩ u).heap[gb]? = some (.cells c t (0, 0)) := by
 have h1 := (Kd.R_reads' h).1
 obtain ⟨g', c', e, _, _, c2, h2⟩ := Kd.R_form h (by omega)
 injection e with e1 _ _
 injection e1 with e1
 injection e1 with e1 _ _
 subst e1
 exact blk_far hb (blk_ne hb h2 (by simpa using ht)) u
theorem ne3 : ∀ q, q ∈ 3 :: (Kd.int .i64).E → q ≠ 69 := fun q hq => by
 rcases List.mem_cons.1 hq with rfl | hq
 ·decide
 ·exact absurd hq (by simp [show (Kd.int .i64).E = [] from rfl])
end Go.Proofs.YtaabbaemfnecgaaGreat.V
namespace Go.Proofs.YtaabbaemfnecgaaGreat.T
open Go.RowKit Go.Proofs.YtaabbaemfnecgaaGreatW.PrintWords Go.Proofs.YtaabbaemfnecgaaGreatW.PrintLast Go.Proofs.YtaabbaemfnecgaaGreatW.PrintMore
attribute [local go_sem] Tryz.underlying49 Tryz.underlying60 Tryz.underlying69
section
open Go.Proofs.YtaabbaemfnecgaaGreat.V
def inR (t : List S69) : Bool := t.all fun n => (n.f4 == -1 && n.f5 == -1) || (decide (0 ≤ n.f4) && decide (n.f4 < t.length) && decide (0 ≤ n.f5) && decide (n.f5 < t.length))
def parP (t : List S69) : Nat → List Int
 | 0 => (List.replicate t.length 0).set 0 (-1)
 | i + 1 => if (t.getD i z69).f4 = -1 ∧ (t.getD i z69).f5 = -1 then parP t i else ((parP t i).set (t.getD i z69).f4.toNat i).set (t.getD i z69).f5.toNat i
theorem parP_len (t : List S69) : ∀ i, (parP t i).length = t.length
 | 0 => by simp [parP]
 | i + 1 => by
  rw [parP]
  split
  ·exact parP_len t i
  ·simp [parP_len t i]
def table_Parents.f (k : Nat) (l0 : List S69) : Option (List Int × Int) := (table_Check.f k l0).bind fun e => if e = 0 then (if l0 = [] ∨ 100000 < l0.length ∨ inR l0 = false then none else some (parP l0 l0.length, 0)) else some ([], e)
theorem table_Parents.mono : ∀ a0 k, LeO (table_Parents.f k a0) (table_Parents.f (k + 1) a0) := by
 intro a0 k
 unfold table_Parents.f
 exact LeO.bind (table_Check.mono _ _) (fun _ => LeO.refl _)
theorem inR_at {t : List S69} (h : inR t = true) {i : Nat} (hi : i < t.length) (hl : ¬ ((t.getD i z69).f4 = -1 ∧ (t.getD i z69).f5 = -1)) : ∃ a b : Nat, (t.getD i z69).f4 = a ∧ (t.getD i z69).f5 = b ∧ a < t.length ∧ b < t.length := by
 rw [inR, List.all_eq_true] at h
 have h1 := h (t.getD i z69) (by rw [List.getD_eq_getElem?_getD, List.getElem?_eq_getElem hi]; exact List.getElem_mem _)
 simp only [Bool.or_eq_true, Bool.and_eq_true, beq_iff_eq, decide_eq_true_eq] at h1
 rcases h1 with h1 | h1
 ·exact absurd h1 hl
 ·exact ⟨(t.getD i z69).f4.toNat, (t.getD i z69).f5.toNat, by omega, by omega, by omega, by omega⟩
theorem table_Parents.calls (k : Nat) (A0 : Option Addr) (c0 : Nat) (l0 : List (S69)) (r1 : List Int) (r2 : Int) (w : World) (hr0 : Kd.C k69 w A0 l0.length l0) (hc0 : l0.length ≤ c0) (h : table_Parents.f k l0 = some (r1, r2)) :
  Calls Tryz.prog 114 #[.slice A0 l0.length c0] w fun e w' => ∃ v0_ : Value, e = .returned (.tuple #[v0_, .int .i64 r2]) ∧ Kd.R (Kd.int .i64) 3 w' w.heap.size (fun _ => True) v0_ r1 ∧ Below w.heap.size w w' := by
 have HR0 := Am hr0
 have HC0 := Am hc0
 clear hr0 hc0
 unfold table_Parents.f at h
 obtain ⟨ec, hc, h⟩ := Option.bind_eq_some_iff.mp h
 have HCK := Am hc
 clear hc
 by_cases q0 : ec = 0
 ·subst q0
  rw [if_pos rfl] at h
  by_cases q1 : l0 = [] ∨ 100000 < l0.length ∨ inR l0 = false
  ·rw [if_pos q1] at h; cases h
  rw [if_neg q1] at h
  obtain ⟨rfl, rfl⟩ : parP l0 l0.length = r1 ∧ 0 = r2 := by injection h with h; injection h with h1 h2; exact ⟨h1, h2⟩
  have HL := Am (show 0 < l0.length ∧ l0.length ≤ 100000 ∧ inR l0 = true by
   refine ⟨?_, by omega, by cases hq : inR l0 with | true => rfl | false => exact absurd (.inr (.inr hq)) q1⟩
   cases l0 with
   | nil => exact absurd (.inl rfl) q1
   | cons => simp)
  clear h q1
  go_enter Tryz.func114, Tryz.ntmps114
  go_wp2_with (fail)
  refine (table_Check.calls k A0 c0 l0 0 _ HR0.out HC0.out HCK.out).mono ?_
  rintro _ w1 ⟨rfl, hb⟩
  have HB := Am hb
  clear hb HCK
  go_wp2_with (first | ((with_reducible refine Gd 15 rfl ?_); refine Kd.R_make (Kd.int .i64) _ 3 rfl (N := 15) rfl 60 _ _ rfl (l0.length : Int) rfl rfl Tryz.underlying60 (.int .i64 0) 8 info3 rfl (by decide) (by omega) (0 : Int) (ok := fun _ => True) (okp := fun _ => True) rfl (fun _ hk => hk) trivial (by omega) (by have := HL.out; omega) (Below.refl _ _) (Nat.le_refl _) ?_; intro v5 w2 ho hb hg_ hnew_; rw [Int.toNat_natCast] at ho; have HO := Am (Kd.R_lower ho HB.out.size); have HB2 := Am (bel_t HB.out hb); clear ho hb hg_ hnew_ HB; obtain ⟨g5, c5, rfl, hg5, -, -⟩ := Kd.R_form HO.out (by rw [List.length_replicate]; exact HL.out.1); rw [List.length_replicate] at HO ⊢; obtain ⟨⟨u0, hu0⟩, hf0, hR0, hG0⟩ := putI HO.out HL.out.1 (-1); have p5 : ((0 : Int) < (l0.length : Int)) = True := eq_true (by have := HL.out.1; omega); have p6 : decide ((0 : Int) < (l0.length : Int)) = true := decide_eq_true (by have := HL.out.1; omega); have p8 : (0 < l0.length) = True := eq_true HL.out.1; have p7 : ¬ (l0 = []) := fun e => absurd HL.out.1 (by rw [e]; simp); have HG5 := Am hg5; have HS := Am hR0; have HBS := Am (grown_below hG0 HB2.out hg5); clear hR0 hG0 hg5 HO HB2))
  try clear hu0 hf0
  go_loopg [20] (l0.length + 1) (fun kq v20 w' => ∃ i : Nat, v20 = .int .i64 i ∧ Aside0 (i ≤ l0.length ∧ kq + i = l0.length + 1) ∧ Aside0 (Kd.R (Kd.int .i64) 3 w' w.heap.size (fun _ => True) (.slice (some ⟨g5, 0, none⟩) l0.length c5) (parP l0 i)) ∧ Aside0 (Below w.heap.size w w'))
  case atStart => exact ⟨0, rfl, ⟨Nat.zero_le _, rfl⟩, HS, HBS⟩
  case round =>
   clear HS HBS p5 p6 p7
   obtain ⟨i, rfl, HI, HS, HB⟩ := hrel
   obtain ⟨kq1, rfl⟩ : ∃ x, gk = x + 1 := ⟨gk - 1, by have := HI.out; omega⟩
   by_cases q1 : i < l0.length
   ·obtain ⟨ad, ead, hz⟩ := rd_cells HR0.out q1
    obtain ⟨z0, z1, z2, z3, z4, z5⟩ := hz _ HB.out
    cases ead
    have p5 : (0 ≤ (i : Int)) = True := eq_true (by omega)
    have p6 : ((i : Int) < (l0.length : Int)) = True := eq_true (by omega)
    have p7 : decide ((i : Int) < (l0.length : Int)) = true := decide_eq_true (by omega)
    have HQ := Am q1
    obtain ⟨n, hn⟩ : ∃ n, l0.getD i z69 = n := ⟨_, rfl⟩
    have HN := Am hn
    rw [hn] at z0 z1 z2 z3 z4 z5
    clear hz q1 hn
    go_wp2_with (first | ((with_reducible refine Gd 7 rfl ?_); refine bE 7 (cs := #[.int .i64 0, .int .i64 0, .int .i64 0, .int .i64 0, .int .i64 0, .int .i64 0]) (t := 69) ?_; intro gb hg_ w_gb hk_ hb_; have GE_gb := Am (show w.heap.size ≤ gb from hg_ ▸ HB.out.size); have HK_gb := Am hk_; have HB_ := Am (bel_t HB.out hb_); have BB_gb := Am hb_; clear hg_ hk_ hb_ HB; have HB := HB_; clear HB_; obtain ⟨y0, y1, y2, y3, y4, y5, f0, f1, f2, f3, f4, f5⟩ := box69 HK_gb.out))
    refine (table_isLeaf.calls _ _ _ _ _ _ _ _ (leaf_f n)).mono ?_
    rintro _ w8 ⟨rfl, hb⟩
    have hK8 : w8.heap[gb]? = some (.cells (cs69 n) 69 (0, 0)) := blk_below (set69_blk HK_gb.out n) hb
    have HS8 := Am (Kd.R_below (set69_R (Kd.R_below HS.out BB_gb.out) HK_gb.out ne3 n) hb)
    have HB8 := Am (bel_t (set69_bel HB.out GE_gb.out n) hb)
    clear hb y0 y1 y2 y3 y4 y5 f0 f1 f2 f3 f4 f5 z0 z1 z2 z3 z4 z5 HS HB BB_gb HK_gb p5 p6 p7 p8
    by_cases hl : n.f4 = -1 ∧ n.f5 = -1
    ·rw [decide_eq_true hl]
     have hP : parP l0 (i + 1) = parP l0 i := by rw [parP, HN.out, if_pos hl]
     rw [← hP] at HS8
     clear hP hl hK8
     go_wp2
     go_roundg kq1
     case measure => omega
     case rel => exact ⟨i + 1, by have := HQ.out; have := HL.out; rw [Go.IntWalk.wrap64_in _ (by omega)]; rfl, ⟨by have := HQ.out; omega, by have := HI.out.2; omega⟩, HS8, HB8⟩
    ·rw [decide_eq_false hl]
     have hP : parP l0 (i + 1) = ((parP l0 i).set n.f4.toNat i).set n.f5.toNat i := by rw [parP, HN.out, if_neg hl]
     have hl' := hl
     rw [← HN.out] at hl'
     obtain ⟨ka, kb, e4, e5, la, lb⟩ := inR_at HL.out.2.2 HQ.out hl'
     rw [HN.out] at e4 e5
     rw [e4, e5, Int.toNat_natCast, Int.toNat_natCast] at hP
     rw [cs69, e4, e5] at hK8
     have HK8 := Am hK8
     have LA := Am la
     have LB := Am lb
     have HP := Am hP
     clear hl hl' e4 e5 la lb hP hK8
     go_wp2
     refine sT 12 [] (S := fun W' => W'.heap[gb]? = some (.cells #[.int .i64 n.f0, .int .i64 n.f1, .int .i64 n.f2, .int .i64 n.f3, .int .i64 ka, .int .i64 kb] 69 (0, 0))) (blk_below HK8.out ((Below.refl _ _).drew)) fun hHeld => ?_
     refine gen_any (fun W => W.heap[gb]? = some (.cells #[.int .i64 n.f0, .int .i64 n.f1, .int .i64 n.f2, .int .i64 n.f3, .int .i64 ka, .int .i64 kb] 69 (0, 0)) ∧ Kd.R (Kd.int .i64) 3 W w.heap.size (fun _ => True) (.slice (some ⟨g5, 0, none⟩) l0.length c5) (parP l0 i) ∧ Below w.heap.size w W) ⟨hHeld, Kd.R_below HS8.out ((Below.refl _ _).drew), bel_t HB8.out ((Below.refl _ _).drew)⟩ (fun w9 hh => ?_)
     clear hHeld HS8 HB8 HK8
     have hHeld := hh.1
     have HS := Am hh.2.1
     have HB := Am hh.2.2
     clear hh
     have pa : (0 ≤ (ka : Int)) = True := eq_true (by omega)
     have pb : ((ka : Int) < (l0.length : Int)) = True := eq_true (by have := LA.out; omega)
     have pa' : (0 ≤ (kb : Int)) = True := eq_true (by omega)
     have pb' : ((kb : Int) < (l0.length : Int)) = True := eq_true (by have := LB.out; omega)
     have pc : (ka < l0.length) = True := eq_true LA.out
     have pc' : (kb < l0.length) = True := eq_true LB.out
     refine pu 0 28 ?_
     refine pu 1 29 ?_
     refine ta 2 30 hHeld (hy := by intro w' hs; obtain ⟨y0, y1, y2, y3, y4, y5, -⟩ := box69 hs; go_simp; with_reducible rfl) ?_
     refine pu 3 31 ?_
     refine pu 4 32 ?_
     refine ta 5 33 hHeld (hy := by intro w' hs; obtain ⟨y0, y1, y2, y3, y4, y5, -⟩ := box69 hs; go_simp; with_reducible rfl) ?_
     refine pu 6 34 ?_
     refine pu 7 35 ?_
     refine pu 8 36 ?_
     obtain ⟨⟨u1, hu1⟩, hf1, hR1, hG1⟩ := putI HS.out LA.out i
     refine on0 9 (fun K hK => ?_)
     refine sk ?_
     refine hK.out _ _ (int_far HS.out (by have := LA.out; omega) hHeld rfl _ _) (fun hHeld => ?_)
     clear hK K
     have HS1 := Am hR1
     have HB1 := Am (grown_below hG1 HB.out HG5.out)
     clear hR1 hG1 hu1 hf1 HS HB
     obtain ⟨⟨u2, hu2⟩, hf2, hR2, hG2⟩ := putI HS1.out LB.out i
     refine gen_any (fun W => W = _) rfl (fun w10 hw10 => ?_)
     rw [← hw10] at hu2 hf2 hR2 hG2 HS1 HB1 hHeld
     clear hw10
     refine pu 10 37 ?_
     refine on0 11 (fun K hK => ?_)
     refine sk ?_
     refine hK.out _ _ (int_far HS1.out (by have := LA.out; omega) hHeld rfl _ _) (fun hHeld => ?_)
     clear hK K
     rw [← HP.out] at hR2
     have HS2 := Am hR2
     have HB2 := Am (grown_below hG2 HB1.out HG5.out)
     clear hR2 hG2 hu2 hf2 HS1 HB1 hHeld HP pa pb pa' pb' pc pc'
     refine done_ (by kernel_rfl) ?_
     go_wp2
     go_roundg kq1
     case measure => omega
     case rel => exact ⟨i + 1, by have := HQ.out; have := HL.out; rw [Go.IntWalk.wrap64_in _ (by omega)]; rfl, ⟨by have := HQ.out; omega, by have := HI.out.2; omega⟩, HS2, HB2⟩
   ·have p7 : decide ((i : Int) < (l0.length : Int)) = false := decide_eq_false (by omega)
    go_wp2
    go_ret2
    obtain rfl : i = l0.length := by have := HI.out; omega
    exact ⟨_, rfl, HS.out, HB.out⟩
 ·rw [if_neg q0] at h
  obtain ⟨rfl, rfl⟩ : [] = r1 ∧ ec = r2 := by injection h with h; injection h with h1 h2; exact ⟨h1, h2⟩
  have q1 : (ec == 0) = false := by simpa using q0
  have q2 : (ec != 0) = true := by simpa using q0
  clear h q0
  go_enter Tryz.func114, Tryz.ntmps114
  go_wp2_with (fail)
  refine (table_Check.calls k A0 c0 l0 ec _ HR0.out HC0.out HCK.out).mono ?_
  rintro _ w1 ⟨rfl, hb⟩
  have HB := Am hb
  clear hb
  go_wp2
  go_ret2
  exact ⟨_, rfl, Kd.R_nil _ _ _ _ _, HB.out⟩
end
section
attribute [local go_sem] max2_int min2_int max_two min_two max_three min_three max_four min_four
attribute [local go_sem high] eqA69
def table_sentinel.f  : Option (Int × Int × Int × Int × Int × Int) := some (0, 1, 1, 0, (-1), (-1))
theorem table_sentinel.calls  (r1 : Int) (r2 : Int) (r3 : Int) (r4 : Int) (r5 : Int) (r6 : Int) (w : World) (h : table_sentinel.f  = some (r1, r2, r3, r4, r5, r6)) :
  Calls Tryz.prog 121 #[] w (RB w (.agg #[.int .i64 r1, .int .i64 r2, .int .i64 r3, .int .i64 r4, .int .i64 r5, .int .i64 r6])) := by
 have HB := Br w
 have H : (some (0, 1, 1, 0, (-1), (-1))) = some (r1, r2, r3, r4, r5, r6) := h
 clear h
 simp only [Option.some.injEq, Prod.mk.injEq] at H
 obtain ⟨rfl, rfl, rfl, rfl, rfl, rfl⟩ := H
 go_enter Tryz.func121, Tryz.ntmps121
 go_wp2_with (first | ((with_reducible refine Gd 0 rfl ?_); refine bE 0 (cs := #[.int .i64 0, .int .i64 0, .int .i64 0, .int .i64 0, .int .i64 0, .int .i64 0]) (t := 69) ?_; intro gb135 hg w1 hbox hb; obtain ⟨n0_, BK135, GW135, GE135⟩ := bx hg hbox hb; clear HB; have HB := n0_; clear n0_ hb hbox hg; obtain ⟨z2_0, z2_1, z2_2, z2_3, z2_4, z2_5, f2_0, f2_1, f2_2, f2_3, f2_4, f2_5⟩ := cf6 BK135.out))
 refine bodyPost_ret (results_cell_row rfl _ _ gb135 69 #[.int .i64 0, .int .i64 1, .int .i64 1, .int .i64 0, .int .i64 (-1), .int .i64 (-1)] (0, 0) _ rfl (bp6 BK135.out) Tryz.underlying69 rfl (by kernel_rfl)) rfl ?_
 exact ⟨er, bs⟩
def table_crowned.f (l0 : List (S69)) (a1_0 : Int) (a1_1 : Int) (a1_2 : Int) (a1_3 : Int) (a1_4 : Int) (a1_5 : Int) : Option (Bool) := (table_isLeaf.f a1_0 a1_1 a1_2 a1_3 a1_4 a1_5).bind fun t137 => (if t137 = true then (some false) else (if a1_1 = 1 then (if a1_2 = 1 then (if 0 ≤ a1_5 then (if a1_5 < (l0.length : Int) then ((table_sentinel.f).bind fun bt139 => (some (((rd_T69 l0 a1_5).f0) == bt139.1 && (((rd_T69 l0 a1_5).f1) == bt139.2.1 && (((rd_T69 l0 a1_5).f2) == bt139.2.2.1 && (((rd_T69 l0 a1_5).f3) == bt139.2.2.2.1 && (((rd_T69 l0 a1_5).f4) == bt139.2.2.2.2.1 && (((rd_T69 l0 a1_5).f5) == bt139.2.2.2.2.2)))))))) else (none)) else (none)) else (some false)) else (some false)))
def table_crowned.T1 : Bool × List (List Nat × List Nat) := (true, [([], []), ([0], [0]), ([1], [1]), ([2, 1], [2]), ([3], [3]), ([4, 3], [3, 4]), ([5, 3], [3, 5]), ([3, 6], [3, 6]), ([7, 3], [7]), ([8], [8]), ([9, 8], [8, 9]), ([10, 8], [8, 10]), ([8, 11], [8, 11]), ([12, 8], [12]), ([13], [13]), ([13], [13]), ([15, 13], [13, 15]), ([14, 16, 13], [13, 14, 16]), ([17, 13], [13, 17]), ([13, 13], [13]), ([18, 19, 13], [13, 18, 19]), ([13, 20], [13, 20]), ([21, 19, 0, 1, 2, 3, 4, 5, 6, 7, 8, 9, 10, 11, 12, 13, 14, 15, 16, 17, 18, 19, 20, 21], [21])])
def table_crowned.B1 : List Nat := [0, 1, 3, 7, 15, 31, 63, 127, 255, 511, 1023, 2047, 4095, 8191, 16383, 16383, 49151, 131071, 262143, 16383, 1048575, 2097151, 4194303]
theorem table_crowned.tab1 : rtab .any (opsOf Tryz.f165 1) = table_crowned.T1 := by kernel_rfl
theorem table_crowned.bits1 : waitsOk table_crowned.T1.2 table_crowned.B1 = true := by kernel_rfl
theorem table_crowned.calls (A0 : Option Addr) (c0 : Nat) (l0 : List (S69)) (a1_0 : Int) (a1_1 : Int) (a1_2 : Int) (a1_3 : Int) (a1_4 : Int) (a1_5 : Int) (r : Bool) (w : World) (hr0 : Kd.C k69 w A0 l0.length l0) (hc0 : l0.length ≤ c0) (h : table_crowned.f l0 a1_0 a1_1 a1_2 a1_3 a1_4 a1_5 = some r) :
  Calls Tryz.prog 165 #[.slice A0 l0.length c0, .agg #[.int .i64 a1_0, .int .i64 a1_1, .int .i64 a1_2, .int .i64 a1_3, .int .i64 a1_4, .int .i64 a1_5]] w (RB w (.bool r)) := by
 have HR0 := Am hr0
 have HC0 := Am hc0
 clear hr0 hc0
 have HB := Br w
 have H := h
 unfold table_crowned.f at H
 clear h
 obtain ⟨t137, A3, H⟩ := bo H
 by_cases c4 : t137 = true
 ·subst c4
  rw [if_pos rfl] at H
  obtain rfl := Option.some.inj H
  go_enter Tryz.func165, Tryz.ntmps165
  try go_wp2_with (first | ((with_reducible refine Gd 3 rfl ?_); refine bE 3 (cs := #[.int .i64 a1_0, .int .i64 a1_1, .int .i64 a1_2, .int .i64 a1_3, .int .i64 a1_4, .int .i64 a1_5]) (t := 69) ?_; intro gb136 hg w5 hbox hb; obtain ⟨n0_, BK136, GW136, GE136⟩ := bx hg hbox hb; clear HB; have HB := n0_; clear n0_ hb hbox hg))
  replace BK136 := Am (blk_drew BK136.out)
  replace HB := Am (bd HB.out)
  refine sT 23 [] (S := fun w' => w'.cell? ⟨gb136, 0, none⟩ = some (.int .i64 a1_0) ∧ w'.cell? ⟨gb136, 1, none⟩ = some (.int .i64 a1_1) ∧ w'.cell? ⟨gb136, 2, none⟩ = some (.int .i64 a1_2) ∧ w'.cell? ⟨gb136, 3, none⟩ = some (.int .i64 a1_3) ∧ w'.cell? ⟨gb136, 4, none⟩ = some (.int .i64 a1_4) ∧ w'.cell? ⟨gb136, 5, none⟩ = some (.int .i64 a1_5)) (cz6 BK136.out) fun hHeld => ?_; refine with_tabW table_crowned.tab1 table_crowned.bits1 (fun HT_ HW_ => ?_)
  generalize w5.drew = w6 at BK136 HB hHeld ⊢
  refine taT HT_.out HW_.out 0 5 hHeld ?_
  refine onT HT_.out 1 6 fun K hK => ?_
  refine gO Tryz.func84 #[.agg #[.int .i64 a1_0, .int .i64 a1_1, .int .i64 a1_2, .int .i64 a1_3, .int .i64 a1_4, .int .i64 a1_5]] ?_
  with_reducible refine (table_isLeaf.calls a1_0 a1_1 a1_2 a1_3 a1_4 a1_5 true _ A3.out).mono ?_
  rintro e w7 ⟨rfl, hb⟩
  refine ⟨_, rfl, ?_⟩
  replace BK136 := Am (blk_below (bk BK136.out) hb)
  replace HB := Am (below_step bs hb)
  (try clear hb)
  refine hK.out _ _ (cz6 BK136.out) (fun hHeld => ?_)
  clear hK K
  refine nm 6 ?_
  refine puT HT_.out 2 7 ?_
  refine puT HT_.out 3 8 ?_
  refine pure_ (i := 4) (N := some 9) (v := undef) (a' := ?_) #[true, true, true, true, true, false, false, false, false, false, false, false, false, false, false, false, false, false, false, false, false, false, false] rfl rfl (any_of HT_.out (by kernel_rfl)) (fun _ _ _ h => h) (Or.inr ⟨by rfl, rfl⟩) ?_ ?_
  rotate_left
  ·simp only [Act.put, sI, sZ, sS, i64_w, i32_w]
   rfl
  refine pure_ (i := 5) (N := some 10) (v := undef) (a' := ?_) #[true, true, true, true, true, true, false, false, false, false, false, false, false, false, false, false, false, false, false, false, false, false, false] rfl rfl (any_of HT_.out (by kernel_rfl)) (fun _ _ _ h => h) (Or.inr ⟨by rfl, rfl⟩) ?_ ?_
  rotate_left
  ·simp only [Act.put, sI, sZ, sS, i64_w, i32_w]
   rfl
  refine pure_ (i := 6) (N := some 11) (v := undef) (a' := ?_) #[true, true, true, true, true, true, true, false, false, false, false, false, false, false, false, false, false, false, false, false, false, false, false] rfl rfl (any_of HT_.out (by kernel_rfl)) (fun _ _ _ h => h) (Or.inr ⟨by rfl, rfl⟩) ?_ ?_
  rotate_left
  ·simp only [Act.put, sI, sZ, sS, i64_w, i32_w]
   rfl
  exact dd96
 ·replace c4 := Bool.eq_false_iff.mpr c4
  subst c4
  rw [if_neg nf] at H
  by_cases c8 : a1_1 = 1
  ·rw [if_pos c8] at H
   obtain ⟨c8b0, c8b1⟩ := eq2 c8
   clear c8
   by_cases c9 : a1_2 = 1
   ·rw [if_pos c9] at H
    obtain ⟨c9b0, c9b1⟩ := eq2 c9
    clear c9
    obtain ⟨c10b0, H⟩ := ge H
    obtain ⟨c11b0, H⟩ := ge H
    obtain ⟨⟨t139, t140, t141, t142, t143, t144⟩, A12, H⟩ := bo H
    dsimp only at H
    obtain rfl := Option.some.inj H
    go_enter Tryz.func165, Tryz.ntmps165
    try go_wp2_with (first | ((with_reducible refine Gd 3 rfl ?_); refine bE 3 (cs := #[.int .i64 a1_0, .int .i64 a1_1, .int .i64 a1_2, .int .i64 a1_3, .int .i64 a1_4, .int .i64 a1_5]) (t := 69) ?_; intro gb136 hg w13 hbox hb; obtain ⟨n0_, BK136, GW136, GE136⟩ := bx hg hbox hb; clear HB; have HB := n0_; clear n0_ hb hbox hg))
    replace BK136 := Am (blk_drew BK136.out)
    replace HB := Am (bd HB.out)
    obtain ⟨ad138, e138, ⟨hw138_0, hw138_1, hw138_2, hw138_3, hw138_4, hw138_5⟩, hx138_0, hx138_1, hx138_2, hx138_3, hx138_4, hx138_5, p138, q138⟩ := t6e HB.out HR0.out a1_5
    cases e138
    refine sT 23 [] (S := fun w' => w'.cell? ⟨gb136, 0, none⟩ = some (.int .i64 a1_0) ∧ w'.cell? ⟨gb136, 1, none⟩ = some (.int .i64 a1_1) ∧ w'.cell? ⟨gb136, 2, none⟩ = some (.int .i64 a1_2) ∧ w'.cell? ⟨gb136, 3, none⟩ = some (.int .i64 a1_3) ∧ w'.cell? ⟨gb136, 4, none⟩ = some (.int .i64 a1_4) ∧ w'.cell? ⟨gb136, 5, none⟩ = some (.int .i64 a1_5) ∧ w'.cell? (ad138.add ((a1_5).toNat * 6)) = some (.int .i64 ((rd_T69 l0 a1_5).f0)) ∧ w'.cell? ⟨(ad138.add ((a1_5).toNat * 6)).block, (ad138.add ((a1_5).toNat * 6)).off + 1, none⟩ = some (.int .i64 ((rd_T69 l0 a1_5).f1)) ∧ w'.cell? ⟨(ad138.add ((a1_5).toNat * 6)).block, (ad138.add ((a1_5).toNat * 6)).off + 2, none⟩ = some (.int .i64 ((rd_T69 l0 a1_5).f2)) ∧ w'.cell? ⟨(ad138.add ((a1_5).toNat * 6)).block, (ad138.add ((a1_5).toNat * 6)).off + 3, none⟩ = some (.int .i64 ((rd_T69 l0 a1_5).f3)) ∧ w'.cell? ⟨(ad138.add ((a1_5).toNat * 6)).block, (ad138.add ((a1_5).toNat * 6)).off + 4, none⟩ = some (.int .i64 ((rd_T69 l0 a1_5).f4)) ∧ w'.cell? ⟨(ad138.add ((a1_5).toNat * 6)).block, (ad138.add ((a1_5).toNat * 6)).off + 5, none⟩ = some (.int .i64 ((rd_T69 l0 a1_5).f5))) ⟨(blk_cell BK136.out 0).trans rfl, (blk_cell BK136.out 1).trans rfl, (blk_cell BK136.out 2).trans rfl, (blk_cell BK136.out 3).trans rfl, (blk_cell BK136.out 4).trans rfl, (blk_cell BK136.out 5).trans rfl, (hc hw138_0), (hc hw138_1), (hc hw138_2), (hc hw138_3), (hc hw138_4), (hc hw138_5)⟩ fun hHeld => ?_; refine with_tabW table_crowned.tab1 table_crowned.bits1 (fun HT_ HW_ => ?_)
    generalize w13.drew = w14 at BK136 HB hx138_0 hx138_1 hx138_2 hx138_3 hx138_4 hx138_5 hHeld ⊢
    refine taT HT_.out HW_.out 0 5 hHeld ?_
    refine onT HT_.out 1 6 fun K hK => ?_
    refine gO Tryz.func84 #[.agg #[.int .i64 a1_0, .int .i64 a1_1, .int .i64 a1_2, .int .i64 a1_3, .int .i64 a1_4, .int .i64 a1_5]] ?_
    with_reducible refine (table_isLeaf.calls a1_0 a1_1 a1_2 a1_3 a1_4 a1_5 false _ A3.out).mono ?_
    rintro e w15 ⟨rfl, hb⟩
    refine ⟨_, rfl, ?_⟩
    replace BK136 := Am (blk_below (bk BK136.out) hb)
    replace HB := Am (below_step bs hb)
    (try clear hb)
    refine hK.out _ _ ⟨(blk_cell BK136.out 0).trans rfl, (blk_cell BK136.out 1).trans rfl, (blk_cell BK136.out 2).trans rfl, (blk_cell BK136.out 3).trans rfl, (blk_cell BK136.out 4).trans rfl, (blk_cell BK136.out 5).trans rfl, (hc hw138_0), (hc hw138_1), (hc hw138_2), (hc hw138_3), (hc hw138_4), (hc hw138_5)⟩ (fun hHeld => ?_)
    clear hK K
    refine nm 6 ?_
    refine puT HT_.out 2 7 ?_
    refine puT HT_.out 3 8 ?_
    refine puT HT_.out 4 9 ?_
    refine taT HT_.out HW_.out 5 10 hHeld ?_
    refine puT HT_.out 6 11 ?_
    refine puT HT_.out 7 12 ?_
    refine puT HT_.out 8 13 ?_
    refine puT HT_.out 9 14 ?_
    refine taT HT_.out HW_.out 10 15 hHeld ?_
    refine puT HT_.out 11 16 ?_
    refine puT HT_.out 12 17 ?_
    refine puT HT_.out 13 18 ?_
    refine puT HT_.out 14 19 ?_
    refine puT HT_.out 15 20 ?_
    refine taT HT_.out HW_.out 16 21 hHeld ?_
    refine puT HT_.out 17 22 ?_
    refine taT HT_.out HW_.out 18 23 hHeld ?_
    refine onT HT_.out 19 24 fun K hK => ?_
    refine gO Tryz.func121 #[] ?_
    with_reducible refine (table_sentinel.calls  t139 t140 t141 t142 t143 t144 _ A12.out).mono ?_
    rintro e w16 ⟨rfl, hb⟩
    refine ⟨_, rfl, ?_⟩
    replace BK136 := Am (blk_below (bk BK136.out) hb)
    replace HB := Am (below_step bs hb)
    (try clear hb)
    refine hK.out _ _ ⟨(blk_cell BK136.out 0).trans rfl, (blk_cell BK136.out 1).trans rfl, (blk_cell BK136.out 2).trans rfl, (blk_cell BK136.out 3).trans rfl, (blk_cell BK136.out 4).trans rfl, (blk_cell BK136.out 5).trans rfl, (hc hw138_0), (hc hw138_1), (hc hw138_2), (hc hw138_3), (hc hw138_4), (hc hw138_5)⟩ (fun hHeld => ?_)
    clear hK K
    refine nm 24 ?_
    refine puT HT_.out 20 25 ?_
    exact dd107
   ·rw [if_neg c9] at H
    obtain ⟨c9b0, c9b1⟩ := ne2 c9
    obtain rfl := Option.some.inj H
    go_enter Tryz.func165, Tryz.ntmps165
    try go_wp2_with (first | ((with_reducible refine Gd 3 rfl ?_); refine bE 3 (cs := #[.int .i64 a1_0, .int .i64 a1_1, .int .i64 a1_2, .int .i64 a1_3, .int .i64 a1_4, .int .i64 a1_5]) (t := 69) ?_; intro gb136 hg w17 hbox hb; obtain ⟨n0_, BK136, GW136, GE136⟩ := bx hg hbox hb; clear HB; have HB := n0_; clear n0_ hb hbox hg))
    replace BK136 := Am (blk_drew BK136.out)
    replace HB := Am (bd HB.out)
    refine sT 23 [] (S := fun w' => w'.cell? ⟨gb136, 0, none⟩ = some (.int .i64 a1_0) ∧ w'.cell? ⟨gb136, 1, none⟩ = some (.int .i64 a1_1) ∧ w'.cell? ⟨gb136, 2, none⟩ = some (.int .i64 a1_2) ∧ w'.cell? ⟨gb136, 3, none⟩ = some (.int .i64 a1_3) ∧ w'.cell? ⟨gb136, 4, none⟩ = some (.int .i64 a1_4) ∧ w'.cell? ⟨gb136, 5, none⟩ = some (.int .i64 a1_5)) (cz6 BK136.out) fun hHeld => ?_; refine with_tabW table_crowned.tab1 table_crowned.bits1 (fun HT_ HW_ => ?_)
    generalize w17.drew = w18 at BK136 HB hHeld ⊢
    refine taT HT_.out HW_.out 0 5 hHeld ?_
    refine onT HT_.out 1 6 fun K hK => ?_
    refine gO Tryz.func84 #[.agg #[.int .i64 a1_0, .int .i64 a1_1, .int .i64 a1_2, .int .i64 a1_3, .int .i64 a1_4, .int .i64 a1_5]] ?_
    with_reducible refine (table_isLeaf.calls a1_0 a1_1 a1_2 a1_3 a1_4 a1_5 false _ A3.out).mono ?_
    rintro e w19 ⟨rfl, hb⟩
    refine ⟨_, rfl, ?_⟩
    replace BK136 := Am (blk_below (bk BK136.out) hb)
    replace HB := Am (below_step bs hb)
    (try clear hb)
    refine hK.out _ _ (cz6 BK136.out) (fun hHeld => ?_)
    clear hK K
    refine nm 6 ?_
    refine puT HT_.out 2 7 ?_
    refine puT HT_.out 3 8 ?_
    refine puT HT_.out 4 9 ?_
    refine taT HT_.out HW_.out 5 10 hHeld ?_
    refine puT HT_.out 6 11 ?_
    refine puT HT_.out 7 12 ?_
    refine puT HT_.out 8 13 ?_
    refine puT HT_.out 9 14 ?_
    refine taT HT_.out HW_.out 10 15 hHeld ?_
    refine puT HT_.out 11 16 ?_
    exact dd4
  ·rw [if_neg c8] at H
   obtain ⟨c8b0, c8b1⟩ := ne2 c8
   obtain rfl := Option.some.inj H
   go_enter Tryz.func165, Tryz.ntmps165
   try go_wp2_with (first | ((with_reducible refine Gd 3 rfl ?_); refine bE 3 (cs := #[.int .i64 a1_0, .int .i64 a1_1, .int .i64 a1_2, .int .i64 a1_3, .int .i64 a1_4, .int .i64 a1_5]) (t := 69) ?_; intro gb136 hg w20 hbox hb; obtain ⟨n0_, BK136, GW136, GE136⟩ := bx hg hbox hb; clear HB; have HB := n0_; clear n0_ hb hbox hg))
   replace BK136 := Am (blk_drew BK136.out)
   replace HB := Am (bd HB.out)
   refine sT 23 [] (S := fun w' => w'.cell? ⟨gb136, 0, none⟩ = some (.int .i64 a1_0) ∧ w'.cell? ⟨gb136, 1, none⟩ = some (.int .i64 a1_1) ∧ w'.cell? ⟨gb136, 2, none⟩ = some (.int .i64 a1_2) ∧ w'.cell? ⟨gb136, 3, none⟩ = some (.int .i64 a1_3) ∧ w'.cell? ⟨gb136, 4, none⟩ = some (.int .i64 a1_4) ∧ w'.cell? ⟨gb136, 5, none⟩ = some (.int .i64 a1_5)) (cz6 BK136.out) fun hHeld => ?_; refine with_tabW table_crowned.tab1 table_crowned.bits1 (fun HT_ HW_ => ?_)
   generalize w20.drew = w21 at BK136 HB hHeld ⊢
   refine taT HT_.out HW_.out 0 5 hHeld ?_
   refine onT HT_.out 1 6 fun K hK => ?_
   refine gO Tryz.func84 #[.agg #[.int .i64 a1_0, .int .i64 a1_1, .int .i64 a1_2, .int .i64 a1_3, .int .i64 a1_4, .int .i64 a1_5]] ?_
   with_reducible refine (table_isLeaf.calls a1_0 a1_1 a1_2 a1_3 a1_4 a1_5 false _ A3.out).mono ?_
   rintro e w22 ⟨rfl, hb⟩
   refine ⟨_, rfl, ?_⟩
   replace BK136 := Am (blk_below (bk BK136.out) hb)
   replace HB := Am (below_step bs hb)
   (try clear hb)
   refine hK.out _ _ (cz6 BK136.out) (fun hHeld => ?_)
   clear hK K
   refine nm 6 ?_
   refine puT HT_.out 2 7 ?_
   refine puT HT_.out 3 8 ?_
   refine puT HT_.out 4 9 ?_
   refine taT HT_.out HW_.out 5 10 hHeld ?_
   refine puT HT_.out 6 11 ?_
   exact dd96
end
section
attribute [local go_sem] max2_int min2_int max_two min_two max_three min_three max_four min_four
attribute [local go_sem high] eqA69
def table_Root.l0 : Nat → List (S69) → List Int → Int → Int → Int → Int → Int → Int → Int → Int → Option (Int × Int)
 | 0, _, _, _, _, _, _, _, _, _, _ => none
 | k + 1, x0, x36, x37, x38, x151000, x151001, x151002, x151003, x151004, x151005 => if x38 < x37 then (if 0 ≤ x38 then (if x38 < (x36.length : Int) then (if 0 ≤ (rd x36 x38) then (if (rd x36 x38) < (x0.length : Int) then (if ((rd_T69 x0 (rd x36 x38)).f1) = 0 then (table_Root.l0 k x0 x36 x37 (wrap64 (x38 + 1)) x151000 x151001 x151002 x151003 x151004 x151005) else (some (0, 3))) else (none)) else (none)) else (none)) else (none)) else (some (x151004, 0))
def table_Root.f (k : Nat) (l0 : List (S69)) : Option (Int × Int) := (table_Check.f k l0).bind fun t145 => (if t145 = 0 then (if 0 < (l0.length : Int) then ((table_crowned.f l0 ((rd_T69 l0 0).f0) ((rd_T69 l0 0).f1) ((rd_T69 l0 0).f2) ((rd_T69 l0 0).f3) ((rd_T69 l0 0).f4) ((rd_T69 l0 0).f5)).bind fun t147 => (if t147 = true then (if 0 ≤ ((rd_T69 l0 0).f4) then (if ((rd_T69 l0 0).f4) < (l0.length : Int) then ((table_sentinel.f).bind fun bt151 => (if (((rd_T69 l0 ((rd_T69 l0 0).f4)).f0) == bt151.1 && (((rd_T69 l0 ((rd_T69 l0 0).f4)).f1) == bt151.2.1 && (((rd_T69 l0 ((rd_T69 l0 0).f4)).f2) == bt151.2.2.1 && (((rd_T69 l0 ((rd_T69 l0 0).f4)).f3) == bt151.2.2.2.1 && (((rd_T69 l0 ((rd_T69 l0 0).f4)).f4) == bt151.2.2.2.2.1 && (((rd_T69 l0 ((rd_T69 l0 0).f4)).f5) == bt151.2.2.2.2.2)))))) = true then (some (0, 4)) else ((table_crowned.f l0 ((rd_T69 l0 ((rd_T69 l0 0).f4)).f0) ((rd_T69 l0 ((rd_T69 l0 0).f4)).f1) ((rd_T69 l0 ((rd_T69 l0 0).f4)).f2) ((rd_T69 l0 ((rd_T69 l0 0).f4)).f3) ((rd_T69 l0 ((rd_T69 l0 0).f4)).f4) ((rd_T69 l0 ((rd_T69 l0 0).f4)).f5)).bind fun t157 => (if t157 = true then ((table_order.f k l0 ((rd_T69 l0 ((rd_T69 l0 0).f4)).f4)).bind fun t158 => (table_Root.l0 k l0 t158 (t158.length : Int) 0 ((rd_T69 l0 ((rd_T69 l0 0).f4)).f0) ((rd_T69 l0 ((rd_T69 l0 0).f4)).f1) ((rd_T69 l0 ((rd_T69 l0 0).f4)).f2) ((rd_T69 l0 ((rd_T69 l0 0).f4)).f3) ((rd_T69 l0 ((rd_T69 l0 0).f4)).f4) ((rd_T69 l0 ((rd_T69 l0 0).f4)).f5))) else (some (0, 3)))))) else (none)) else (none)) else (some (0, 3)))) else (none)) else (some (0, t145)))
theorem table_Root.mono_l : ∀ k, (∀ y0 y1 y2 y3 y4 y5 y6 y7 y8 y9, LeO (table_Root.l0 k y0 y1 y2 y3 y4 y5 y6 y7 y8 y9) (table_Root.l0 (k + 1) y0 y1 y2 y3 y4 y5 y6 y7 y8 y9))
 | 0 => fun _ _ _ _ _ _ _ _ _ _ r h => by simp [table_Root.l0] at h
 | k + 1 => by
  have ih0 := table_Root.mono_l k
  ·intro y0 y1 y2 y3 y4 y5 y6 y7 y8 y9
   unfold table_Root.l0
   repeat' with_reducible first | exact ih0 _ _ _ _ _ _ _ _ _ _ | exact table_Check.mono _ _ | exact table_order.mono _ _ _ | exact LeO.refl _ | exact LeO.none _ | refine LeO.ite ?_ ?_ | refine LeO.bind ?_ (fun _ => ?_)
theorem table_Root.mono : ∀ a0 k, LeO (table_Root.f k a0) (table_Root.f (k + 1) a0) := by
 intro a0 k
 have ih0 := table_Root.mono_l k
 unfold table_Root.f
 repeat' with_reducible first | exact ih0 _ _ _ _ _ _ _ _ _ _ | exact table_Check.mono _ _ | exact table_order.mono _ _ _ | exact LeO.refl _ | exact LeO.none _ | refine LeO.ite ?_ ?_ | refine LeO.bind ?_ (fun _ => ?_)
theorem table_Root.calls (k : Nat) (A0 : Option Addr) (c0 : Nat) (l0 : List (S69)) (r1 : Int) (r2 : Int) (w : World) (hr0 : Kd.C k69 w A0 l0.length l0) (hc0 : l0.length ≤ c0) (h : table_Root.f k l0 = some (r1, r2)) :
  Calls Tryz.prog 142 #[.slice A0 l0.length c0] w (RB w (.tuple #[.int .i64 r1, .int .i64 r2])) := by
 have HR0 := Am hr0
 have HC0 := Am hc0
 clear hr0 hc0
 have HB := Br w
 have H := h
 unfold table_Root.f at H
 clear h
 obtain ⟨t145, A2, H⟩ := bo H
 by_cases c3 : t145 = 0
 ·rw [if_pos c3] at H
  obtain ⟨c3b0, c3b1⟩ := eq2 c3
  clear c3
  obtain ⟨c4, H⟩ := gd H
  have c4b0 := decide_eq_true c4
  have c4b1 : decide (0 < l0.length) = true := decide_eq_true (by omega)
  clear c4
  obtain ⟨t147, A5, H⟩ := bo H
  by_cases c6 : t147 = true
  ·subst c6
   rw [if_pos rfl] at H
   obtain ⟨c7b0, H⟩ := ge H
   obtain ⟨c8b0, H⟩ := ge H
   obtain ⟨⟨t151, t152, t153, t154, t155, t156⟩, A9, H⟩ := bo H
   dsimp only at H
   by_cases c10 : (((rd_T69 l0 ((rd_T69 l0 0).f4)).f0) == t151 && (((rd_T69 l0 ((rd_T69 l0 0).f4)).f1) == t152 && (((rd_T69 l0 ((rd_T69 l0 0).f4)).f2) == t153 && (((rd_T69 l0 ((rd_T69 l0 0).f4)).f3) == t154 && (((rd_T69 l0 ((rd_T69 l0 0).f4)).f4) == t155 && (((rd_T69 l0 ((rd_T69 l0 0).f4)).f5) == t156)))))) = true
   ·rw [if_pos c10] at H
    have c10b0 : (((rd_T69 l0 ((rd_T69 l0 0).f4)).f0) == t151 && (((rd_T69 l0 ((rd_T69 l0 0).f4)).f1) == t152 && (((rd_T69 l0 ((rd_T69 l0 0).f4)).f2) == t153 && (((rd_T69 l0 ((rd_T69 l0 0).f4)).f3) == t154 && (((rd_T69 l0 ((rd_T69 l0 0).f4)).f4) == t155 && (((rd_T69 l0 ((rd_T69 l0 0).f4)).f5) == t156)))))) = true := c10
    (try (have c10b1 : decide (((rd_T69 l0 ((rd_T69 l0 0).f4)).f0) = t151 && (((rd_T69 l0 ((rd_T69 l0 0).f4)).f1) == t152 && (((rd_T69 l0 ((rd_T69 l0 0).f4)).f2) == t153 && (((rd_T69 l0 ((rd_T69 l0 0).f4)).f3) == t154 && (((rd_T69 l0 ((rd_T69 l0 0).f4)).f4) == t155 && (((rd_T69 l0 ((rd_T69 l0 0).f4)).f5) == t156)))))) = true := by simpa using c10))
    (try (have c10b2 : (((rd_T69 l0 ((rd_T69 l0 0).f4)).f0) == t151 && (((rd_T69 l0 ((rd_T69 l0 0).f4)).f1) == t152 && (((rd_T69 l0 ((rd_T69 l0 0).f4)).f2) == t153 && (((rd_T69 l0 ((rd_T69 l0 0).f4)).f3) == t154 && (((rd_T69 l0 ((rd_T69 l0 0).f4)).f4) == t155 && (((rd_T69 l0 ((rd_T69 l0 0).f4)).f5) == t156)))))) = true := by simpa using c10))
    clear c10
    simp only [Option.some.injEq, Prod.mk.injEq] at H
    obtain ⟨rfl, rfl⟩ := H
    go_enter Tryz.func142, Tryz.ntmps142
    try go_wp2_with (first | ((with_reducible refine Gc 55 rfl ?_); refine gL 9 Tryz.func55 #[.slice A0 l0.length c0] ?_; (with_reducible refine (table_Check.calls k _ _ l0 t145 _ (kc HR0.out) HC0.out A2.out).mono ?_); rintro e w11 ⟨rfl, hb⟩; refine ⟨_, rfl, ?_⟩; replace HB := Am (below_step bq hb); (try clear hb); have p146 : 0 ≤ (0 : Int) := (by omega); have q146 : 0 < (l0.length : Int) := da; obtain ⟨ad146, e146, hx146_0, hx146_1, hx146_2, hx146_3, hx146_4, hx146_5⟩ := t6 HB.out HR0.out 0 p146 q146; cases e146; have qi146 : (0 < l0.length) = True := eq_true (by omega); (try simp only [show ((0 : Int)).toNat = 0 from rfl, show 0 * 6 = 0 from rfl, Addr.add_zero'] at hx146_0 hx146_1 hx146_2 hx146_3 hx146_4 hx146_5); replace p146 := eq_true p146; replace q146 := eq_true q146) | ((with_reducible refine Gc 165 rfl ?_); refine gL 17 Tryz.func165 #[.slice (some ad146) l0.length c0, .agg (cN (rd_T69 l0 0))] ?_; (with_reducible refine (table_crowned.calls _ _ l0 _ _ _ _ _ _ true _ (kc (Kd.C_below HR0.out HB.out)) HC0.out A5.out).mono ?_); rintro e w12 ⟨rfl, hb⟩; refine ⟨_, rfl, ?_⟩; replace HB := Am (below_step bq hb); (try clear hb); have p148 : 0 ≤ (0 : Int) := (by omega); have q148 : 0 < (l0.length : Int) := da; obtain ⟨ad148, e148, hx148_0, hx148_1, hx148_2, hx148_3, hx148_4, hx148_5⟩ := t6 HB.out HR0.out 0 p148 q148; obtain rfl : ad146 = ad148 := (by injection e148); have qi148 : (0 < l0.length) = True := eq_true (by omega); (try simp only [show ((0 : Int)).toNat = 0 from rfl, show 0 * 6 = 0 from rfl, Addr.add_zero'] at hx148_0 hx148_1 hx148_2 hx148_3 hx148_4 hx148_5); replace p148 := eq_true p148; replace q148 := eq_true q148; obtain ⟨ad149, e149, hx149_0, hx149_1, hx149_2, hx149_3, hx149_4, hx149_5, p149, q149⟩ := t6d HB.out HR0.out ((rd_T69 l0 0).f4); obtain rfl : ad146 = ad149 := (by injection e149)) | ((with_reducible refine Gd 5 rfl ?_); refine bE 5 (cs := #[.int .i64 0, .int .i64 0, .int .i64 0, .int .i64 0, .int .i64 0, .int .i64 0]) (t := 69) ?_; intro gb150 hg w13 hbox hb; obtain ⟨n0_, BK150, GW150, GE150⟩ := bx hg hbox hb; clear HB; have HB := n0_; clear n0_ hb hbox hg; obtain ⟨z14_0, z14_1, z14_2, z14_3, z14_4, z14_5, f14_0, f14_1, f14_2, f14_3, f14_4, f14_5⟩ := cf6 BK150.out))
    have n0_ : Aside0 (((((((w13.setCell ⟨gb150, 0, none⟩ (.int .i64 ((rd_T69 l0 ((rd_T69 l0 0).f4)).f0))).setCell ⟨gb150, 1, none⟩ (.int .i64 ((rd_T69 l0 ((rd_T69 l0 0).f4)).f1))).setCell ⟨gb150, 2, none⟩ (.int .i64 ((rd_T69 l0 ((rd_T69 l0 0).f4)).f2))).setCell ⟨gb150, 3, none⟩ (.int .i64 ((rd_T69 l0 ((rd_T69 l0 0).f4)).f3))).setCell ⟨gb150, 4, none⟩ (.int .i64 ((rd_T69 l0 ((rd_T69 l0 0).f4)).f4))).setCell ⟨gb150, 5, none⟩ (.int .i64 ((rd_T69 l0 ((rd_T69 l0 0).f4)).f5))).heap[gb150]? = some (.cells #[.int .i64 ((rd_T69 l0 ((rd_T69 l0 0).f4)).f0), .int .i64 ((rd_T69 l0 ((rd_T69 l0 0).f4)).f1), .int .i64 ((rd_T69 l0 ((rd_T69 l0 0).f4)).f2), .int .i64 ((rd_T69 l0 ((rd_T69 l0 0).f4)).f3), .int .i64 ((rd_T69 l0 ((rd_T69 l0 0).f4)).f4), .int .i64 ((rd_T69 l0 ((rd_T69 l0 0).f4)).f5)] 69 (0, 0))) := ⟨bp6 BK150.out⟩
    have n1_ : Aside0 (Below w.heap.size w ((((((w13.setCell ⟨gb150, 0, none⟩ (.int .i64 ((rd_T69 l0 ((rd_T69 l0 0).f4)).f0))).setCell ⟨gb150, 1, none⟩ (.int .i64 ((rd_T69 l0 ((rd_T69 l0 0).f4)).f1))).setCell ⟨gb150, 2, none⟩ (.int .i64 ((rd_T69 l0 ((rd_T69 l0 0).f4)).f2))).setCell ⟨gb150, 3, none⟩ (.int .i64 ((rd_T69 l0 ((rd_T69 l0 0).f4)).f3))).setCell ⟨gb150, 4, none⟩ (.int .i64 ((rd_T69 l0 ((rd_T69 l0 0).f4)).f4))).setCell ⟨gb150, 5, none⟩ (.int .i64 ((rd_T69 l0 ((rd_T69 l0 0).f4)).f5)))) := ⟨bs⟩
    (try clear BK150)
    (try clear HB)
    generalize ((((((w13.setCell ⟨gb150, 0, none⟩ (.int .i64 ((rd_T69 l0 ((rd_T69 l0 0).f4)).f0))).setCell ⟨gb150, 1, none⟩ (.int .i64 ((rd_T69 l0 ((rd_T69 l0 0).f4)).f1))).setCell ⟨gb150, 2, none⟩ (.int .i64 ((rd_T69 l0 ((rd_T69 l0 0).f4)).f2))).setCell ⟨gb150, 3, none⟩ (.int .i64 ((rd_T69 l0 ((rd_T69 l0 0).f4)).f3))).setCell ⟨gb150, 4, none⟩ (.int .i64 ((rd_T69 l0 ((rd_T69 l0 0).f4)).f4))).setCell ⟨gb150, 5, none⟩ (.int .i64 ((rd_T69 l0 ((rd_T69 l0 0).f4)).f5))) = w15 at n0_ n1_ ⊢
    have BK150 := n0_
    have HB := n1_
    clear n0_ n1_
    replace BK150 := Am (blk_drew BK150.out)
    replace HB := Am (bd HB.out)
    refine sT 3 [] (S := fun w' => w'.cell? ⟨gb150, 0, none⟩ = some (.int .i64 ((rd_T69 l0 ((rd_T69 l0 0).f4)).f0)) ∧ w'.cell? ⟨gb150, 1, none⟩ = some (.int .i64 ((rd_T69 l0 ((rd_T69 l0 0).f4)).f1)) ∧ w'.cell? ⟨gb150, 2, none⟩ = some (.int .i64 ((rd_T69 l0 ((rd_T69 l0 0).f4)).f2)) ∧ w'.cell? ⟨gb150, 3, none⟩ = some (.int .i64 ((rd_T69 l0 ((rd_T69 l0 0).f4)).f3)) ∧ w'.cell? ⟨gb150, 4, none⟩ = some (.int .i64 ((rd_T69 l0 ((rd_T69 l0 0).f4)).f4)) ∧ w'.cell? ⟨gb150, 5, none⟩ = some (.int .i64 ((rd_T69 l0 ((rd_T69 l0 0).f4)).f5))) (cz6 BK150.out) fun hHeld => ?_
    generalize w15.drew = w16 at BK150 HB hHeld ⊢
    refine ta 0 26 hHeld ?_
    refine on 1 27 fun K hK => ?_
    refine gO Tryz.func121 #[] ?_
    with_reducible refine (table_sentinel.calls  t151 t152 t153 t154 t155 t156 _ A9.out).mono ?_
    rintro e w17 ⟨rfl, hb⟩
    refine ⟨_, rfl, ?_⟩
    replace BK150 := Am (blk_below (bk BK150.out) hb)
    replace HB := Am (below_step bs hb)
    (try clear hb)
    refine hK.out _ _ (cz6 BK150.out) (fun hHeld => ?_)
    clear hK K
    refine nm 27 ?_
    refine pu 2 28 ?_
    refine done_ (by kernel_rfl) ?_
    try go_wp2
    go_ret2
    exact ⟨er, bs⟩
   ·rw [if_neg c10] at H
    have c10b0 : (((rd_T69 l0 ((rd_T69 l0 0).f4)).f0) == t151 && (((rd_T69 l0 ((rd_T69 l0 0).f4)).f1) == t152 && (((rd_T69 l0 ((rd_T69 l0 0).f4)).f2) == t153 && (((rd_T69 l0 ((rd_T69 l0 0).f4)).f3) == t154 && (((rd_T69 l0 ((rd_T69 l0 0).f4)).f4) == t155 && (((rd_T69 l0 ((rd_T69 l0 0).f4)).f5) == t156)))))) = false := by simpa using c10
    (try (have c10b1 : decide (((rd_T69 l0 ((rd_T69 l0 0).f4)).f0) = t151 && (((rd_T69 l0 ((rd_T69 l0 0).f4)).f1) == t152 && (((rd_T69 l0 ((rd_T69 l0 0).f4)).f2) == t153 && (((rd_T69 l0 ((rd_T69 l0 0).f4)).f3) == t154 && (((rd_T69 l0 ((rd_T69 l0 0).f4)).f4) == t155 && (((rd_T69 l0 ((rd_T69 l0 0).f4)).f5) == t156)))))) = false := by simpa using c10))
    (try (have c10b2 : (((rd_T69 l0 ((rd_T69 l0 0).f4)).f0) == t151 && (((rd_T69 l0 ((rd_T69 l0 0).f4)).f1) == t152 && (((rd_T69 l0 ((rd_T69 l0 0).f4)).f2) == t153 && (((rd_T69 l0 ((rd_T69 l0 0).f4)).f3) == t154 && (((rd_T69 l0 ((rd_T69 l0 0).f4)).f4) == t155 && (((rd_T69 l0 ((rd_T69 l0 0).f4)).f5) == t156)))))) = false := by simpa using c10))
    (try (have c10b3 : ¬ (((rd_T69 l0 ((rd_T69 l0 0).f4)).f0) = t151 && (((rd_T69 l0 ((rd_T69 l0 0).f4)).f1) == t152 && (((rd_T69 l0 ((rd_T69 l0 0).f4)).f2) == t153 && (((rd_T69 l0 ((rd_T69 l0 0).f4)).f3) == t154 && (((rd_T69 l0 ((rd_T69 l0 0).f4)).f4) == t155 && (((rd_T69 l0 ((rd_T69 l0 0).f4)).f5) == t156)))))) := by simpa using c10))
    clear c10
    obtain ⟨t157, A18, H⟩ := bo H
    by_cases c19 : t157 = true
    ·subst c19
     rw [if_pos rfl] at H
     obtain ⟨t158, A20, H⟩ := bo H
     have H' := Am H
     clear H
     go_enter Tryz.func142, Tryz.ntmps142
     try go_wp2_with (first | ((with_reducible refine Gc 55 rfl ?_); refine gL 9 Tryz.func55 #[.slice A0 l0.length c0] ?_; (with_reducible refine (table_Check.calls k _ _ l0 t145 _ (kc HR0.out) HC0.out A2.out).mono ?_); rintro e w21 ⟨rfl, hb⟩; refine ⟨_, rfl, ?_⟩; replace HB := Am (below_step bq hb); (try clear hb); have p146 : 0 ≤ (0 : Int) := (by omega); have q146 : 0 < (l0.length : Int) := da; obtain ⟨ad146, e146, hx146_0, hx146_1, hx146_2, hx146_3, hx146_4, hx146_5⟩ := t6 HB.out HR0.out 0 p146 q146; cases e146; have qi146 : (0 < l0.length) = True := eq_true (by omega); (try simp only [show ((0 : Int)).toNat = 0 from rfl, show 0 * 6 = 0 from rfl, Addr.add_zero'] at hx146_0 hx146_1 hx146_2 hx146_3 hx146_4 hx146_5); replace p146 := eq_true p146; replace q146 := eq_true q146) | ((with_reducible refine Gc 165 rfl ?_); refine gL 17 Tryz.func165 #[.slice (some ad146) l0.length c0, .agg (cN (rd_T69 l0 0))] ?_; (with_reducible refine (table_crowned.calls _ _ l0 _ _ _ _ _ _ true _ (kc (Kd.C_below HR0.out HB.out)) HC0.out A5.out).mono ?_); rintro e w22 ⟨rfl, hb⟩; refine ⟨_, rfl, ?_⟩; replace HB := Am (below_step bq hb); (try clear hb); have p148 : 0 ≤ (0 : Int) := (by omega); have q148 : 0 < (l0.length : Int) := da; obtain ⟨ad148, e148, hx148_0, hx148_1, hx148_2, hx148_3, hx148_4, hx148_5⟩ := t6 HB.out HR0.out 0 p148 q148; obtain rfl : ad146 = ad148 := (by injection e148); have qi148 : (0 < l0.length) = True := eq_true (by omega); (try simp only [show ((0 : Int)).toNat = 0 from rfl, show 0 * 6 = 0 from rfl, Addr.add_zero'] at hx148_0 hx148_1 hx148_2 hx148_3 hx148_4 hx148_5); replace p148 := eq_true p148; replace q148 := eq_true q148; obtain ⟨ad149, e149, hx149_0, hx149_1, hx149_2, hx149_3, hx149_4, hx149_5, p149, q149⟩ := t6d HB.out HR0.out ((rd_T69 l0 0).f4); obtain rfl : ad146 = ad149 := (by injection e149)) | ((with_reducible refine Gd 5 rfl ?_); refine bE 5 (cs := #[.int .i64 0, .int .i64 0, .int .i64 0, .int .i64 0, .int .i64 0, .int .i64 0]) (t := 69) ?_; intro gb150 hg w23 hbox hb; obtain ⟨n0_, BK150, GW150, GE150⟩ := bx hg hbox hb; clear HB; have HB := n0_; clear n0_ hb hbox hg; obtain ⟨z24_0, z24_1, z24_2, z24_3, z24_4, z24_5, f24_0, f24_1, f24_2, f24_3, f24_4, f24_5⟩ := cf6 BK150.out))
     have n0_ : Aside0 (((((((w23.setCell ⟨gb150, 0, none⟩ (.int .i64 ((rd_T69 l0 ((rd_T69 l0 0).f4)).f0))).setCell ⟨gb150, 1, none⟩ (.int .i64 ((rd_T69 l0 ((rd_T69 l0 0).f4)).f1))).setCell ⟨gb150, 2, none⟩ (.int .i64 ((rd_T69 l0 ((rd_T69 l0 0).f4)).f2))).setCell ⟨gb150, 3, none⟩ (.int .i64 ((rd_T69 l0 ((rd_T69 l0 0).f4)).f3))).setCell ⟨gb150, 4, none⟩ (.int .i64 ((rd_T69 l0 ((rd_T69 l0 0).f4)).f4))).setCell ⟨gb150, 5, none⟩ (.int .i64 ((rd_T69 l0 ((rd_T69 l0 0).f4)).f5))).heap[gb150]? = some (.cells #[.int .i64 ((rd_T69 l0 ((rd_T69 l0 0).f4)).f0), .int .i64 ((rd_T69 l0 ((rd_T69 l0 0).f4)).f1), .int .i64 ((rd_T69 l0 ((rd_T69 l0 0).f4)).f2), .int .i64 ((rd_T69 l0 ((rd_T69 l0 0).f4)).f3), .int .i64 ((rd_T69 l0 ((rd_T69 l0 0).f4)).f4), .int .i64 ((rd_T69 l0 ((rd_T69 l0 0).f4)).f5)] 69 (0, 0))) := ⟨bp6 BK150.out⟩
     have n1_ : Aside0 (Below w.heap.size w ((((((w23.setCell ⟨gb150, 0, none⟩ (.int .i64 ((rd_T69 l0 ((rd_T69 l0 0).f4)).f0))).setCell ⟨gb150, 1, none⟩ (.int .i64 ((rd_T69 l0 ((rd_T69 l0 0).f4)).f1))).setCell ⟨gb150, 2, none⟩ (.int .i64 ((rd_T69 l0 ((rd_T69 l0 0).f4)).f2))).setCell ⟨gb150, 3, none⟩ (.int .i64 ((rd_T69 l0 ((rd_T69 l0 0).f4)).f3))).setCell ⟨gb150, 4, none⟩ (.int .i64 ((rd_T69 l0 ((rd_T69 l0 0).f4)).f4))).setCell ⟨gb150, 5, none⟩ (.int .i64 ((rd_T69 l0 ((rd_T69 l0 0).f4)).f5)))) := ⟨bs⟩
     (try clear BK150)
     (try clear HB)
     generalize ((((((w23.setCell ⟨gb150, 0, none⟩ (.int .i64 ((rd_T69 l0 ((rd_T69 l0 0).f4)).f0))).setCell ⟨gb150, 1, none⟩ (.int .i64 ((rd_T69 l0 ((rd_T69 l0 0).f4)).f1))).setCell ⟨gb150, 2, none⟩ (.int .i64 ((rd_T69 l0 ((rd_T69 l0 0).f4)).f2))).setCell ⟨gb150, 3, none⟩ (.int .i64 ((rd_T69 l0 ((rd_T69 l0 0).f4)).f3))).setCell ⟨gb150, 4, none⟩ (.int .i64 ((rd_T69 l0 ((rd_T69 l0 0).f4)).f4))).setCell ⟨gb150, 5, none⟩ (.int .i64 ((rd_T69 l0 ((rd_T69 l0 0).f4)).f5))) = w25 at n0_ n1_ ⊢
     have BK150 := n0_
     have HB := n1_
     clear n0_ n1_
     replace BK150 := Am (blk_drew BK150.out)
     replace HB := Am (bd HB.out)
     refine sT 3 [] (S := fun w' => w'.cell? ⟨gb150, 0, none⟩ = some (.int .i64 ((rd_T69 l0 ((rd_T69 l0 0).f4)).f0)) ∧ w'.cell? ⟨gb150, 1, none⟩ = some (.int .i64 ((rd_T69 l0 ((rd_T69 l0 0).f4)).f1)) ∧ w'.cell? ⟨gb150, 2, none⟩ = some (.int .i64 ((rd_T69 l0 ((rd_T69 l0 0).f4)).f2)) ∧ w'.cell? ⟨gb150, 3, none⟩ = some (.int .i64 ((rd_T69 l0 ((rd_T69 l0 0).f4)).f3)) ∧ w'.cell? ⟨gb150, 4, none⟩ = some (.int .i64 ((rd_T69 l0 ((rd_T69 l0 0).f4)).f4)) ∧ w'.cell? ⟨gb150, 5, none⟩ = some (.int .i64 ((rd_T69 l0 ((rd_T69 l0 0).f4)).f5))) (cz6 BK150.out) fun hHeld => ?_
     generalize w25.drew = w26 at BK150 HB hHeld ⊢
     refine ta 0 26 hHeld ?_
     refine on 1 27 fun K hK => ?_
     refine gO Tryz.func121 #[] ?_
     with_reducible refine (table_sentinel.calls  t151 t152 t153 t154 t155 t156 _ A9.out).mono ?_
     rintro e w27 ⟨rfl, hb⟩
     refine ⟨_, rfl, ?_⟩
     replace BK150 := Am (blk_below (bk BK150.out) hb)
     replace HB := Am (below_step bs hb)
     (try clear hb)
     refine hK.out _ _ (cz6 BK150.out) (fun hHeld => ?_)
     clear hK K
     refine nm 27 ?_
     refine pu 2 28 ?_
     refine done_ (by kernel_rfl) ?_
     obtain ⟨z28_0, z28_1, z28_2, z28_3, z28_4, z28_5, f28_0, f28_1, f28_2, f28_3, f28_4, f28_5⟩ := cf6 BK150.out
     try go_wp2_with (first | ((with_reducible refine Gc 165 rfl ?_); refine gL 31 Tryz.func165 #[.slice (some ad146) l0.length c0, .agg (cN (rd_T69 l0 ((rd_T69 l0 0).f4)))] ?_; (with_reducible refine (table_crowned.calls _ _ l0 _ _ _ _ _ _ true _ (kc (Kd.C_below HR0.out HB.out)) HC0.out A18.out).mono ?_); rintro e w29 ⟨rfl, hb⟩; refine ⟨_, rfl, ?_⟩; replace BK150 := Am (blk_below (bk BK150.out) hb); replace HB := Am (below_step bs hb); (try clear hb); obtain ⟨z30_0, z30_1, z30_2, z30_3, z30_4, z30_5, f30_0, f30_1, f30_2, f30_3, f30_4, f30_5⟩ := cf6 BK150.out) | ((with_reducible refine Gc 83 rfl ?_); refine gL 36 Tryz.func83 #[.slice (some ad146) l0.length c0, .int .i64 ((rd_T69 l0 ((rd_T69 l0 0).f4)).f4)] ?_; (with_reducible refine (table_order.calls k _ _ l0 ((rd_T69 l0 ((rd_T69 l0 0).f4)).f4) t158 _ (kc (Kd.C_below HR0.out HB.out)) HC0.out A20.out).mono ?_); rintro e w31 ⟨v159, rfl, ho0, hb⟩; refine ⟨_, rfl, ?_⟩; replace HO160 := Am (Kd.R_lower ho0 (below_size bs)); replace BK150 := Am (blk_below (bk BK150.out) hb); replace HB := Am (below_step bs hb); (try clear hb); (try clear hb2); (try clear hk); (try clear hi); (try clear ho0); obtain ⟨Ao32, co32, eo32⟩ := Kd.R_slice HO160.out; subst eo32))
     go_loopg [38] k (fun kq v38 w' => ∃ (x38_1 : Int), v38 = .int .i64 x38_1 ∧ Aside0 (table_Root.l0 kq l0 t158 (t158.length : Int) x38_1 ((rd_T69 l0 ((rd_T69 l0 0).f4)).f0) ((rd_T69 l0 ((rd_T69 l0 0).f4)).f1) ((rd_T69 l0 ((rd_T69 l0 0).f4)).f2) ((rd_T69 l0 ((rd_T69 l0 0).f4)).f3) ((rd_T69 l0 ((rd_T69 l0 0).f4)).f4) ((rd_T69 l0 ((rd_T69 l0 0).f4)).f5) = some (r1, r2)) ∧ Aside0 (kq ≤ k) ∧ Aside0 (Kd.R (Kd.int .i64) 3 w' w.heap.size (fun _ => True) (.slice Ao32 t158.length co32) t158) ∧ Aside0 (w'.heap[gb150]? = some (.cells #[.int .i64 ((rd_T69 l0 ((rd_T69 l0 0).f4)).f0), .int .i64 ((rd_T69 l0 ((rd_T69 l0 0).f4)).f1), .int .i64 ((rd_T69 l0 ((rd_T69 l0 0).f4)).f2), .int .i64 ((rd_T69 l0 ((rd_T69 l0 0).f4)).f3), .int .i64 ((rd_T69 l0 ((rd_T69 l0 0).f4)).f4), .int .i64 ((rd_T69 l0 ((rd_T69 l0 0).f4)).f5)] 69 (0, 0))) ∧ Aside0 (Below w.heap.size w w'))
     case atStart => exact ⟨(0), (by first | rfl | (simp; done) | (simp [*]; done)), H', ⟨Nat.le_refl _⟩, ⟨kr HO160.out⟩, ⟨bk BK150.out⟩, ⟨bs⟩⟩
     case round =>
      clear H'
      clear c3b0 c3b1 c4b0 c4b1 c7b0 c8b0 c10b0 z28_0 z28_1 z28_2 z28_3 z28_4 z28_5 f28_0 f28_1 f28_2 f28_3 f28_4 f28_5
      obtain ⟨x38_1, rfl, HA, HK1, HO_36, BK150, HB⟩ := hrel
      cases gk with
      | zero => exact absurd HA.out (by simp [table_Root.l0])
      | succ k1 =>
       have H := HA.out
       clear HA
       simp only [table_Root.l0] at H
       by_cases c33 : x38_1 < (t158.length : Int)
       ·rw [if_pos c33] at H
        have c33b0 := decide_eq_true c33
        clear c33
        obtain ⟨c34b0, H⟩ := ge H
        obtain ⟨c35b0, H⟩ := ge H
        obtain ⟨c36b0, H⟩ := ge H
        obtain ⟨c37b0, H⟩ := ge H
        by_cases c38 : ((rd_T69 l0 (rd t158 x38_1)).f1) = 0
        ·rw [if_pos c38] at H
         obtain ⟨c38b0, c38b1⟩ := eq2 c38
         clear c38
         have H' := Am H
         clear H
         have p161 : 0 ≤ (x38_1 : Int) := da
         have q161 : x38_1 < (t158.length : Int) := da
         obtain ⟨ad161, e161, hx161_0⟩ := Kd.at_int (Kd.R_reads' HO_36.out).2.2 x38_1 p161 q161
         cases e161
         replace p161 := eq_true p161
         replace q161 := eq_true q161
         obtain ⟨ad162, e162, hx162_0, hx162_1, hx162_2, hx162_3, hx162_4, hx162_5, p162, q162⟩ := t6d HB.out HR0.out (rd t158 x38_1)
         obtain rfl : ad146 = ad162 := (by injection e162)
         go_wp2
         go_roundg k1
         case measure => have := HK1.out; omega
         case rel => exact ⟨(wrap64 (x38_1 + 1)), (by first | rfl | (simp; done) | (simp [*]; done)), H', ⟨by have := HK1.out; omega⟩, ⟨kr HO_36.out⟩, ⟨bk BK150.out⟩, ⟨bs⟩⟩
        ·rw [if_neg c38] at H
         obtain ⟨c38b0, c38b1⟩ := ne2 c38
         simp only [Option.some.injEq, Prod.mk.injEq] at H
         obtain ⟨rfl, rfl⟩ := H
         have p161 : 0 ≤ (x38_1 : Int) := da
         have q161 : x38_1 < (t158.length : Int) := da
         obtain ⟨ad161, e161, hx161_0⟩ := Kd.at_int (Kd.R_reads' HO_36.out).2.2 x38_1 p161 q161
         cases e161
         replace p161 := eq_true p161
         replace q161 := eq_true q161
         obtain ⟨ad162, e162, hx162_0, hx162_1, hx162_2, hx162_3, hx162_4, hx162_5, p162, q162⟩ := t6d HB.out HR0.out (rd t158 x38_1)
         obtain rfl : ad146 = ad162 := (by injection e162)
         go_wp2
         go_ret2
         exact ⟨er, bs⟩
       ·rw [if_neg c33] at H
        have c33b0 := decide_eq_false c33
        clear c33
        simp only [Option.some.injEq, Prod.mk.injEq] at H
        obtain ⟨rfl, rfl⟩ := H
        obtain ⟨z39_0, z39_1, z39_2, z39_3, z39_4, z39_5, f39_0, f39_1, f39_2, f39_3, f39_4, f39_5⟩ := cf6 BK150.out
        go_wp2
        go_ret2
        exact ⟨er, bs⟩
    ·replace c19 := Bool.eq_false_iff.mpr c19
     subst c19
     rw [if_neg nf] at H
     simp only [Option.some.injEq, Prod.mk.injEq] at H
     obtain ⟨rfl, rfl⟩ := H
     go_enter Tryz.func142, Tryz.ntmps142
     try go_wp2_with (first | ((with_reducible refine Gc 55 rfl ?_); refine gL 9 Tryz.func55 #[.slice A0 l0.length c0] ?_; (with_reducible refine (table_Check.calls k _ _ l0 t145 _ (kc HR0.out) HC0.out A2.out).mono ?_); rintro e w40 ⟨rfl, hb⟩; refine ⟨_, rfl, ?_⟩; replace HB := Am (below_step bq hb); (try clear hb); have p146 : 0 ≤ (0 : Int) := (by omega); have q146 : 0 < (l0.length : Int) := da; obtain ⟨ad146, e146, hx146_0, hx146_1, hx146_2, hx146_3, hx146_4, hx146_5⟩ := t6 HB.out HR0.out 0 p146 q146; cases e146; have qi146 : (0 < l0.length) = True := eq_true (by omega); (try simp only [show ((0 : Int)).toNat = 0 from rfl, show 0 * 6 = 0 from rfl, Addr.add_zero'] at hx146_0 hx146_1 hx146_2 hx146_3 hx146_4 hx146_5); replace p146 := eq_true p146; replace q146 := eq_true q146) | ((with_reducible refine Gc 165 rfl ?_); refine gL 17 Tryz.func165 #[.slice (some ad146) l0.length c0, .agg (cN (rd_T69 l0 0))] ?_; (with_reducible refine (table_crowned.calls _ _ l0 _ _ _ _ _ _ true _ (kc (Kd.C_below HR0.out HB.out)) HC0.out A5.out).mono ?_); rintro e w41 ⟨rfl, hb⟩; refine ⟨_, rfl, ?_⟩; replace HB := Am (below_step bq hb); (try clear hb); have p148 : 0 ≤ (0 : Int) := (by omega); have q148 : 0 < (l0.length : Int) := da; obtain ⟨ad148, e148, hx148_0, hx148_1, hx148_2, hx148_3, hx148_4, hx148_5⟩ := t6 HB.out HR0.out 0 p148 q148; obtain rfl : ad146 = ad148 := (by injection e148); have qi148 : (0 < l0.length) = True := eq_true (by omega); (try simp only [show ((0 : Int)).toNat = 0 from rfl, show 0 * 6 = 0 from rfl, Addr.add_zero'] at hx148_0 hx148_1 hx148_2 hx148_3 hx148_4 hx148_5); replace p148 := eq_true p148; replace q148 := eq_true q148; obtain ⟨ad149, e149, hx149_0, hx149_1, hx149_2, hx149_3, hx149_4, hx149_5, p149, q149⟩ := t6d HB.out HR0.out ((rd_T69 l0 0).f4); obtain rfl : ad146 = ad149 := (by injection e149)) | ((with_reducible refine Gd 5 rfl ?_); refine bE 5 (cs := #[.int .i64 0, .int .i64 0, .int .i64 0, .int .i64 0, .int .i64 0, .int .i64 0]) (t := 69) ?_; intro gb150 hg w42 hbox hb; obtain ⟨n0_, BK150, GW150, GE150⟩ := bx hg hbox hb; clear HB; have HB := n0_; clear n0_ hb hbox hg; obtain ⟨z43_0, z43_1, z43_2, z43_3, z43_4, z43_5, f43_0, f43_1, f43_2, f43_3, f43_4, f43_5⟩ := cf6 BK150.out))
     have n0_ : Aside0 (((((((w42.setCell ⟨gb150, 0, none⟩ (.int .i64 ((rd_T69 l0 ((rd_T69 l0 0).f4)).f0))).setCell ⟨gb150, 1, none⟩ (.int .i64 ((rd_T69 l0 ((rd_T69 l0 0).f4)).f1))).setCell ⟨gb150, 2, none⟩ (.int .i64 ((rd_T69 l0 ((rd_T69 l0 0).f4)).f2))).setCell ⟨gb150, 3, none⟩ (.int .i64 ((rd_T69 l0 ((rd_T69 l0 0).f4)).f3))).setCell ⟨gb150, 4, none⟩ (.int .i64 ((rd_T69 l0 ((rd_T69 l0 0).f4)).f4))).setCell ⟨gb150, 5, none⟩ (.int .i64 ((rd_T69 l0 ((rd_T69 l0 0).f4)).f5))).heap[gb150]? = some (.cells #[.int .i64 ((rd_T69 l0 ((rd_T69 l0 0).f4)).f0), .int .i64 ((rd_T69 l0 ((rd_T69 l0 0).f4)).f1), .int .i64 ((rd_T69 l0 ((rd_T69 l0 0).f4)).f2), .int .i64 ((rd_T69 l0 ((rd_T69 l0 0).f4)).f3), .int .i64 ((rd_T69 l0 ((rd_T69 l0 0).f4)).f4), .int .i64 ((rd_T69 l0 ((rd_T69 l0 0).f4)).f5)] 69 (0, 0))) := ⟨bp6 BK150.out⟩
     have n1_ : Aside0 (Below w.heap.size w ((((((w42.setCell ⟨gb150, 0, none⟩ (.int .i64 ((rd_T69 l0 ((rd_T69 l0 0).f4)).f0))).setCell ⟨gb150, 1, none⟩ (.int .i64 ((rd_T69 l0 ((rd_T69 l0 0).f4)).f1))).setCell ⟨gb150, 2, none⟩ (.int .i64 ((rd_T69 l0 ((rd_T69 l0 0).f4)).f2))).setCell ⟨gb150, 3, none⟩ (.int .i64 ((rd_T69 l0 ((rd_T69 l0 0).f4)).f3))).setCell ⟨gb150, 4, none⟩ (.int .i64 ((rd_T69 l0 ((rd_T69 l0 0).f4)).f4))).setCell ⟨gb150, 5, none⟩ (.int .i64 ((rd_T69 l0 ((rd_T69 l0 0).f4)).f5)))) := ⟨bs⟩
     (try clear BK150)
     (try clear HB)
     generalize ((((((w42.setCell ⟨gb150, 0, none⟩ (.int .i64 ((rd_T69 l0 ((rd_T69 l0 0).f4)).f0))).setCell ⟨gb150, 1, none⟩ (.int .i64 ((rd_T69 l0 ((rd_T69 l0 0).f4)).f1))).setCell ⟨gb150, 2, none⟩ (.int .i64 ((rd_T69 l0 ((rd_T69 l0 0).f4)).f2))).setCell ⟨gb150, 3, none⟩ (.int .i64 ((rd_T69 l0 ((rd_T69 l0 0).f4)).f3))).setCell ⟨gb150, 4, none⟩ (.int .i64 ((rd_T69 l0 ((rd_T69 l0 0).f4)).f4))).setCell ⟨gb150, 5, none⟩ (.int .i64 ((rd_T69 l0 ((rd_T69 l0 0).f4)).f5))) = w44 at n0_ n1_ ⊢
     have BK150 := n0_
     have HB := n1_
     clear n0_ n1_
     replace BK150 := Am (blk_drew BK150.out)
     replace HB := Am (bd HB.out)
     refine sT 3 [] (S := fun w' => w'.cell? ⟨gb150, 0, none⟩ = some (.int .i64 ((rd_T69 l0 ((rd_T69 l0 0).f4)).f0)) ∧ w'.cell? ⟨gb150, 1, none⟩ = some (.int .i64 ((rd_T69 l0 ((rd_T69 l0 0).f4)).f1)) ∧ w'.cell? ⟨gb150, 2, none⟩ = some (.int .i64 ((rd_T69 l0 ((rd_T69 l0 0).f4)).f2)) ∧ w'.cell? ⟨gb150, 3, none⟩ = some (.int .i64 ((rd_T69 l0 ((rd_T69 l0 0).f4)).f3)) ∧ w'.cell? ⟨gb150, 4, none⟩ = some (.int .i64 ((rd_T69 l0 ((rd_T69 l0 0).f4)).f4)) ∧ w'.cell? ⟨gb150, 5, none⟩ = some (.int .i64 ((rd_T69 l0 ((rd_T69 l0 0).f4)).f5))) (cz6 BK150.out) fun hHeld => ?_
     generalize w44.drew = w45 at BK150 HB hHeld ⊢
     refine ta 0 26 hHeld ?_
     refine on 1 27 fun K hK => ?_
     refine gO Tryz.func121 #[] ?_
     with_reducible refine (table_sentinel.calls  t151 t152 t153 t154 t155 t156 _ A9.out).mono ?_
     rintro e w46 ⟨rfl, hb⟩
     refine ⟨_, rfl, ?_⟩
     replace BK150 := Am (blk_below (bk BK150.out) hb)
     replace HB := Am (below_step bs hb)
     (try clear hb)
     refine hK.out _ _ (cz6 BK150.out) (fun hHeld => ?_)
     clear hK K
     refine nm 27 ?_
     refine pu 2 28 ?_
     refine done_ (by kernel_rfl) ?_
     obtain ⟨z47_0, z47_1, z47_2, z47_3, z47_4, z47_5, f47_0, f47_1, f47_2, f47_3, f47_4, f47_5⟩ := cf6 BK150.out
     try go_wp2_with (first | ((with_reducible refine Gc 165 rfl ?_); refine gL 31 Tryz.func165 #[.slice (some ad146) l0.length c0, .agg (cN (rd_T69 l0 ((rd_T69 l0 0).f4)))] ?_; (with_reducible refine (table_crowned.calls _ _ l0 _ _ _ _ _ _ false _ (kc (Kd.C_below HR0.out HB.out)) HC0.out A18.out).mono ?_); rintro e w48 ⟨rfl, hb⟩; refine ⟨_, rfl, ?_⟩; replace BK150 := Am (blk_below (bk BK150.out) hb); replace HB := Am (below_step bs hb); (try clear hb)))
     go_ret2
     exact ⟨er, bs⟩
  ·replace c6 := Bool.eq_false_iff.mpr c6
   subst c6
   rw [if_neg nf] at H
   simp only [Option.some.injEq, Prod.mk.injEq] at H
   obtain ⟨rfl, rfl⟩ := H
   go_enter Tryz.func142, Tryz.ntmps142
   go_wp2_with (first | ((with_reducible refine Gc 55 rfl ?_); refine gL 9 Tryz.func55 #[.slice A0 l0.length c0] ?_; (with_reducible refine (table_Check.calls k _ _ l0 t145 _ (kc HR0.out) HC0.out A2.out).mono ?_); rintro e w49 ⟨rfl, hb⟩; refine ⟨_, rfl, ?_⟩; replace HB := Am (below_step bq hb); (try clear hb); have p146 : 0 ≤ (0 : Int) := (by omega); have q146 : 0 < (l0.length : Int) := da; obtain ⟨ad146, e146, hx146_0, hx146_1, hx146_2, hx146_3, hx146_4, hx146_5⟩ := t6 HB.out HR0.out 0 p146 q146; cases e146; have qi146 : (0 < l0.length) = True := eq_true (by omega); (try simp only [show ((0 : Int)).toNat = 0 from rfl, show 0 * 6 = 0 from rfl, Addr.add_zero'] at hx146_0 hx146_1 hx146_2 hx146_3 hx146_4 hx146_5); replace p146 := eq_true p146; replace q146 := eq_true q146) | ((with_reducible refine Gc 165 rfl ?_); refine gL 17 Tryz.func165 #[.slice (some ad146) l0.length c0, .agg (cN (rd_T69 l0 0))] ?_; (with_reducible refine (table_crowned.calls _ _ l0 _ _ _ _ _ _ false _ (kc (Kd.C_below HR0.out HB.out)) HC0.out A5.out).mono ?_); rintro e w50 ⟨rfl, hb⟩; refine ⟨_, rfl, ?_⟩; replace HB := Am (below_step bq hb); (try clear hb)))
   go_ret2
   exact ⟨er, bq⟩
 ·rw [if_neg c3] at H
  obtain ⟨c3b0, c3b1⟩ := ne2 c3
  simp only [Option.some.injEq, Prod.mk.injEq] at H
  obtain ⟨rfl, rfl⟩ := H
  go_enter Tryz.func142, Tryz.ntmps142
  go_wp2_with (first | ((with_reducible refine Gc 55 rfl ?_); refine gL 9 Tryz.func55 #[.slice A0 l0.length c0] ?_; (with_reducible refine (table_Check.calls k _ _ l0 t145 _ (kc HR0.out) HC0.out A2.out).mono ?_); rintro e w51 ⟨rfl, hb⟩; refine ⟨_, rfl, ?_⟩; replace HB := Am (below_step bq hb); (try clear hb)))
  go_ret2
  exact ⟨er, bq⟩
end
section
attribute [local go_sem] max2_int min2_int max_two min_two max_three min_three max_four min_four
def table_path.l0 : Nat → List (S69) → Int → Int → List Int → Option (List Int)
 | 0, _, _, _, _ => none
 | k + 1, x0, x1, x5, x6 => if 0 ≤ x5 then (if x5 < (x0.length : Int) then ((table_isLeaf.f ((rd_T69 x0 x5).f0) ((rd_T69 x0 x5).f1) ((rd_T69 x0 x5).f2) ((rd_T69 x0 x5).f3) ((rd_T69 x0 x5).f4) ((rd_T69 x0 x5).f5)).bind fun t275 => (if t275 = true then (some x6) else (if ((rd_T69 x0 x5).f1) = 1 then (if x6.length < 17592186044416 then (table_path.l0 k x0 x1 ((rd_T69 x0 x5).f4) (x6 ++ [(rd_T69 x0 x5).f4])) else (none)) else (if x1 < ((rd_T69 x0 x5).f0) then (if x6.length < 17592186044416 then (table_path.l0 k x0 x1 ((rd_T69 x0 x5).f4) (x6 ++ [(rd_T69 x0 x5).f4])) else (none)) else (if x6.length < 17592186044416 then (table_path.l0 k x0 x1 ((rd_T69 x0 x5).f5) (x6 ++ [(rd_T69 x0 x5).f5])) else (none)))))) else (none)) else (none)
def table_path.f (k : Nat) (l0 : List (S69)) (a1 : Int) : Option (List Int) := table_path.l0 k l0 a1 0 (([0] : List Int))
theorem table_path.mono_l : ∀ k, (∀ y0 y1 y2 y3, LeO (table_path.l0 k y0 y1 y2 y3) (table_path.l0 (k + 1) y0 y1 y2 y3))
 | 0 => fun _ _ _ _ r h => by simp [table_path.l0] at h
 | k + 1 => by
  have ih0 := table_path.mono_l k
  ·intro y0 y1 y2 y3
   unfold table_path.l0
   repeat' with_reducible first | exact ih0 _ _ _ _ | exact LeO.refl _ | exact LeO.none _ | refine LeO.ite ?_ ?_ | refine LeO.bind ?_ (fun _ => ?_)
theorem table_path.mono : ∀ a0 a1 k, LeO (table_path.f k a0 a1) (table_path.f (k + 1) a0 a1) := by
 intro a0 a1 k
 have ih0 := table_path.mono_l k
 unfold table_path.f
 exact dd67
theorem table_path.calls (k : Nat) (A0 : Option Addr) (c0 : Nat) (l0 : List (S69)) (a1 : Int) (r : List Int) (w : World) (hr0 : Kd.C k69 w A0 l0.length l0) (hc0 : l0.length ≤ c0) (h : table_path.f k l0 a1 = some r) :
  Calls Tryz.prog 139 #[.slice A0 l0.length c0, .int .i64 a1] w fun e w' => ∃ v0_ : Value, e = .returned (v0_) ∧ Kd.R (Kd.int .i64) 3 w' w.heap.size (fun _ => True) v0_ r ∧ Below w.heap.size w w' := by
 have HR0 := Am hr0
 have HC0 := Am hc0
 clear hr0 hc0
 have HB := Br w
 have H : (table_path.l0 k l0 a1 0 (([0] : List Int))) = some r := h
 clear h
 obtain ⟨y271, hy271⟩ : ∃ y_ : List Int, y_ = (([0] : List Int)) := ⟨_, rfl⟩
 rw [← hy271] at H
 have Ny271 := Am hy271
 clear hy271
 have H' := Am H
 clear H
 go_enter Tryz.func139, Tryz.ntmps139
 go_wp2_with (first | ((with_reducible refine Gd 8 rfl ?_); refine Kd.R_lit (Kd.int .i64) _ 3 ?hg (N := 8) ?hd (xs := ([0] : List Int)) (inner := [.int .i64 0]) (ok := fun _ => True) (okp := fun _ => True) ?hr ?hp (fun _ hk => hk) trivial (Below.refl _ _) (Nat.le_refl _) (by simp) ?_; (case hd => rfl); (case hg => rfl); (case hr => first | (go_simp; done) | (go_simp; rfl)); (case hp => exact (Reps.one (show Kd.M (Kd.int .i64) _ _ _ 0 [.int .i64 0] from rfl) (Reps.none _ _))); intro v272 w3 ho4 hb hg_ hnew_; clear hg_ hnew_; (first | rw [← Ny271.out] at ho4 | (simp only [Int.reduceToNat] at ho4; rw [← Ny271.out] at ho4)); replace HO273 := Am (Kd.R_lower ho4 (below_size bq)); replace HB := Am (below_step bq hb); clear hb ho4))
 go_loopg [5, 6] k (fun kq v5 v6 w' => ∃ (x5_1 : Int) (x6_1 : List Int), v5 = .int .i64 x5_1 ∧ Aside0 (table_path.l0 kq l0 a1 x5_1 x6_1 = some r) ∧ Aside0 (kq ≤ k) ∧ Aside0 (Kd.R (Kd.int .i64) 3 w' w.heap.size (fun _ => True) v6 x6_1) ∧ Aside0 (Below w.heap.size w w'))
 case atStart => exact ⟨(0), (y271), (by first | rfl | (simp; done) | (simp [*]; done)), H', ⟨Nat.le_refl _⟩, ⟨kr HO273.out⟩, ⟨bq⟩⟩
 case round =>
  clear H'
  obtain ⟨x5_1, x6_1, rfl, HA, HK1, HO_6, HB⟩ := hrel
  cases gk with
  | zero => exact absurd HA.out (by simp [table_path.l0])
  | succ k1 =>
   have H := HA.out
   clear HA
   simp only [table_path.l0] at H
   obtain ⟨c5b0, H⟩ := ge H
   obtain ⟨c6b0, H⟩ := ge H
   obtain ⟨t275, A7, H⟩ := bo H
   by_cases c8 : t275 = true
   ·subst c8
    rw [if_pos rfl] at H
    obtain rfl := Option.some.inj H
    obtain ⟨ad274, e274, hx274_0, hx274_1, hx274_2, hx274_3, hx274_4, hx274_5, p274, q274⟩ := t6d HB.out HR0.out x5_1
    cases e274
    go_wp2_with (first | ((with_reducible refine Gc 84 rfl ?_); refine gL 13 Tryz.func84 #[.agg (cN (rd_T69 l0 x5_1))] ?_; (with_reducible refine (table_isLeaf.calls _ _ _ _ _ _ true _ A7.out).mono ?_); rintro e w9 ⟨rfl, hb⟩; refine ⟨_, rfl, ?_⟩; replace HO_6 := Am (Kd.R_below (kr HO_6.out) hb); replace HB := Am (below_step bq hb); (try clear hb)))
    go_ret
    exact ⟨_, er, kr HO_6.out, bq⟩
   ·replace c8 := Bool.eq_false_iff.mpr c8
    subst c8
    rw [if_neg nf] at H
    by_cases c10 : ((rd_T69 l0 x5_1).f1) = 1
    ·rw [if_pos c10] at H
     obtain ⟨c10b0, c10b1⟩ := eq2 c10
     clear c10
     obtain ⟨c11, H⟩ := gd H
     have LMc11 := Am c11
     clear c11
     obtain ⟨y278, hy278⟩ : ∃ y_ : List Int, y_ = (x6_1 ++ [(rd_T69 l0 x5_1).f4]) := ⟨_, rfl⟩
     rw [← hy278] at H
     have Ny278 := Am hy278
     clear hy278
     have H' := Am H
     clear H
     obtain ⟨ad274, e274, hx274_0, hx274_1, hx274_2, hx274_3, hx274_4, hx274_5, p274, q274⟩ := t6d HB.out HR0.out x5_1
     cases e274
     go_wp2_with (first | ((with_reducible refine Gc 84 rfl ?_); refine gL 13 Tryz.func84 #[.agg (cN (rd_T69 l0 x5_1))] ?_; (with_reducible refine (table_isLeaf.calls _ _ _ _ _ _ false _ A7.out).mono ?_); rintro e w12 ⟨rfl, hb⟩; refine ⟨_, rfl, ?_⟩; replace HO_6 := Am (Kd.R_below (kr HO_6.out) hb); replace HB := Am (below_step bq hb); (try clear hb); obtain ⟨ad276, e276, hx276_0, hx276_1, hx276_2, hx276_3, hx276_4, hx276_5, p276, q276⟩ := t6d HB.out HR0.out x5_1; obtain rfl : ad274 = ad276 := (by injection e276); obtain ⟨ad277, e277, hx277_0, hx277_1, hx277_2, hx277_3, hx277_4, hx277_5, p277, q277⟩ := t6d HB.out HR0.out x5_1; obtain rfl : ad274 = ad277 := (by injection e277)) | ((with_reducible refine gate_builtin (b := .append) (xs := #[.tmp 40, .tmp 42]) rfl ?_); at_builtin; refine Kd.R_append (Kd.int .i64) (w0 := w) w.heap.size rfl (.tmp 40) (.tmp 42) 60 3 (.int .i64 0) 8 rfl Tryz.underlying60 info3 rfl (by decide) (by omega) u6 x6_1 ((rd_T69 l0 x5_1).f4) [.int .i64 ((rd_T69 l0 x5_1).f4)] (fun _ => True) (fun _ => False) rfl rfl ?aP (fun _ hk => hk.elim) ?aF ?aO ?aB ?aS ?aL ?_; (case aP => exact rfl); (case aB => exact bq); (case aF => exact (fun _ _ => trivial)); (case aO => exact (kr HO_6.out)); (case aS => exact (below_size bq)); (case aL => have := LMc11.out; omega); intro v279 w13 ho hb hg hat; rw [← Ny278.out] at ho; replace HB := Am (hb); have HO280 := Am (ho); clear HO_6; clear ho hb hg hat))
     go_roundg k1
     case measure => have := HK1.out; omega
     case rel => exact ⟨((rd_T69 l0 x5_1).f4), (y278), (by first | rfl | (simp; done) | (simp [*]; done)), H', ⟨by have := HK1.out; omega⟩, ⟨kr HO280.out⟩, ⟨bq⟩⟩
    ·rw [if_neg c10] at H
     obtain ⟨c10b0, c10b1⟩ := ne2 c10
     by_cases c14 : a1 < ((rd_T69 l0 x5_1).f0)
     ·rw [if_pos c14] at H
      have c14b0 := decide_eq_true c14
      clear c14
      obtain ⟨c15, H⟩ := gd H
      have LMc15 := Am c15
      clear c15
      obtain ⟨y283, hy283⟩ : ∃ y_ : List Int, y_ = (x6_1 ++ [(rd_T69 l0 x5_1).f4]) := ⟨_, rfl⟩
      rw [← hy283] at H
      have Ny283 := Am hy283
      clear hy283
      have H' := Am H
      clear H
      obtain ⟨ad274, e274, hx274_0, hx274_1, hx274_2, hx274_3, hx274_4, hx274_5, p274, q274⟩ := t6d HB.out HR0.out x5_1
      cases e274
      go_wp2_with (first | ((with_reducible refine Gc 84 rfl ?_); refine gL 13 Tryz.func84 #[.agg (cN (rd_T69 l0 x5_1))] ?_; (with_reducible refine (table_isLeaf.calls _ _ _ _ _ _ false _ A7.out).mono ?_); rintro e w16 ⟨rfl, hb⟩; refine ⟨_, rfl, ?_⟩; replace HO_6 := Am (Kd.R_below (kr HO_6.out) hb); replace HB := Am (below_step bq hb); (try clear hb); obtain ⟨ad276, e276, hx276_0, hx276_1, hx276_2, hx276_3, hx276_4, hx276_5, p276, q276⟩ := t6d HB.out HR0.out x5_1; obtain rfl : ad274 = ad276 := (by injection e276); obtain ⟨ad281, e281, hx281_0, hx281_1, hx281_2, hx281_3, hx281_4, hx281_5, p281, q281⟩ := t6d HB.out HR0.out x5_1; obtain rfl : ad274 = ad281 := (by injection e281); obtain ⟨ad282, e282, hx282_0, hx282_1, hx282_2, hx282_3, hx282_4, hx282_5, p282, q282⟩ := t6d HB.out HR0.out x5_1; obtain rfl : ad274 = ad282 := (by injection e282)) | ((with_reducible refine gate_builtin (b := .append) (xs := #[.tmp 40, .tmp 42]) rfl ?_); at_builtin; refine Kd.R_append (Kd.int .i64) (w0 := w) w.heap.size rfl (.tmp 40) (.tmp 42) 60 3 (.int .i64 0) 8 rfl Tryz.underlying60 info3 rfl (by decide) (by omega) u6 x6_1 ((rd_T69 l0 x5_1).f4) [.int .i64 ((rd_T69 l0 x5_1).f4)] (fun _ => True) (fun _ => False) rfl rfl ?aP (fun _ hk => hk.elim) ?aF ?aO ?aB ?aS ?aL ?_; (case aP => exact rfl); (case aB => exact bq); (case aF => exact (fun _ _ => trivial)); (case aO => exact (kr HO_6.out)); (case aS => exact (below_size bq)); (case aL => have := LMc15.out; omega); intro v284 w17 ho hb hg hat; rw [← Ny283.out] at ho; replace HB := Am (hb); have HO285 := Am (ho); clear HO_6; clear ho hb hg hat))
      go_roundg k1
      case measure => have := HK1.out; omega
      case rel => exact ⟨((rd_T69 l0 x5_1).f4), (y283), (by first | rfl | (simp; done) | (simp [*]; done)), H', ⟨by have := HK1.out; omega⟩, ⟨kr HO285.out⟩, ⟨bq⟩⟩
     ·rw [if_neg c14] at H
      have c14b0 := decide_eq_false c14
      clear c14
      obtain ⟨c18, H⟩ := gd H
      have LMc18 := Am c18
      clear c18
      obtain ⟨y287, hy287⟩ : ∃ y_ : List Int, y_ = (x6_1 ++ [(rd_T69 l0 x5_1).f5]) := ⟨_, rfl⟩
      rw [← hy287] at H
      have Ny287 := Am hy287
      clear hy287
      have H' := Am H
      clear H
      obtain ⟨ad274, e274, hx274_0, hx274_1, hx274_2, hx274_3, hx274_4, hx274_5, p274, q274⟩ := t6d HB.out HR0.out x5_1
      cases e274
      go_wp2_with (first | ((with_reducible refine Gc 84 rfl ?_); refine gL 13 Tryz.func84 #[.agg (cN (rd_T69 l0 x5_1))] ?_; (with_reducible refine (table_isLeaf.calls _ _ _ _ _ _ false _ A7.out).mono ?_); rintro e w19 ⟨rfl, hb⟩; refine ⟨_, rfl, ?_⟩; replace HO_6 := Am (Kd.R_below (kr HO_6.out) hb); replace HB := Am (below_step bq hb); (try clear hb); obtain ⟨ad276, e276, hx276_0, hx276_1, hx276_2, hx276_3, hx276_4, hx276_5, p276, q276⟩ := t6d HB.out HR0.out x5_1; obtain rfl : ad274 = ad276 := (by injection e276); obtain ⟨ad281, e281, hx281_0, hx281_1, hx281_2, hx281_3, hx281_4, hx281_5, p281, q281⟩ := t6d HB.out HR0.out x5_1; obtain rfl : ad274 = ad281 := (by injection e281); obtain ⟨ad286, e286, hx286_0, hx286_1, hx286_2, hx286_3, hx286_4, hx286_5, p286, q286⟩ := t6d HB.out HR0.out x5_1; obtain rfl : ad274 = ad286 := (by injection e286)) | ((with_reducible refine gate_builtin (b := .append) (xs := #[.tmp 40, .tmp 42]) rfl ?_); at_builtin; refine Kd.R_append (Kd.int .i64) (w0 := w) w.heap.size rfl (.tmp 40) (.tmp 42) 60 3 (.int .i64 0) 8 rfl Tryz.underlying60 info3 rfl (by decide) (by omega) u6 x6_1 ((rd_T69 l0 x5_1).f5) [.int .i64 ((rd_T69 l0 x5_1).f5)] (fun _ => True) (fun _ => False) rfl rfl ?aP (fun _ hk => hk.elim) ?aF ?aO ?aB ?aS ?aL ?_; (case aP => exact rfl); (case aB => exact bq); (case aF => exact (fun _ _ => trivial)); (case aO => exact (kr HO_6.out)); (case aS => exact (below_size bq)); (case aL => have := LMc18.out; omega); intro v288 w20 ho hb hg hat; rw [← Ny287.out] at ho; replace HB := Am (hb); have HO289 := Am (ho); clear HO_6; clear ho hb hg hat))
      go_roundg k1
      case measure => have := HK1.out; omega
      case rel => exact ⟨((rd_T69 l0 x5_1).f5), (y287), (by first | rfl | (simp; done) | (simp [*]; done)), H', ⟨by have := HK1.out; omega⟩, ⟨kr HO289.out⟩, ⟨bq⟩⟩
def table_Search.f (k : Nat) (l0 : List (S69)) (a1 : Int) : Option (List Int × Int) := (table_Check.f k l0).bind fun t290 => (if t290 = 0 then ((table_path.f k l0 a1).bind fun t291 => (some (t291, 0))) else (some (([] : List Int), t290)))
theorem table_Search.mono : ∀ a0 a1 k, LeO (table_Search.f k a0 a1) (table_Search.f (k + 1) a0 a1) := by
 intro a0 a1 k
 unfold table_Search.f
 repeat' with_reducible first | exact table_Check.mono _ _ | exact table_path.mono _ _ _ | exact LeO.refl _ | exact LeO.none _ | refine LeO.ite ?_ ?_ | refine LeO.bind ?_ (fun _ => ?_)
theorem table_Search.calls (k : Nat) (A0 : Option Addr) (c0 : Nat) (l0 : List (S69)) (a1 : Int) (r1 : List Int) (r2 : Int) (w : World) (hr0 : Kd.C k69 w A0 l0.length l0) (hc0 : l0.length ≤ c0) (h : table_Search.f k l0 a1 = some (r1, r2)) :
  Calls Tryz.prog 79 #[.slice A0 l0.length c0, .int .i64 a1] w fun e w' => ∃ v0_ : Value, e = .returned (.tuple #[v0_, .int .i64 r2]) ∧ Kd.R (Kd.int .i64) 3 w' w.heap.size (fun _ => True) v0_ r1 ∧ Below w.heap.size w w' := by
 have HR0 := Am hr0
 have HC0 := Am hc0
 clear hr0 hc0
 have HB := Br w
 have H := h
 unfold table_Search.f at H
 clear h
 obtain ⟨t290, A3, H⟩ := bo H
 by_cases c4 : t290 = 0
 ·rw [if_pos c4] at H
  obtain ⟨c4b0, c4b1⟩ := eq2 c4
  clear c4
  obtain ⟨t291, A5, H⟩ := bo H
  simp only [Option.some.injEq, Prod.mk.injEq] at H
  obtain ⟨rfl, rfl⟩ := H
  go_enter Tryz.func79, Tryz.ntmps79
  go_wp2_with (first | ((with_reducible refine Gc 55 rfl ?_); refine gL 8 Tryz.func55 #[.slice A0 l0.length c0] ?_; (with_reducible refine (table_Check.calls k _ _ l0 t290 _ (kc HR0.out) HC0.out A3.out).mono ?_); rintro e w6 ⟨rfl, hb⟩; refine ⟨_, rfl, ?_⟩; replace HB := Am (below_step bq hb); (try clear hb)) | ((with_reducible refine Gc 139 rfl ?_); refine gL 14 Tryz.func139 #[.slice A0 l0.length c0, .int .i64 a1] ?_; (with_reducible refine (table_path.calls k _ _ l0 a1 t291 _ (kc (Kd.C_below HR0.out HB.out)) HC0.out A5.out).mono ?_); rintro e w7 ⟨v292, rfl, ho0, hb⟩; refine ⟨_, rfl, ?_⟩; replace HO293 := Am (Kd.R_lower ho0 (below_size bq)); replace HB := Am (below_step bq hb); (try clear hb); (try clear hb2); (try clear hk); (try clear hi); (try clear ho0)))
  go_ret2
  exact ⟨_, er, kr HO293.out, bq⟩
 ·rw [if_neg c4] at H
  obtain ⟨c4b0, c4b1⟩ := ne2 c4
  simp only [Option.some.injEq, Prod.mk.injEq] at H
  obtain ⟨rfl, rfl⟩ := H
  go_enter Tryz.func79, Tryz.ntmps79
  go_wp2_with (first | ((with_reducible refine Gc 55 rfl ?_); refine gL 8 Tryz.func55 #[.slice A0 l0.length c0] ?_; (with_reducible refine (table_Check.calls k _ _ l0 t290 _ (kc HR0.out) HC0.out A3.out).mono ?_); rintro e w8 ⟨rfl, hb⟩; refine ⟨_, rfl, ?_⟩; replace HB := Am (below_step bq hb); (try clear hb)))
  go_ret2
  exact dd22
def seq_leaf.f (a0 : Int) (a1 : Int) (a2 : Int) : Option (Int × Int × Int × Int × Int × Int) := some (a0, 0, a2, a1, (-1), (-1))
theorem seq_leaf.calls (a0 : Int) (a1 : Int) (a2 : Int) (r1 : Int) (r2 : Int) (r3 : Int) (r4 : Int) (r5 : Int) (r6 : Int) (w : World) (h : seq_leaf.f a0 a1 a2 = some (r1, r2, r3, r4, r5, r6)) :
  Calls Tryz.prog 102 #[.int .i64 a0, .int .i64 a1, .int .i64 a2] w (RB w (.agg #[.int .i64 r1, .int .i64 r2, .int .i64 r3, .int .i64 r4, .int .i64 r5, .int .i64 r6])) := by
 have HB := Br w
 have H : (some (a0, 0, a2, a1, (-1), (-1))) = some (r1, r2, r3, r4, r5, r6) := h
 clear h
 simp only [Option.some.injEq, Prod.mk.injEq] at H
 obtain ⟨rfl, rfl, rfl, rfl, rfl, rfl⟩ := H
 go_enter Tryz.func102, Tryz.ntmps102
 go_wp2_with (first | ((with_reducible refine Gd 6 rfl ?_); refine bE 6 (cs := #[.int .i64 0, .int .i64 0, .int .i64 0, .int .i64 0, .int .i64 0, .int .i64 0]) (t := 69) ?_; intro gb294 hg w4 hbox hb; obtain ⟨n0_, BK294, GW294, GE294⟩ := bx hg hbox hb; clear HB; have HB := n0_; clear n0_ hb hbox hg; obtain ⟨z5_0, z5_1, z5_2, z5_3, z5_4, z5_5, f5_0, f5_1, f5_2, f5_3, f5_4, f5_5⟩ := cf6 BK294.out))
 refine bodyPost_ret (results_cell_row rfl _ _ gb294 69 #[.int .i64 a0, .int .i64 0, .int .i64 a2, .int .i64 a1, .int .i64 (-1), .int .i64 (-1)] (0, 0) _ rfl (bp6 BK294.out) Tryz.underlying69 rfl (by kernel_rfl)) rfl ?_
 exact ⟨er, bs⟩
def seq_inner.f (a0 : Int) (a1 : Int) (a2 : Int) (a3_0 : Int) (a3_1 : Int) (a3_2 : Int) (a3_3 : Int) (a3_4 : Int) (a3_5 : Int) (a4_0 : Int) (a4_1 : Int) (a4_2 : Int) (a4_3 : Int) (a4_4 : Int) (a4_5 : Int) : Option ((List (S69))) := some (([(⟨a0, a1, a2, 0, 1, 2⟩ : S69), (⟨a3_0, a3_1, a3_2, a3_3, a3_4, a3_5⟩ : S69), (⟨a4_0, a4_1, a4_2, a4_3, a4_4, a4_5⟩ : S69)] : List (S69)))
theorem seq_inner.calls (a0 : Int) (a1 : Int) (a2 : Int) (a3_0 : Int) (a3_1 : Int) (a3_2 : Int) (a3_3 : Int) (a3_4 : Int) (a3_5 : Int) (a4_0 : Int) (a4_1 : Int) (a4_2 : Int) (a4_3 : Int) (a4_4 : Int) (a4_5 : Int) (r : List (S69)) (w : World) (h : seq_inner.f a0 a1 a2 a3_0 a3_1 a3_2 a3_3 a3_4 a3_5 a4_0 a4_1 a4_2 a4_3 a4_4 a4_5 = some r) :
  Calls Tryz.prog 154 #[.int .i64 a0, .int .i64 a1, .int .i64 a2, .agg #[.int .i64 a3_0, .int .i64 a3_1, .int .i64 a3_2, .int .i64 a3_3, .int .i64 a3_4, .int .i64 a3_5], .agg #[.int .i64 a4_0, .int .i64 a4_1, .int .i64 a4_2, .int .i64 a4_3, .int .i64 a4_4, .int .i64 a4_5]] w fun e w' => ∃ v0_ : Value, e = .returned (v0_) ∧ Kd.R k69 69 w' w.heap.size (fun _ => True) v0_ r ∧ Below w.heap.size w w' := by
 have HB := Br w
 have H := h
 unfold seq_inner.f at H
 clear h
 obtain ⟨y297, hy297⟩ : ∃ y_ : List (S69), y_ = (([(⟨a0, a1, a2, 0, 1, 2⟩ : S69), (⟨a3_0, a3_1, a3_2, a3_3, a3_4, a3_5⟩ : S69), (⟨a4_0, a4_1, a4_2, a4_3, a4_4, a4_5⟩ : S69)] : List (S69))) := ⟨_, rfl⟩
 rw [← hy297] at H
 have Ny297 := Am hy297
 clear hy297
 obtain rfl := Option.some.inj H
 go_enter Tryz.func154, Tryz.ntmps154
 go_wp2_with (first | ((with_reducible refine Gd 8 rfl ?_); refine bE 8 (cs := #[.int .i64 a3_0, .int .i64 a3_1, .int .i64 a3_2, .int .i64 a3_3, .int .i64 a3_4, .int .i64 a3_5]) (t := 69) ?_; intro gb295 hg w6 hbox hb; obtain ⟨n0_, BK295, GW295, GE295⟩ := bx hg hbox hb; clear HB; have HB := n0_; clear n0_ hb hbox hg) | ((with_reducible refine Gd 9 rfl ?_); refine bE 9 (cs := #[.int .i64 a4_0, .int .i64 a4_1, .int .i64 a4_2, .int .i64 a4_3, .int .i64 a4_4, .int .i64 a4_5]) (t := 69) ?_; intro gb296 hg w7 hbox hb; have BK296 := Am (hbox); have GW296 := Am ((bz' hg : w.heap.size ≤ gb296)); have GE296 := Am ((bz' hg : w.heap.size ≤ gb296)); replace HB := Am (below_step bs hb); have NB295_296 := Am ((by rw [hg]; exact Nat.ne_of_lt (blk_lt (g := gb295) (o := .cells #[.int .i64 a3_0, .int .i64 a3_1, .int .i64 a3_2, .int .i64 a3_3, .int .i64 a3_4, .int .i64 a3_5] 69 (0, 0)) (bk BK295.out)) : gb295 ≠ gb296)); have NB296_295 := Am ((by rw [hg]; exact Nat.ne_of_gt (blk_lt (g := gb295) (o := .cells #[.int .i64 a3_0, .int .i64 a3_1, .int .i64 a3_2, .int .i64 a3_3, .int .i64 a3_4, .int .i64 a3_5] 69 (0, 0)) (bk BK295.out)) : gb296 ≠ gb295)); replace BK295 := Am (blk_below (bk BK295.out) hb); clear hb hbox hg; have hnb8 := NB295_296.out; have hnc8 := NB296_295.out; obtain ⟨z9_0, z9_1, z9_2, z9_3, z9_4, z9_5, f9_0, f9_1, f9_2, f9_3, f9_4, f9_5⟩ := cf6 BK295.out; obtain ⟨z10_0, z10_1, z10_2, z10_3, z10_4, z10_5, f10_0, f10_1, f10_2, f10_3, f10_4, f10_5⟩ := cf6 BK296.out) | ((with_reducible refine Gd 17 rfl ?_); refine Kd.R_lit k69 _ 69 ?hg (N := 17) ?hd (xs := ([(⟨a0, a1, a2, 0, 1, 2⟩ : S69), (⟨a3_0, a3_1, a3_2, a3_3, a3_4, a3_5⟩ : S69), (⟨a4_0, a4_1, a4_2, a4_3, a4_4, a4_5⟩ : S69)] : List (S69))) (inner := [.int .i64 a0, .int .i64 a1, .int .i64 a2, .int .i64 0, .int .i64 1, .int .i64 2, .int .i64 a3_0, .int .i64 a3_1, .int .i64 a3_2, .int .i64 a3_3, .int .i64 a3_4, .int .i64 a3_5, .int .i64 a4_0, .int .i64 a4_1, .int .i64 a4_2, .int .i64 a4_3, .int .i64 a4_4, .int .i64 a4_5]) (ok := fun _ => True) (okp := fun _ => True) ?hr ?hp (fun _ hk => hk) trivial (Below.refl _ _) (Nat.le_refl _) (by simp) ?_; (case hd => rfl); (case hg => rfl); (case hr => first | (go_simp; done) | (go_simp; rfl)); (case hp => exact (Reps.c6 (show Kd.M k69 _ _ _ (⟨a0, a1, a2, 0, 1, 2⟩ : S69) [.int .i64 a0, .int .i64 a1, .int .i64 a2, .int .i64 0, .int .i64 1, .int .i64 2] from (k69_mkM _ _ _ (⟨a0, a1, a2, 0, 1, 2⟩ : S69) )) (Reps.c6 (show Kd.M k69 _ _ _ (⟨a3_0, a3_1, a3_2, a3_3, a3_4, a3_5⟩ : S69) [.int .i64 a3_0, .int .i64 a3_1, .int .i64 a3_2, .int .i64 a3_3, .int .i64 a3_4, .int .i64 a3_5] from (k69_mkM _ _ _ (⟨a3_0, a3_1, a3_2, a3_3, a3_4, a3_5⟩ : S69) )) (Reps.c6 (show Kd.M k69 _ _ _ (⟨a4_0, a4_1, a4_2, a4_3, a4_4, a4_5⟩ : S69) [.int .i64 a4_0, .int .i64 a4_1, .int .i64 a4_2, .int .i64 a4_3, .int .i64 a4_4, .int .i64 a4_5] from (k69_mkM _ _ _ (⟨a4_0, a4_1, a4_2, a4_3, a4_4, a4_5⟩ : S69) )) (Reps.none _ _))))); intro v298 w11 ho12 hb hg_ hnew_; clear hg_ hnew_; (first | rw [← Ny297.out] at ho12 | (simp only [Int.reduceToNat] at ho12; rw [← Ny297.out] at ho12)); replace HO299 := Am (Kd.R_lower (Kd.R_newB (Kd.R_newB ho12 (g := gb295) (o := .cells #[.int .i64 a3_0, .int .i64 a3_1, .int .i64 a3_2, .int .i64 a3_3, .int .i64 a3_4, .int .i64 a3_5] 69 (0, 0)) (bk BK295.out)) (g := gb296) (o := .cells #[.int .i64 a4_0, .int .i64 a4_1, .int .i64 a4_2, .int .i64 a4_3, .int .i64 a4_4, .int .i64 a4_5] 69 (0, 0)) (bk BK296.out)) (below_size bs)); replace BK295 := Am (blk_below (bk BK295.out) hb); replace BK296 := Am (blk_below (bk BK296.out) hb); replace HB := Am (below_step bs hb); clear hb ho12))
 go_ret
 exact ⟨_, er, by (with_reducible repeat (first | apply Kd.R_alloc | apply Kd.R_drewN | apply Kd.R_drew)); exact Kd.R_mono HO299.out (fun _ hk => trivial), bs⟩
def steps_keys.l0 : Nat → List (S69) → Int → List Bool → List Int → Option (Int × List Bool × Int)
 | 0, _, _, _, _ => none
 | k + 1, x0, x5, x7, x8 => if (x8.length : Int) > 0 then (if 0 ≤ (wrap64 ((x8.length : Int) - 1)) then (if (wrap64 ((x8.length : Int) - 1)) < (x8.length : Int) then (if (wrap64 ((x8.length : Int) - 1)) ≤ (x8.length : Int) then ((some (x8.take ((wrap64 ((x8.length : Int) - 1)) : Int).toNat : List Int)).bind fun y309 => (if 0 ≤ (rd x8 (wrap64 ((x8.length : Int) - 1))) then (if (rd x8 (wrap64 ((x8.length : Int) - 1))) < (x7.length : Int) then ((some (x7.set ((rd x8 (wrap64 ((x8.length : Int) - 1))) : Int).toNat true : List Bool)).bind fun y312 => (if (rd x8 (wrap64 ((x8.length : Int) - 1))) < (x0.length : Int) then (if ((rd_T69 x0 (rd x8 (wrap64 ((x8.length : Int) - 1)))).f4) ≥ 0 then ((some (([(rd_T69 x0 (rd x8 (wrap64 ((x8.length : Int) - 1)))).f4, (rd_T69 x0 (rd x8 (wrap64 ((x8.length : Int) - 1)))).f5] : List Int) : List Int)).bind fun y316 => (if y309.length + y316.length < 17592186044416 then (steps_keys.l0 k x0 x5 y312 (y309 ++ y316)) else (none))) else (steps_keys.l0 k x0 x5 y312 y309)) else (none))) else (none)) else (none))) else (none)) else (none)) else (none)) else (some (x5, x7, 0))
def steps_keys.f (k : Nat) (l0 : List (S69)) : Option (Int × List Bool × Int) := (table_Root.f k l0).bind fun bt300 => (if bt300.2 = 0 then (if 0 ≤ (l0.length : Int) then (if ((l0.length : Int) : Int).toNat ≤ 281474976710656 then (steps_keys.l0 k l0 bt300.1 (List.replicate ((l0.length : Int) : Int).toNat false) (([bt300.1] : List Int))) else (none)) else (none)) else (some (0, ([] : List Bool), bt300.2)))
def steps_keys.T11 : Bool × List (List Nat × List Nat) := (true, [([], []), ([], []), ([], []), ([1, 2], [1, 2]), ([3], [3]), ([4], [4]), ([], []), ([], []), ([6, 7], [6, 7]), ([8], [8]), ([9], [9]), ([5, 10], [5, 10]), ([0, 11], [0, 11]), ([12, 12, 0, 1, 2, 3, 4, 5, 6, 7, 8, 9, 10, 11, 12], [0, 12])])
def steps_keys.B11 : List Nat := [0, 0, 0, 6, 14, 30, 0, 0, 192, 448, 960, 2046, 4095, 8191]
theorem steps_keys.tab11 : rtab .any (opsOf Tryz.f122 11) = steps_keys.T11 := by kernel_rfl
theorem steps_keys.bits11 : waitsOk steps_keys.T11.2 steps_keys.B11 = true := by kernel_rfl
theorem steps_keys.calls (k : Nat) (A0 : Option Addr) (c0 : Nat) (l0 : List (S69)) (r1 : Int) (r2 : List Bool) (r3 : Int) (w : World) (hr0 : Kd.C k69 w A0 l0.length l0) (hc0 : l0.length ≤ c0) (h : steps_keys.f k l0 = some (r1, r2, r3)) :
  Calls Tryz.prog 122 #[.slice A0 l0.length c0] w fun e w' => ∃ v1_ : Value, e = .returned (.tuple #[.int .i64 r1, v1_, .int .i64 r3]) ∧ Kd.R Kd.bool 4 w' w.heap.size (fun _ => True) v1_ r2 ∧ Below w.heap.size w w' := by
 have HR0 := Am hr0
 have HC0 := Am hc0
 clear hr0 hc0
 have HB := Br w
 have H := h
 unfold steps_keys.f at H
 clear h
 obtain ⟨⟨t300, t301⟩, A2, H⟩ := bo H
 dsimp only at H
 by_cases c3 : t301 = 0
 ·rw [if_pos c3] at H
  obtain ⟨c3b0, c3b1⟩ := eq2 c3
  clear c3
  obtain ⟨c4, H⟩ := gd H
  have c4b0 := eq_true c4
  have c4b1 := decide_eq_true c4
  clear c4
  obtain ⟨c5, H⟩ := gd H
  have c5b0 := eq_true c5
  have c5b1 := decide_eq_true c5
  clear c5
  obtain ⟨y302, hy302⟩ : ∃ y_ : List Bool, y_ = (List.replicate ((l0.length : Int) : Int).toNat false) := ⟨_, rfl⟩
  rw [← hy302] at H
  have Ny302 := Am hy302
  clear hy302
  obtain ⟨y305, hy305⟩ : ∃ y_ : List Int, y_ = (([t300] : List Int)) := ⟨_, rfl⟩
  rw [← hy305] at H
  have Ny305 := Am hy305
  clear hy305
  have H' := Am H
  clear H
  go_enter Tryz.func122, Tryz.ntmps122
  go_wp2_with (first | ((with_reducible refine Gc 142 rfl ?_); refine gL 12 Tryz.func142 #[.slice A0 l0.length c0] ?_; (with_reducible refine (table_Root.calls k _ _ l0 t300 t301 _ (kc HR0.out) HC0.out A2.out).mono ?_); rintro e w6 ⟨rfl, hb⟩; refine ⟨_, rfl, ?_⟩; replace HB := Am (below_step bq hb); (try clear hb)) | ((with_reducible refine Gd 20 rfl ?_); refine Kd.R_make Kd.bool _ 4 rfl (N := 20) rfl 138 _ _ rfl (l0.length : Int) rfl rfl Tryz.underlying138 (.bool false) 1 info4 rfl (by decide) (by omega) false (ok := fun _ => True) (okp := fun _ => True) rfl (fun _ hk => hk) trivial (da) (Nat.le_trans (Nat.mul_le_mul_right _ (da : (l0.length : Int).toNat ≤ 281474976710656)) (by omega)) (Below.refl _ _) (Nat.le_refl _) ?_; intro v303 w7 ho8 hb hg_ hnew_; clear hg_ hnew_; (first | rw [← Ny302.out] at ho8 | (simp only [Int.reduceToNat] at ho8; rw [← Ny302.out] at ho8)); replace HO304 := Am (Kd.R_lower ho8 (below_size bq)); replace HB := Am (below_step bq hb); clear hb ho8) | ((with_reducible refine Gd 22 rfl ?_); refine Kd.R_lit (Kd.int .i64) _ 3 ?hg (N := 22) ?hd (xs := ([t300] : List Int)) (inner := [.int .i64 t300]) (ok := fun _ => True) (okp := fun _ => True) ?hr ?hp (fun _ hk => hk) trivial (Below.refl _ _) (Nat.le_refl _) (by simp) ?_; (case hd => rfl); (case hg => rfl); (case hr => first | (go_simp; done) | (go_simp; rfl)); (case hp => exact (Reps.one (show Kd.M (Kd.int .i64) _ _ _ t300 [.int .i64 t300] from rfl) (Reps.none _ _))); intro v306 w9 ho10 hb hg_ hnew_; clear hg_ hnew_; (first | rw [← Ny305.out] at ho10 | (simp only [Int.reduceToNat] at ho10; rw [← Ny305.out] at ho10)); replace HO304 := Am (Kd.R_below (kr HO304.out) hb); replace HO307 := Am (Kd.R_lower ho10 (below_size bq)); replace HB := Am (below_step bq hb); clear hb ho10))
  go_loopg [8] k (fun kq v8 w' => ∃ (x7_1 : List Bool) (x8_1 : List Int), Aside0 (steps_keys.l0 kq l0 t300 x7_1 x8_1 = some (r1, r2, r3)) ∧ Aside0 (kq ≤ k) ∧ Aside0 (Kd.R Kd.bool 4 w' w.heap.size (fun _ => True) v303 x7_1) ∧ Aside0 (Kd.R (Kd.int .i64) 3 w' w.heap.size (fun _ => True) v8 x8_1) ∧ Aside0 (Below w.heap.size w w'))
  case atStart => exact ⟨(y302), (y305), H', ⟨Nat.le_refl _⟩, ⟨kr HO304.out⟩, ⟨kr HO307.out⟩, ⟨bq⟩⟩
  case round =>
   clear H'
   clear c3b0 c3b1 c4b0 c4b1 c5b0 c5b1
   obtain ⟨x7_1, x8_1, HA, HK1, HO_7, HO_8, HB⟩ := hrel
   cases gk with
   | zero => exact absurd HA.out (by simp [steps_keys.l0])
   | succ k1 =>
    have H := HA.out
    clear HA
    simp only [steps_keys.l0] at H
    by_cases c11 : (x8_1.length : Int) > 0
    ·rw [if_pos c11] at H
     have c11b0 : decide (0 < (x8_1.length : Int)) = true := decide_eq_true c11
     have c11b1 : decide (0 < x8_1.length) = true := decide_eq_true (by omega)
     clear c11
     obtain ⟨ji12, hji12⟩ : ∃ j_ : Int, (wrap64 ((x8_1.length : Int) - 1)) = j_ := ⟨_, rfl⟩
     first | rw [hji12] at H | simp only [hji12] at H
     have hji12w : (IntKind.i64.wrap ((x8_1.length : Int) - 1)) = ji12 := (i64_w _).trans hji12
     obtain ⟨c13b0, H⟩ := ge H
     obtain ⟨c14b0, H⟩ := ge H
     obtain ⟨c15, H⟩ := gd H
     have c15b0 := eq_true c15
     have c15b1 := decide_eq_true c15
     clear c15
     obtain ⟨y309, Ny309, H⟩ := gb H
     obtain ⟨c16b0, H⟩ := ge H
     obtain ⟨c17b0, H⟩ := ge H
     obtain ⟨y312, Ny312, H⟩ := gb H
     obtain ⟨c19b0, H⟩ := ge H
     by_cases c20 : ((rd_T69 l0 (rd x8_1 (ji12))).f4) ≥ 0
     ·rw [if_pos c20] at H
      have c20b0 : decide (0 ≤ ((rd_T69 l0 (rd x8_1 (ji12))).f4)) = true := decide_eq_true c20
      clear c20
      obtain ⟨y316, Ny316, H⟩ := gb H
      obtain ⟨c21, H⟩ := gd H
      have LMc21 := Am c21
      clear c21
      obtain ⟨y319, hy319⟩ : ∃ y_ : List Int, y_ = (y309 ++ y316) := ⟨_, rfl⟩
      rw [← hy319] at H
      have Ny319 := Am hy319
      clear hy319
      have H' := Am H
      clear H
      obtain ⟨Ao22, co22, eo22⟩ := Kd.R_slice HO_8.out
      subst eo22
      have p308 : 0 ≤ ((ji12) : Int) := da
      have q308 : (ji12) < (x8_1.length : Int) := da
      obtain ⟨ad308, e308, hx308_0⟩ := Kd.at_int (Kd.R_reads' HO_8.out).2.2 (ji12) p308 q308
      cases e308
      replace p308 := eq_true p308
      replace q308 := eq_true q308
      have q23 : ((ji12) : Int) ≤ ((x8_1.length : Int) : Int) := da
      obtain ⟨i023, hi023, _, hsz23, _⟩ := info_parts info3
      have hcut23 := cut_to (P := Tryz.prog) 60 3 .i64 Tryz.underlying60 hi023 (some ad308) x8_1.length co22 (ji12) (da) q23 (Kd.R_reads' HO_8.out).2.1
      have hr23 := Kd.R_take (m := ((ji12) : Int).toNat) HO_8.out (by omega)
      have hy23 : y309.length = ((ji12) : Int).toNat := (by rw [Ny309.out, List.length_take]; omega)
      rw [← Ny309.out] at hr23
      rw [← hy23] at hr23 hcut23
      clear hy23 hi023 hsz23 HO_8
      have HO311 := Am hr23
      clear hr23
      replace q23 := eq_true q23
      have p18 : 0 ≤ ((rd x8_1 (ji12)) : Int) := da
      have q18 : ((rd x8_1 (ji12)) : Int) < ((x7_1.length : Int) : Int) := da
      obtain ⟨go18, co18, eo18, gb18, gl18, cl18, HG18⟩ := Kd.R_form HO_7.out (by omega)
      (first | cases eo18 | (injection eo18 with ea_ en_ ec_; (first | subst ea_ | (injection ea_ with ea_; subst ea_)); subst ec_; clear en_))
      have GB18 := Am gb18
      have GG18 := Am HG18
      clear gb18 gl18 HG18
      obtain ⟨hx18_0, hf18_0⟩ := Kd.R_celln false HO_7.out ((rd x8_1 (ji12)) : Int) p18 q18
      replace p18 := eq_true p18
      replace q18 := eq_true q18
      have HP24 := Kd.R_putg HO_7.out ((rd x8_1 (ji12)) : Int) true
      try go_wp2_with (first | ((with_reducible refine gate_store (t := 4) (p := 39) rfl ?_); refine store_event (t := 4) (p := 39) (v := ?vo_w25) (w1 := (wr.setCell ⟨go18, ((rd x8_1 (ji12)) : Int).toNat, none⟩ (.bool true))) ?hg ?ho ?hn ?hr ?_; (case ho => rfl); (case hg => rfl); (case hn => rfl); (case hr => first | (go_simp; done) | (go_simp; rfl)); intro w25 hw; have hg : wr.grownBy w25 (some go18) := (by rw [hw]; exact HP24.2); have hp_ : Kd.R Kd.bool 4 w25 w.heap.size (fun _ => True) (.slice (some ⟨go18, 0, none⟩) x7_1.length co18) y312 := (by rw [hw, Ny312.out]; exact HP24.1); clear HP24; replace HO311 := Am (Kd.R_over' (v := (.slice (some ⟨go18, 0, none⟩) x7_1.length co18)) (kr HO311.out) (Kd.R_typed HO_7.out) (by decide) hg); replace HO_7 := Am (hp_); replace HB := Am ((by rw [hw]; exact below_set (HB.out) GB18.out : Below w.heap.size w w25)); clear hg hw hp_; obtain ⟨ad313, e313, hx313_0, hx313_1, hx313_2, hx313_3, hx313_4, hx313_5, p313, q313⟩ := t6d HB.out HR0.out (rd x8_1 (ji12)); cases e313))
      replace HO_7 := Am (Kd.R_drew HO_7.out)
      replace HO311 := Am (Kd.R_drew HO311.out)
      replace HB := Am (bd HB.out)
      obtain ⟨ad314, e314, ⟨hw314_0, hw314_1, hw314_2, hw314_3, hw314_4, hw314_5⟩, hx314_0, hx314_1, hx314_2, hx314_3, hx314_4, hx314_5, p314, q314⟩ := t6e HB.out HR0.out (rd x8_1 (ji12))
      obtain rfl : ad313 = ad314 := (by injection e314)
      obtain ⟨ad315, e315, ⟨hw315_0, hw315_1, hw315_2, hw315_3, hw315_4, hw315_5⟩, hx315_0, hx315_1, hx315_2, hx315_3, hx315_4, hx315_5, p315, q315⟩ := t6e HB.out HR0.out (rd x8_1 (ji12))
      obtain rfl : ad313 = ad315 := (by injection e315)
      refine sT 14 [] (S := fun w' => w'.cell? (ad313.add (((rd x8_1 (ji12))).toNat * 6)) = some (.int .i64 ((rd_T69 l0 (rd x8_1 (ji12))).f0)) ∧ w'.cell? ⟨(ad313.add (((rd x8_1 (ji12))).toNat * 6)).block, (ad313.add (((rd x8_1 (ji12))).toNat * 6)).off + 1, none⟩ = some (.int .i64 ((rd_T69 l0 (rd x8_1 (ji12))).f1)) ∧ w'.cell? ⟨(ad313.add (((rd x8_1 (ji12))).toNat * 6)).block, (ad313.add (((rd x8_1 (ji12))).toNat * 6)).off + 2, none⟩ = some (.int .i64 ((rd_T69 l0 (rd x8_1 (ji12))).f2)) ∧ w'.cell? ⟨(ad313.add (((rd x8_1 (ji12))).toNat * 6)).block, (ad313.add (((rd x8_1 (ji12))).toNat * 6)).off + 3, none⟩ = some (.int .i64 ((rd_T69 l0 (rd x8_1 (ji12))).f3)) ∧ w'.cell? ⟨(ad313.add (((rd x8_1 (ji12))).toNat * 6)).block, (ad313.add (((rd x8_1 (ji12))).toNat * 6)).off + 4, none⟩ = some (.int .i64 ((rd_T69 l0 (rd x8_1 (ji12))).f4)) ∧ w'.cell? ⟨(ad313.add (((rd x8_1 (ji12))).toNat * 6)).block, (ad313.add (((rd x8_1 (ji12))).toNat * 6)).off + 5, none⟩ = some (.int .i64 ((rd_T69 l0 (rd x8_1 (ji12))).f5))) ⟨(hc hw314_0), (hc hw314_1), (hc hw314_2), (hc hw314_3), (hc hw314_4), (hc hw314_5)⟩ fun hHeld => ?_; refine with_tabW steps_keys.tab11 steps_keys.bits11 (fun HT_ HW_ => ?_)
      generalize w25.drew = w26 at HO_7 HO311 HB hx314_0 hx314_1 hx314_2 hx314_3 hx314_4 hx314_5 hx315_0 hx315_1 hx315_2 hx315_3 hx315_4 hx315_5 hHeld ⊢
      refine puT HT_.out 0 46 ?_
      refine puT HT_.out 1 47 ?_
      refine puT HT_.out 2 48 ?_
      refine puT HT_.out 3 49 ?_
      refine puT HT_.out 4 50 ?_
      refine puT HT_.out 6 52 ?_
      refine puT HT_.out 7 53 ?_
      refine puT HT_.out 8 54 ?_
      refine puT HT_.out 9 55 ?_
      refine taT HT_.out HW_.out 5 51 hHeld ?_
      refine taT HT_.out HW_.out 10 56 hHeld ?_
      refine onT HT_.out 11 57 fun K hK => ?_
      refine Kd.R_lit_step (Kd.int .i64) _ 3 ?hg (N := 57) ?hd (xs := ([(rd_T69 l0 (rd x8_1 (ji12))).f4, (rd_T69 l0 (rd x8_1 (ji12))).f5] : List Int)) (inner := [.int .i64 ((rd_T69 l0 (rd x8_1 (ji12))).f4), .int .i64 ((rd_T69 l0 (rd x8_1 (ji12))).f5)]) (ok := fun _ => True) (okp := fun _ => True) ?hr ?hp (fun _ hk => hk) trivial (Below.refl _ _) (Nat.le_refl _) (by simp) ?_; (case hd => rfl); (case hg => rfl); (case hr => first | (go_simp; done) | (go_simp; rfl)); (case hp => exact (Reps.one (show Kd.M (Kd.int .i64) _ _ _ ((rd_T69 l0 (rd x8_1 (ji12))).f4) [.int .i64 ((rd_T69 l0 (rd x8_1 (ji12))).f4)] from rfl) (Reps.one (show Kd.M (Kd.int .i64) _ _ _ ((rd_T69 l0 (rd x8_1 (ji12))).f5) [.int .i64 ((rd_T69 l0 (rd x8_1 (ji12))).f5)] from rfl) (Reps.none _ _))))
      intro v317 w27 ho28 hb hg_ hnew_
      clear hg_ hnew_
      (first | rw [← Ny316.out] at ho28 | (simp only [Int.reduceToNat] at ho28; rw [← Ny316.out] at ho28))
      replace HO_7 := Am (Kd.R_below (kr HO_7.out) hb)
      have HO318 := Am (Kd.R_lower (Kd.R_new' ho28 (Kd.R_lt (kr HO311.out))) (below_size bq))
      replace HO311 := Am (Kd.R_elder' (kr HO311.out) (Kd.R_base ho28) hb)
      replace HB := Am (below_step bq hb)
      clear hb ho28
      obtain ⟨Ao30, co30, eo30⟩ := Kd.R_slice HO318.out
      (first | subst eo30 | (injection eo30 with f1_ f2_ f3_; have f4_ := f1_.symm; have f5_ := f3_.symm; clear f1_ f2_ f3_; subst f4_; subst f5_))
      refine hK.out _ _ ⟨(hc hw314_0), (hc hw314_1), (hc hw314_2), (hc hw314_3), (hc hw314_4), (hc hw314_5)⟩ (fun hHeld => ?_)
      clear hK K
      refine nm 57 ?_
      refine onT HT_.out 12 58 fun K hK => ?_
      refine Kd.R_append_rows_step (Kd.int .i64) (w0 := w) w.heap.size (by rfl) (.tmp 46) (.tmp 57) 60 3 (.int .i64 0) 8 rfl Tryz.underlying60 info3 rfl (by decide) (by omega) (.slice (some ad308) y309.length co22) y309 y316 _ _ _ (fun k_ => some k_ ≠ (.slice Ao30 y316.length co30 : Value).ownBlock) (fun _ => False) rfl rfl ?aO ?aR (fun _ _ h => h) (fun _ h => h.elim) ?aF ?aB ?aS ?aL ?_
      (case aR => repeat (first | exact (Kd.R_reads' HO318.out).2.2 | (with_reducible refine Kd.C_alloc ?_ _) | (with_reducible refine Kd.C_drewN ?_ _) | (with_reducible refine Kd.C_drew ?_)))
      (case aB => exact bq)
      (case aF => exact (fun k_ hk => Kd.fresh' (Kd.R_lt (kr HO318.out)) k_ hk))
      (case aO => exact (by (with_reducible repeat (first | apply Kd.R_alloc | apply Kd.R_drewN | apply Kd.R_drew)); exact Kd.R_mono HO311.out (fun _ hk => hk.2)))
      (case aS => exact (below_size bq))
      (case aL => have := LMc21.out; omega)
      intro v320 w29 ho hb hg hat
      rw [← Ny319.out] at ho
      replace HO_7 := Am (Kd.R_over' (kr HO_7.out) (Kd.R_typed (kr HO311.out)) (by decide) hg)
      replace HO318 := Am (Kd.R_after (ok := (fun _ => True)) (kr HO318.out) hg hat)
      replace HB := Am (hb)
      have HO321 := Am (ho)
      clear HO311
      clear ho hb hg hat
      refine hK.out _ _ ⟨(hc hw314_0), (hc hw314_1), (hc hw314_2), (hc hw314_3), (hc hw314_4), (hc hw314_5)⟩ (fun hHeld => ?_)
      clear hK K
      refine nm 58 ?_
      refine puT HT_.out 13 8 ?_
      refine done_ (done_of HT_.out (by kernel_rfl)) ?_
      try go_wp2
      go_roundg k1
      case measure => have := HK1.out; omega
      case rel => exact ⟨(y312), (y319), H', ⟨by have := HK1.out; omega⟩, ⟨kr HO_7.out⟩, ⟨by (with_reducible repeat (first | apply Kd.R_alloc | apply Kd.R_drewN | apply Kd.R_drew)); exact Kd.R_mono HO321.out (fun _ hk => trivial)⟩, ⟨bq⟩⟩
     ·rw [if_neg c20] at H
      have c20b0 : decide (0 ≤ ((rd_T69 l0 (rd x8_1 (ji12))).f4)) = false := decide_eq_false c20
      clear c20
      have H' := Am H
      clear H
      obtain ⟨Ao31, co31, eo31⟩ := Kd.R_slice HO_8.out
      subst eo31
      have p308 : 0 ≤ ((ji12) : Int) := da
      have q308 : (ji12) < (x8_1.length : Int) := da
      obtain ⟨ad308, e308, hx308_0⟩ := Kd.at_int (Kd.R_reads' HO_8.out).2.2 (ji12) p308 q308
      cases e308
      replace p308 := eq_true p308
      replace q308 := eq_true q308
      have q32 : ((ji12) : Int) ≤ ((x8_1.length : Int) : Int) := da
      obtain ⟨i032, hi032, _, hsz32, _⟩ := info_parts info3
      have hcut32 := cut_to (P := Tryz.prog) 60 3 .i64 Tryz.underlying60 hi032 (some ad308) x8_1.length co31 (ji12) (da) q32 (Kd.R_reads' HO_8.out).2.1
      have hr32 := Kd.R_take (m := ((ji12) : Int).toNat) HO_8.out (by omega)
      have hy32 : y309.length = ((ji12) : Int).toNat := (by rw [Ny309.out, List.length_take]; omega)
      rw [← Ny309.out] at hr32
      rw [← hy32] at hr32 hcut32
      clear hy32 hi032 hsz32 HO_8
      have HO311 := Am hr32
      clear hr32
      replace q32 := eq_true q32
      have p18 : 0 ≤ ((rd x8_1 (ji12)) : Int) := da
      have q18 : ((rd x8_1 (ji12)) : Int) < ((x7_1.length : Int) : Int) := da
      obtain ⟨go18, co18, eo18, gb18, gl18, cl18, HG18⟩ := Kd.R_form HO_7.out (by omega)
      (first | cases eo18 | (injection eo18 with ea_ en_ ec_; (first | subst ea_ | (injection ea_ with ea_; subst ea_)); subst ec_; clear en_))
      have GB18 := Am gb18
      have GG18 := Am HG18
      clear gb18 gl18 HG18
      obtain ⟨hx18_0, hf18_0⟩ := Kd.R_celln false HO_7.out ((rd x8_1 (ji12)) : Int) p18 q18
      replace p18 := eq_true p18
      replace q18 := eq_true q18
      have HP33 := Kd.R_putg HO_7.out ((rd x8_1 (ji12)) : Int) true
      go_wp2_with (first | ((with_reducible refine gate_store (t := 4) (p := 39) rfl ?_); refine store_event (t := 4) (p := 39) (v := ?vo_w34) (w1 := (wr.setCell ⟨go18, ((rd x8_1 (ji12)) : Int).toNat, none⟩ (.bool true))) ?hg ?ho ?hn ?hr ?_; (case ho => rfl); (case hg => rfl); (case hn => rfl); (case hr => first | (go_simp; done) | (go_simp; rfl)); intro w34 hw; have hg : wr.grownBy w34 (some go18) := (by rw [hw]; exact HP33.2); have hp_ : Kd.R Kd.bool 4 w34 w.heap.size (fun _ => True) (.slice (some ⟨go18, 0, none⟩) x7_1.length co18) y312 := (by rw [hw, Ny312.out]; exact HP33.1); clear HP33; replace HO311 := Am (Kd.R_over' (v := (.slice (some ⟨go18, 0, none⟩) x7_1.length co18)) (kr HO311.out) (Kd.R_typed HO_7.out) (by decide) hg); replace HO_7 := Am (hp_); replace HB := Am ((by rw [hw]; exact below_set (HB.out) GB18.out : Below w.heap.size w w34)); clear hg hw hp_; obtain ⟨ad313, e313, hx313_0, hx313_1, hx313_2, hx313_3, hx313_4, hx313_5, p313, q313⟩ := t6d HB.out HR0.out (rd x8_1 (ji12)); cases e313))
      go_roundg k1
      case measure => have := HK1.out; omega
      case rel => exact ⟨(y312), (y309), H', ⟨by have := HK1.out; omega⟩, ⟨kr HO_7.out⟩, ⟨kr HO311.out⟩, ⟨bq⟩⟩
    ·rw [if_neg c11] at H
     have c11b0 : decide (0 < (x8_1.length : Int)) = false := decide_eq_false c11
     have c11b1 : decide (0 < x8_1.length) = false := decide_eq_false (by omega)
     clear c11
     simp only [Option.some.injEq, Prod.mk.injEq] at H
     obtain ⟨rfl, rfl, rfl⟩ := H
     obtain ⟨Ao35, co35, eo35⟩ := Kd.R_slice HO_8.out
     subst eo35
     go_wp2
     go_ret3
     exact ⟨_, er, kr HO_7.out, bq⟩
 ·rw [if_neg c3] at H
  obtain ⟨c3b0, c3b1⟩ := ne2 c3
  simp only [Option.some.injEq, Prod.mk.injEq] at H
  obtain ⟨rfl, rfl, rfl⟩ := H
  go_enter Tryz.func122, Tryz.ntmps122
  go_wp2_with (first | ((with_reducible refine Gc 142 rfl ?_); refine gL 12 Tryz.func142 #[.slice A0 l0.length c0] ?_; (with_reducible refine (table_Root.calls k _ _ l0 t300 t301 _ (kc HR0.out) HC0.out A2.out).mono ?_); rintro e w36 ⟨rfl, hb⟩; refine ⟨_, rfl, ?_⟩; replace HB := Am (below_step bq hb); (try clear hb)))
  go_ret3
  exact dd22
def steps_alone.f (a0 : Int) : Option (Bool) := if a0 = 1 then (some true) else (if a0 = 11 then (some true) else (some (a0 == 12)))
theorem steps_alone.calls (a0 : Int) (r : Bool) (w : World) (h : steps_alone.f a0 = some r) :
  Calls Tryz.prog 160 #[.int .i64 a0] w fun e w' => e = .returned (.bool r) ∧ Drawn0 w w' := by
 have H : (if a0 = 1 then (some true) else (if a0 = 11 then (some true) else (some (a0 == 12)))) = some r := h
 clear h
 by_cases c2 : a0 = 1
 ·rw [if_pos c2] at H
  obtain ⟨c2b0, c2b1⟩ := eq2 c2
  clear c2
  exact dd105
 ·rw [if_neg c2] at H
  obtain ⟨c2b0, c2b1⟩ := ne2 c2
  by_cases c3 : a0 = 11
  ·rw [if_pos c3] at H
   obtain ⟨c3b0, c3b1⟩ := eq2 c3
   clear c3
   exact dd105
  ·rw [if_neg c3] at H
   obtain ⟨c3b0, c3b1⟩ := ne2 c3
   exact dd105
def steps_Move_is.f (a0_0 : Int) (a0_1 : Bool) : Option (Bool) := if a0_0 ≥ 1 then (if a0_0 ≤ 12 then (if a0_1 = true then ((steps_alone.f a0_0).bind fun t323 => (some (!t323))) else (some (!false))) else (some false)) else (some false)
theorem steps_Move_is.calls (a0_0 : Int) (a0_1 : Bool) (r : Bool) (w : World) (h : steps_Move_is.f a0_0 a0_1 = some r) :
  Calls Tryz.prog 123 #[.agg #[.int .i64 a0_0, .bool a0_1]] w (RB w (.bool r)) := by
 have HB := Br w
 have H := h
 unfold steps_Move_is.f at H
 clear h
 by_cases c2 : a0_0 ≥ 1
 ·rw [if_pos c2] at H
  have c2b0 : decide (1 ≤ a0_0) = true := decide_eq_true c2
  clear c2
  by_cases c3 : a0_0 ≤ 12
  ·rw [if_pos c3] at H
   have c3b0 := decide_eq_true c3
   clear c3
   by_cases c4 : a0_1 = true
   ·subst c4
    rw [if_pos rfl] at H
    obtain ⟨t323, A5, H⟩ := bo H
    obtain rfl := Option.some.inj H
    go_enter Tryz.func123, Tryz.ntmps123
    go_wp2_with (first | ((with_reducible refine Gd 1 rfl ?_); refine bE 1 (cs := #[.int .i64 a0_0, .bool true]) (t := 49) ?_; intro gb322 hg w6 hbox hb; obtain ⟨n0_, BK322, GW322, GE322⟩ := bx hg hbox hb; clear HB; have HB := n0_; clear n0_ hb hbox hg; obtain ⟨z7_0, z7_1, f7_0, f7_1⟩ := cf2 BK322.out) | (go_at_call 160; (with_reducible refine (steps_alone.calls a0_0 t323 _ A5.out).mono ?_); rintro e w' ⟨rfl, ⟨nd, rfl⟩⟩))
    go_ret
    exact ⟨er, bs⟩
   ·replace c4 := Bool.eq_false_iff.mpr c4
    subst c4
    rw [if_neg nf] at H
    obtain rfl := Option.some.inj H
    go_enter Tryz.func123, Tryz.ntmps123
    go_wp2_with (first | ((with_reducible refine Gd 1 rfl ?_); refine bE 1 (cs := #[.int .i64 a0_0, .bool false]) (t := 49) ?_; intro gb322 hg w8 hbox hb; obtain ⟨n0_, BK322, GW322, GE322⟩ := bx hg hbox hb; clear HB; have HB := n0_; clear n0_ hb hbox hg; obtain ⟨z9_0, z9_1, f9_0, f9_1⟩ := cf2 BK322.out))
    go_ret
    exact ⟨er, bs⟩
  ·rw [if_neg c3] at H
   have c3b0 := decide_eq_false c3
   clear c3
   exact dd38
 ·rw [if_neg c2] at H
  have c2b0 : decide (1 ≤ a0_0) = false := decide_eq_false c2
  clear c2
  exact dd38
end
end Go.Proofs.YtaabbaemfnecgaaGreat.T
