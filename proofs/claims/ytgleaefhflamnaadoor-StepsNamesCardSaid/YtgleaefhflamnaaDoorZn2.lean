/- A part of the proof: see YtgleaefhflamnaaDoorLawStepsNames. -/
import Derived.Test.YtgleaefhflamnaaDoorProg
import Derived.Below
import Derived.Deep.Draws
import Derived.Deep.AppendLies
import Derived.Maps.AppendAt
import Derived.OwnWalk
import Derived.Laws.BytesArg
import Derived.Laws.MakeOwn
import Derived.Laws.OwnMore
import Derived.Deep.OwnRows
import Derived.Tactics
import Derived.Lib.ConvBytes
import Derived.Laws.Slices
import Derived.WalkKit
import Derived.KernelRfl
import Derived.RowKit3
import Derived.Deep.LoopGhost
import Derived.Deep.QuietTactic
import Derived.BigQuiet
import Derived.WideLaws
import Derived.Deep.DeepCutAuto
import Derived.Deep.CutBlock
import Derived.Deep.RegionHeld3
import Derived.Laws.Rows
import Derived.Lib.AppendStr
import Derived.ArgAppend
import Derived.Laws.IdiomCopy
import Derived.OrdersHeld
import Derived.Laws.BitsLemmas
import Derived.RowKit
import Derived.BigRegion
import Derived.Test.YtgleaefhflamnaaDoorZn1
set_option linter.unusedVariables false
set_option linter.unusedSimpArgs false
set_option maxHeartbeats 32000000
set_option maxRecDepth 100000
namespace Go.Proofs.YtgleaefhflamnaaDoor.T
open Go.RowKit Go.Proofs.YtgleaefhflamnaaDoorW.PrintWords Go.Proofs.YtgleaefhflamnaaDoorW.PrintLast Go.Proofs.YtgleaefhflamnaaDoorW.PrintMore
section
section
variable {P : Program} {md : Region.Mode} {ops : Array Oper} {Q : Exit → Act → World → Prop} {S : World → Prop} {ds : List Nat}
theorem pu (i : Nat) (d : Tmp) {oi : Oper} {v : Value} {fuel : Nat} {l : Array Bool} {a a' : Act} {w : World}
    (h : wpAnyLast P md ops Q S ds fuel (l.setIfInBounds i true) a' w)
    (hi : ops[i]? = some oi := by rfl) (hN : oi.dst = some d := by rfl) (hc : anyB md ops l (l.setIfInBounds i true) i = true := by kernel_rfl)
    (hw : Region.wanted oi (yielded ops a.tmps) = true := by rfl)
    (hy : ∀ w', (execOp a.eval oi).run P w' = .ok (.value v) w' := by intro w'; go_simp; with_reducible rfl)
    (hQ : ∀ c a w, Q (.panic c) (a.put oi.dst v) w → Q (.panic c) a w := by exact fun _ _ _ h => h)
    (ha : a.put (some d) v = a' := by simp only [Act.put, List.setIfInBounds_toArray, List.set_cons_zero, List.set_cons_succ, i64_w, i32_w]; rfl) :
    wpAnyLast P md ops Q S ds (fuel + 1) l a w := pure_ (l.setIfInBounds i true) hi hN hc hQ (Or.inl ⟨hw, hy⟩) ha h
theorem ta (i : Nat) (d : Tmp) {oi : Oper} {v : Value} {fuel : Nat} {l : Array Bool} {a a' : Act} {w : World} (hS : S w)
    (h : wpAnyLast P md ops Q S ds fuel (l.setIfInBounds i true) a' w)
    (hi : ops[i]? = some oi := by rfl) (hN : oi.dst = some d := by rfl) (hc : takeB md ops ds l (l.setIfInBounds i true) i = true := by kernel_rfl)
    (hw : Region.wanted oi (yielded ops a.tmps) = true := by rfl)
    (hy : ∀ w', S w' → (execOp a.eval oi).run P w' = .ok (.value v) w' := by intro w' hs; (try dsimp only at hs); go_simp; with_reducible rfl)
    (hQ : ∀ c a w, Q (.panic c) (a.put oi.dst v) w → Q (.panic c) a w := by exact fun _ _ _ h => h)
    (ha : a.put (some d) v = a' := by simp only [Act.put, List.setIfInBounds_toArray, List.set_cons_zero, List.set_cons_succ, i64_w, i32_w]; rfl) :
    wpAnyLast P md ops Q S ds (fuel + 1) l a w := take_ (l.setIfInBounds i true) hi hN hc hQ (Or.inl ⟨hw, hy⟩) hS ha h
theorem po (i : Nat) (d : Tmp) {oi : Oper} {fuel : Nat} {l : Array Bool} {a a' : Act} {w : World}
    (h : wpAnyLast P md ops Q S ds fuel (l.setIfInBounds i true) a' w)
    (hi : ops[i]? = some oi := by rfl) (hN : oi.dst = some d := by rfl) (hc : anyB md ops l (l.setIfInBounds i true) i = true := by kernel_rfl)
    (hw : Region.wanted oi (yielded ops a.tmps) = false := by rfl)
    (hQ : ∀ c a w, Q (.panic c) (a.put oi.dst undef) w → Q (.panic c) a w := by exact fun _ _ _ h => h)
    (ha : a.put (some d) undef = a' := by simp only [Act.put, List.setIfInBounds_toArray, List.set_cons_zero, List.set_cons_succ]; rfl) :
    wpAnyLast P md ops Q S ds (fuel + 1) l a w := pure_ (l.setIfInBounds i true) hi hN hc hQ (Or.inr ⟨hw, rfl⟩) ha h
end
theorem sZ {α : Type} (x y : α) (l : List α) : (x :: l).set 0 y = y :: l := rfl
theorem sS {α : Type} (x y : α) (l : List α) (n : Nat) : (x :: l).set (n + 1) y = x :: l.set n y := rfl
theorem sI {α : Type} (l : List α) (i : Nat) (x : α) : l.toArray.setIfInBounds i x = (l.set i x).toArray := List.setIfInBounds_toArray ..
theorem blt (w : World) (a : Addr) {v : Value} (h : w.cell? a = some v) : a.block < w.heap.size := World.block_lt_of_cell? w a h
theorem Am {p : Prop} (h : p) : Aside0 p := ⟨h⟩
theorem ba {w W : World} (h : Below w.heap.size w W) (o : Obj) : Below w.heap.size w (W.alloc o) := below_alloc h o
theorem bn {B : Nat} {w W : World} (h : Below B w W) (n : Nat) : Below B w (W.drewN n) := pw_below_drewN h n
theorem bd {base : Nat} {w W : World} (h : Below base w W) : Below base w W.drew := below_drew1 h
attribute [local go_sem] max2_int min2_int max_two min_two max_three min_three max_four min_four
def errW : Option Int → Value
 | none => .nilIface
 | some c => .iface 0 (.int .i64 c)
theorem errW_none : errW none = .nilIface := rfl
theorem errW_some (c : Int) : errW (some c) = .iface 0 (.int .i64 c) := rfl
theorem info3 : (Tryd.prog.info? 3).map (fun i => (i.zero, i.size, i.bytes)) = some (some (.int .i64 0), 1, 8) := by kernel_rfl
theorem info4 : (Tryd.prog.info? 4).map (fun i => (i.zero, i.size, i.bytes)) = some (some (.bool false), 1, 1) := by kernel_rfl
theorem info34 : (Tryd.prog.info? 50).map (fun i => (i.zero, i.size, i.bytes)) = some (some (.agg #[(.int .i64 0), (.int .i64 0), (.int .i64 0), (.int .i64 0), (.int .i64 0), (.int .i64 0)]), 6, 48) := by kernel_rfl
structure S34 where
 f0 : Int
 f1 : Int
 f2 : Int
 f3 : Int
 f4 : Int
 f5 : Int
def z34 : S34 := ⟨(0 : Int), (0 : Int), (0 : Int), (0 : Int), (0 : Int), (0 : Int)⟩
def k34 : Kd S34 := Kd.iso (Kd.pair (Kd.int .i64) (Kd.pair (Kd.int .i64) (Kd.pair (Kd.int .i64) (Kd.pair (Kd.int .i64) (Kd.pair (Kd.int .i64) (Kd.int .i64)))))) (fun x : S34 => (x.f0, x.f1, x.f2, x.f3, x.f4, x.f5))
theorem k34_open {w : World} {x : S34} {cs : List Value} (h : k34.K w x cs) : cs = [.int .i64 x.f0, .int .i64 x.f1, .int .i64 x.f2, .int .i64 x.f3, .int .i64 x.f4, .int .i64 x.f5] := by
 obtain ⟨_, _, rfl, rfl, ⟨_, _, rfl, rfl, ⟨_, _, rfl, rfl, ⟨_, _, rfl, rfl, ⟨_, _, rfl, rfl, rfl⟩⟩⟩⟩⟩ := h
 exact rfl
theorem k34_mkM (w : World) (base : Nat) (ok : Nat → Prop) (x : S34)  : k34.M w base ok x [.int .i64 x.f0, .int .i64 x.f1, .int .i64 x.f2, .int .i64 x.f3, .int .i64 x.f4, .int .i64 x.f5] := ⟨[.int .i64 x.f0], [.int .i64 x.f1, .int .i64 x.f2, .int .i64 x.f3, .int .i64 x.f4, .int .i64 x.f5], rfl, rfl, ⟨[.int .i64 x.f1], [.int .i64 x.f2, .int .i64 x.f3, .int .i64 x.f4, .int .i64 x.f5], rfl, rfl, ⟨[.int .i64 x.f2], [.int .i64 x.f3, .int .i64 x.f4, .int .i64 x.f5], rfl, rfl, ⟨[.int .i64 x.f3], [.int .i64 x.f4, .int .i64 x.f5], rfl, rfl, ⟨[.int .i64 x.f4], [.int .i64 x.f5], rfl, rfl, rfl⟩⟩⟩⟩⟩
def rd_T34 (xs : List S34) (i : Int) : S34 := xs.getD i.toNat z34
theorem at_T34 {w : World} {A : Option Addr} {n : Nat} {xs : List S34} (h : Kd.C k34 w A n xs) (i : Int) (h0 : 0 ≤ i) (h1 : i < n) : ∃ ad , A = some ad ∧ w.cell? (ad.add (i.toNat * 6)) = some (.int .i64 (rd_T34 xs i).f0) ∧ w.cell? ⟨(ad.add (i.toNat * 6)).block, (ad.add (i.toNat * 6)).off + 1, none⟩ = some (.int .i64 (rd_T34 xs i).f1) ∧ w.cell? ⟨(ad.add (i.toNat * 6)).block, (ad.add (i.toNat * 6)).off + 2, none⟩ = some (.int .i64 (rd_T34 xs i).f2) ∧ w.cell? ⟨(ad.add (i.toNat * 6)).block, (ad.add (i.toNat * 6)).off + 3, none⟩ = some (.int .i64 (rd_T34 xs i).f3) ∧ w.cell? ⟨(ad.add (i.toNat * 6)).block, (ad.add (i.toNat * 6)).off + 4, none⟩ = some (.int .i64 (rd_T34 xs i).f4) ∧ w.cell? ⟨(ad.add (i.toNat * 6)).block, (ad.add (i.toNat * 6)).off + 5, none⟩ = some (.int .i64 (rd_T34 xs i).f5) := by
 obtain ⟨ad, c, e, _, hK, hc0⟩ := Kd.C_get h z34 i h0 h1
 have hc : ∀ j u, c[j]? = some u → w.cell? (ad.add (i.toNat * 6 + j)) = some u := hc0
 obtain rfl := k34_open hK
 exact ⟨ad, e, hc 0 _ rfl, by rw [← add_field _ _ 1 (by omega)]; exact hc 1 _ rfl, by rw [← add_field _ _ 2 (by omega)]; exact hc 2 _ rfl, by rw [← add_field _ _ 3 (by omega)]; exact hc 3 _ rfl, by rw [← add_field _ _ 4 (by omega)]; exact hc 4 _ rfl, by rw [← add_field _ _ 5 (by omega)]; exact hc 5 _ rfl⟩
theorem bq {p : Prop} (h : p := by repeat (first | (with_reducible first | exact HB.out | apply below_alloc | apply pw_below_drewN | apply below_drew1) | exact HB.out)) : p := h
theorem bst {w W : World} {g j : Nat} {v : Value} (h : Below w.heap.size w W) (hg : Aside0 (w.heap.size ≤ g)) : Below w.heap.size w (W.setCell ⟨g, j, none⟩ v) := below_set h hg.out
theorem bs {p : Prop} (h : p := by repeat (first | (with_reducible first | exact HB.out | apply below_alloc | apply pw_below_drewN | apply below_drew1 | refine bst ?_ (by assumption)) | exact HB.out)) : p := h
theorem bz {w W : World} {g : Nat} (hg : g = W.heap.size) (h : Below w.heap.size w W := by repeat (first | (with_reducible first | exact HB.out | apply below_alloc | apply pw_below_drewN | apply below_drew1) | exact HB.out)) : w.heap.size ≤ g := hg ▸ h.size
theorem bz' {w W : World} {g : Nat} (hg : g = W.heap.size) (h : Below w.heap.size w W := by repeat (first | (with_reducible first | exact HB.out | apply below_alloc | apply pw_below_drewN | apply below_drew1 | refine bst ?_ (by assumption)) | exact HB.out)) : w.heap.size ≤ g := hg ▸ h.size
theorem er {p : Prop} (h : p := by first | rfl | (simp [errW_none, errW_some] <;> rfl) | (simp [*, errW_none, errW_some] <;> rfl)) : p := h
theorem da {p : Prop} [Decidable p] (h : decide p = true := by first | (with_reducible assumption) | assumption) : p := of_decide_eq_true h
theorem kc {α : Type} {d : Kd α} {w W : World} {xs : List α} {A : Option Addr} {n : Nat} (h : d.C w A n xs) (st : Below w.heap.size w W := by repeat (first | (with_reducible first | exact Below.refl _ _ | apply below_alloc | apply pw_below_drewN | apply below_drew1) | exact Below.refl _ _)) : d.C W A n xs := Kd.C_below h st
theorem kr {α : Type} {d : Kd α} {e base : Nat} {w W : World} {xs : List α} {ok : Nat → Prop} {v : Value} (h : d.R e w base ok v xs) (st : Below w.heap.size w W := by repeat (first | (with_reducible first | exact Below.refl _ _ | apply below_alloc | apply pw_below_drewN | apply below_drew1) | exact Below.refl _ _)) : d.R e W base ok v xs := Kd.R_below h st
theorem bk {w W : World} {g : Nat} {o : Obj} (h : w.heap[g]? = some o) (st : Below w.heap.size w W := by repeat (first | (with_reducible first | exact Below.refl _ _ | apply below_alloc | apply pw_below_drewN | apply below_drew1) | exact Below.refl _ _)) : W.heap[g]? = some o := blk_below h st
theorem ar {p : Prop} (h : p := by (try simp only [List.map_toArray, List.map_cons, List.map_nil]); first | done | rfl | (simp only [List.length_drop, List.length_take]; rfl)) : p := h
section
variable {P : Program} {ops : Array Oper} {Q : Exit → Act → World → Prop} {rest : List Oper} {o : Oper} {a : Act} {w : World}
theorem gL (N : Tmp) {f : FuncId} {fn : Func} {as_ : Array Operand} {ts : Array TypeId} (hf : P.funcs[f]? = some fn) (args : Array Value)
    (h : Calls P f args w fun e w' => ∃ v, e = .returned v ∧ wpList P ops Q rest (a.put (some N) v) w')
    (hop : o.op = .call { callee := .value (.func f), args := as_, argTypes := ts } := by with_reducible rfl)
    (hd : o.dst = some N := by rfl) (hg : o.guard = none := by rfl) (hname : (fn.name == "runtime.NumGoroutine") = false := by kernel_rfl) (hb : fn.body.isSome = true := by rfl)
    (hargs : as_.map a.eval = args := by (try simp only [List.map_toArray, List.map_cons, List.map_nil]); first | done | rfl | (simp only [List.length_drop, List.length_take]; rfl)) :
    wpList P ops Q (o :: rest) a w := goesL_ (some N) hd hg hf hname hb args hop hargs h
theorem gO {N : Option Tmp} {K : Act → World → Prop} {f : FuncId} {fn : Func} {as_ : Array Operand} {ts : Array TypeId} (hf : P.funcs[f]? = some fn) (args : Array Value)
    (h : Calls P f args w fun e w' => ∃ v, e = .returned v ∧ K (a.put N v) w')
    (hname : (fn.name == "runtime.NumGoroutine") = false := by kernel_rfl) (hb : fn.body.isSome = true := by rfl) (hw : Region.wanted o (yielded ops a.tmps) = true := by rfl) (hN : o.dst = N := by rfl)
    (hop : o.op = .call { callee := .value (.func f), args := as_, argTypes := ts } := by rfl)
    (hargs : as_.map a.eval = args := by (try simp only [List.map_toArray, List.map_cons, List.map_nil]); first | done | rfl | (simp only [List.length_drop, List.length_take]; rfl)) :
    if Region.wanted o (yielded ops a.tmps) = true then Oper.wp P o a w K Q else K (a.put N undef) w := goes_ hf hname hb args hw hN hop hargs h
theorem gc (f : FuncId) {as_ : Array Operand} {ts : Array TypeId} (_ho : o.op = .call { callee := .value (.func f), args := as_, argTypes := ts }) (h : wpList P ops Q (o :: rest) a w) : wpList P ops Q (o :: rest) a w := h
theorem gs (N : Tmp) (_hN : o.dst = some N) (h : wpList P ops Q (o :: rest) a w) : wpList P ops Q (o :: rest) a w := h
theorem bE (N : Tmp) {cs : Array Value} {t : TypeId}
    (h : ∀ g, g = w.heap.size → ∀ w1, w1.heap[g]? = some (.cells cs t (0, 0)) → Below w.heap.size w w1 → wpList P ops Q rest (a.put o.dst (.pointer (some ⟨g, 0, none⟩))) w1)
    (hd : o.dst = some N := by with_reducible rfl) (hg : o.guard = none := by rfl)
    (hr : (execOp a.eval o).run P w = .ok (.value (.pointer (some ⟨w.heap.size, 0, none⟩))) (w.alloc (.cells cs t (0, 0))) := by first | (go_simp; done) | (go_simp; rfl)) :
    wpList P ops Q (o :: rest) a w := box_event hg hd hr h
variable {md : Region.Mode} {S : World → Prop} {ds : List Nat} {l : Array Bool} {fuel : Nat}
theorem on (i : Nat) (N : Tmp) (h : ∀ K : Act → World → Prop, Shut (∀ a' w', S w' → (S w' → wpAnyLast P md ops Q S ds fuel (l.setIfInBounds i true) a' w') → K a' w') → if Region.wanted o (yielded ops a.tmps) = true then Oper.wp P o a w K Q else K (a.put (some N) undef) w)
    (hi : ops[i]? = some o := by rfl) (hN : o.dst = some N := by rfl) (hc : readyB md ops l (l.setIfInBounds i true) i = true := by kernel_rfl) (hd : i ∉ ds := by decide) :
    wpAnyLast P md ops Q S ds (fuel + 1) l a w := one_ _ hi hN hc hd h
theorem nm (N : Tmp) {a' : Act} {v : Value} (h : wpAnyLast P md ops Q S ds fuel l a' w)
    (ha : a.put (some N) v = a' := by simp only [Act.put, List.setIfInBounds_toArray, List.set_cons_zero, List.set_cons_succ, i64_w, i32_w]; rfl) : wpAnyLast P md ops Q S ds fuel l (a.put (some N) v) w := norm_ ha h
end
theorem bx {w W w1 : World} {g : Nat} {o : Obj} (hg : g = W.heap.size) (hx : w1.heap[g]? = some o) (hb : Below W.heap.size W w1)
    (h : Below w.heap.size w W := by repeat (first | (with_reducible first | exact HB.out | apply below_alloc | apply pw_below_drewN | apply below_drew1) | exact HB.out)) :
    Aside0 (Below w.heap.size w w1) ∧ Aside0 (w1.heap[g]? = some o) ∧ Aside0 (w.heap.size ≤ g) ∧ Aside0 (w.heap.size ≤ g) := ⟨⟨below_step h hb⟩, ⟨hx⟩, ⟨hg ▸ h.size⟩, ⟨hg ▸ h.size⟩⟩
theorem cz1 {w : World} {g : Nat} {t : TypeId} {a : Value} (h : w.heap[g]? = some (.cells #[a] t (0, 0))) : w.cell? ⟨g, 0, none⟩ = some a := blk_cell h 0
theorem cz2 {w : World} {g : Nat} {t : TypeId} {a b : Value} (h : w.heap[g]? = some (.cells #[a, b] t (0, 0))) : w.cell? ⟨g, 0, none⟩ = some a ∧ w.cell? ⟨g, 1, none⟩ = some b := ⟨blk_cell h 0, blk_cell h 1⟩
theorem cz6 {w : World} {g : Nat} {t : TypeId} {a b c d e f : Value} (h : w.heap[g]? = some (.cells #[a, b, c, d, e, f] t (0, 0))) :
    w.cell? ⟨g, 0, none⟩ = some a ∧ w.cell? ⟨g, 1, none⟩ = some b ∧ w.cell? ⟨g, 2, none⟩ = some c ∧ w.cell? ⟨g, 3, none⟩ = some d ∧ w.cell? ⟨g, 4, none⟩ = some e ∧ w.cell? ⟨g, 5, none⟩ = some f := ⟨blk_cell h 0, blk_cell h 1, blk_cell h 2, blk_cell h 3, blk_cell h 4, blk_cell h 5⟩
theorem cf1 {w : World} {g : Nat} {t : TypeId} {a : Value} (h : w.heap[g]? = some (.cells #[a] t (0, 0))) : w.cell? ⟨g, 0, none⟩ = some a ∧ w.frozen? ⟨g, 0, none⟩ = false := ⟨blk_cell h 0, blk_frozen h 0⟩
theorem cf2 {w : World} {g : Nat} {t : TypeId} {a b : Value} (h : w.heap[g]? = some (.cells #[a, b] t (0, 0))) : w.cell? ⟨g, 0, none⟩ = some a ∧ w.cell? ⟨g, 1, none⟩ = some b ∧ w.frozen? ⟨g, 0, none⟩ = false ∧ w.frozen? ⟨g, 1, none⟩ = false := ⟨blk_cell h 0, blk_cell h 1, blk_frozen h 0, blk_frozen h 1⟩
theorem cf6 {w : World} {g : Nat} {t : TypeId} {a b c d e f : Value} (h : w.heap[g]? = some (.cells #[a, b, c, d, e, f] t (0, 0))) :
    w.cell? ⟨g, 0, none⟩ = some a ∧ w.cell? ⟨g, 1, none⟩ = some b ∧ w.cell? ⟨g, 2, none⟩ = some c ∧ w.cell? ⟨g, 3, none⟩ = some d ∧ w.cell? ⟨g, 4, none⟩ = some e ∧ w.cell? ⟨g, 5, none⟩ = some f ∧
    w.frozen? ⟨g, 0, none⟩ = false ∧ w.frozen? ⟨g, 1, none⟩ = false ∧ w.frozen? ⟨g, 2, none⟩ = false ∧ w.frozen? ⟨g, 3, none⟩ = false ∧ w.frozen? ⟨g, 4, none⟩ = false ∧ w.frozen? ⟨g, 5, none⟩ = false :=
  ⟨blk_cell h 0, blk_cell h 1, blk_cell h 2, blk_cell h 3, blk_cell h 4, blk_cell h 5, blk_frozen h 0, blk_frozen h 1, blk_frozen h 2, blk_frozen h 3, blk_frozen h 4, blk_frozen h 5⟩
theorem t6 {w W : World} (hb : Below w.heap.size w W) {A : Option Addr} {n : Nat} {xs : List S34} (h : Kd.C k34 w A n xs) (i : Int) (h0 : 0 ≤ i) (h1 : i < n) :
    ∃ ad, A = some ad ∧ W.cell? (ad.add (i.toNat * 6)) = some (.int .i64 (rd_T34 xs i).f0) ∧ W.cell? ⟨(ad.add (i.toNat * 6)).block, (ad.add (i.toNat * 6)).off + 1, none⟩ = some (.int .i64 (rd_T34 xs i).f1) ∧ W.cell? ⟨(ad.add (i.toNat * 6)).block, (ad.add (i.toNat * 6)).off + 2, none⟩ = some (.int .i64 (rd_T34 xs i).f2) ∧
    W.cell? ⟨(ad.add (i.toNat * 6)).block, (ad.add (i.toNat * 6)).off + 3, none⟩ = some (.int .i64 (rd_T34 xs i).f3) ∧ W.cell? ⟨(ad.add (i.toNat * 6)).block, (ad.add (i.toNat * 6)).off + 4, none⟩ = some (.int .i64 (rd_T34 xs i).f4) ∧ W.cell? ⟨(ad.add (i.toNat * 6)).block, (ad.add (i.toNat * 6)).off + 5, none⟩ = some (.int .i64 (rd_T34 xs i).f5) :=
  at_T34 (Kd.C_below h hb) i h0 h1
theorem bo {α β : Type} {x : Option α} {f : α → Option β} {b : β} (h : x.bind f = some b) : ∃ a, Aside0 (x = some a) ∧ f a = some b := by
  obtain ⟨a, h1, h2⟩ := Option.bind_eq_some_iff.mp h
  exact ⟨a, ⟨h1⟩, h2⟩
theorem vc11 {w : World} {g : Nat} {t : TypeId} {a b c d e f a1 b1 c1 d1 e1 : Value} (h : w.heap[g]? = some (.cells #[a, b, c, d, e, f, a1, b1, c1, d1, e1] t (0, 0))) :
    w.cell? ⟨g, 0, none⟩ = some a ∧ w.cell? ⟨g, 1, none⟩ = some b ∧ w.cell? ⟨g, 2, none⟩ = some c ∧ w.cell? ⟨g, 3, none⟩ = some d ∧ w.cell? ⟨g, 4, none⟩ = some e ∧ w.cell? ⟨g, 5, none⟩ = some f ∧
    w.cell? ⟨g, 6, none⟩ = some a1 ∧ w.cell? ⟨g, 7, none⟩ = some b1 ∧ w.cell? ⟨g, 8, none⟩ = some c1 ∧ w.cell? ⟨g, 9, none⟩ = some d1 ∧ w.cell? ⟨g, 10, none⟩ = some e1 :=
  ⟨blk_cell h 0, blk_cell h 1, blk_cell h 2, blk_cell h 3, blk_cell h 4, blk_cell h 5, blk_cell h 6, blk_cell h 7, blk_cell h 8, blk_cell h 9, blk_cell h 10⟩
section
variable {P : Program} {ops : Array Oper} {Q : Exit → Act → World → Prop} {o : Oper} {a : Act} {w : World} {S : World → Prop}
theorem sT (n : Nat) (ds : List Nat) {id : Nat} (hS : S w.drew) (h : S w.drew → wpAnyLast P .any ops Q S ds n (Array.replicate n false) a w.drew)
    (hm : P.follows .mixedOrders = true := by kernel_rfl) (hn : ops.size = n := by rfl) : (Code.region id ops true).wp P Q a w := start_ _ hm hn rfl hS h
variable {md : Region.Mode} {ds : List Nat} {l : Array Bool} {fuel : Nat} {T : Bool × List (List Nat × List Nat)} {B : List Nat}
theorem puT (hT : rtab md ops = T) (i : Nat) (N : Tmp) {v : Value} {a' : Act} (h : wpAnyLast P md ops Q S ds fuel (l.setIfInBounds i true) a' w)
    (hi : ops[i]? = some o := by rfl) (hN : o.dst = some N := by rfl) (hc : anyT T l.toList (l.setIfInBounds i true).toList i = true := by kernel_rfl)
    (hw : Region.wanted o (yielded ops a.tmps) = true := by rfl) (hy : ∀ w', (execOp a.eval o).run P w' = .ok (.value v) w' := by intro w'; go_simp; with_reducible rfl)
    (hQ : ∀ c a w, Q (.panic c) (a.put o.dst v) w → Q (.panic c) a w := by exact fun _ _ _ h => h)
    (ha : a.put (some N) v = a' := by simp only [Act.put, List.setIfInBounds_toArray, List.set_cons_zero, List.set_cons_succ, i64_w, i32_w]; rfl) :
    wpAnyLast P md ops Q S ds (fuel + 1) l a w := pure_ _ hi hN (any_of hT hc) hQ (Or.inl ⟨hw, hy⟩) ha h
theorem taT (hT : rtab md ops = T) (hB : waitsOk T.2 B = true) (i : Nat) (N : Tmp) {v : Value} {a' : Act} (hS : S w) (h : wpAnyLast P md ops Q S ds fuel (l.setIfInBounds i true) a' w)
    (hi : ops[i]? = some o := by rfl) (hN : o.dst = some N := by rfl) (hc : takeW T B ds l.toList (l.setIfInBounds i true).toList i = true := by kernel_rfl)
    (hw : Region.wanted o (yielded ops a.tmps) = true := by rfl) (hy : ∀ w', S w' → (execOp a.eval o).run P w' = .ok (.value v) w' := by intro w' hs; (try dsimp only at hs); go_simp; with_reducible rfl)
    (hQ : ∀ c a w, Q (.panic c) (a.put o.dst v) w → Q (.panic c) a w := by exact fun _ _ _ h => h)
    (ha : a.put (some N) v = a' := by simp only [Act.put, List.setIfInBounds_toArray, List.set_cons_zero, List.set_cons_succ, i64_w, i32_w]; rfl) :
    wpAnyLast P md ops Q S ds (fuel + 1) l a w := take_ _ hi hN (take_ofW hT hB hc) hQ (Or.inl ⟨hw, hy⟩) hS ha h
theorem onT (hT : rtab md ops = T) (i : Nat) (N : Tmp) (h : ∀ K : Act → World → Prop, Shut (∀ a' w', S w' → (S w' → wpAnyLast P md ops Q S ds fuel (l.setIfInBounds i true) a' w') → K a' w') → if Region.wanted o (yielded ops a.tmps) = true then Oper.wp P o a w K Q else K (a.put (some N) undef) w)
    (hi : ops[i]? = some o := by rfl) (hN : o.dst = some N := by rfl) (hc : (readyT T.2 l.toList == [i] && l.toList.set i true == (l.setIfInBounds i true).toList) = true := by kernel_rfl) (hd : i ∉ ds := by decide) :
    wpAnyLast P md ops Q S ds (fuel + 1) l a w := one_ _ hi hN (one_of hT hc) hd h
end
theorem gd {c : Prop} [Decidable c] {α : Type} {x : Option α} {b : α} (h : (if c then x else none) = some b) : c ∧ x = some b := by
  by_cases q : c
  · rw [if_pos q] at h
    exact ⟨q, h⟩
  · rw [if_neg q] at h
    cases h
theorem eq2 {α : Type} [BEq α] [LawfulBEq α] {a b : α} (h : a = b) : (a == b) = true ∧ (a != b) = false := ⟨beq_iff_eq.mpr h, bne_eq_false_iff_eq.mpr h⟩
theorem ne2 {α : Type} [BEq α] [LawfulBEq α] {a b : α} (h : ¬ a = b) : (a == b) = false ∧ (a != b) = true := ⟨beq_eq_false_iff_ne.mpr h, bne_iff_ne.mpr h⟩
theorem bp6 {W : World} {g : Nat} {t : TypeId} {c0 c1 c2 c3 c4 c5 v0 v1 v2 v3 v4 v5 : Value} (h : W.heap[g]? = some (.cells #[c0, c1, c2, c3, c4, c5] t (0, 0))) :
    ((((((W.setCell ⟨g, 0, none⟩ v0).setCell ⟨g, 1, none⟩ v1).setCell ⟨g, 2, none⟩ v2).setCell ⟨g, 3, none⟩ v3).setCell ⟨g, 4, none⟩ v4).setCell ⟨g, 5, none⟩ v5).heap[g]? = some (.cells #[v0, v1, v2, v3, v4, v5] t (0, 0)) :=
  blk_put (blk_put (blk_put (blk_put (blk_put (blk_put h 0 _ rfl) 1 _ rfl) 2 _ rfl) 3 _ rfl) 4 _ rfl) 5 _ rfl
theorem bp2 {W : World} {g : Nat} {t : TypeId} {c0 c1 v0 v1 : Value} (h : W.heap[g]? = some (.cells #[c0, c1] t (0, 0))) :
    ((W.setCell ⟨g, 0, none⟩ v0).setCell ⟨g, 1, none⟩ v1).heap[g]? = some (.cells #[v0, v1] t (0, 0)) := blk_put (blk_put h 0 _ rfl) 1 _ rfl
abbrev RB (w : World) (v : Value) (e : Ending) (w' : World) : Prop := e = .returned v ∧ Below w.heap.size w w'
theorem t6d {w W : World} (hb : Below w.heap.size w W) {A : Option Addr} {n : Nat} {xs : List S34} (h : Kd.C k34 w A n xs) (i : Int) (h0 : decide (0 ≤ i) = true := by first | (with_reducible assumption) | assumption) (h1 : decide (i < n) = true := by first | (with_reducible assumption) | assumption) :
    ∃ ad, A = some ad ∧ W.cell? (ad.add (i.toNat * 6)) = some (.int .i64 (rd_T34 xs i).f0) ∧ W.cell? ⟨(ad.add (i.toNat * 6)).block, (ad.add (i.toNat * 6)).off + 1, none⟩ = some (.int .i64 (rd_T34 xs i).f1) ∧ W.cell? ⟨(ad.add (i.toNat * 6)).block, (ad.add (i.toNat * 6)).off + 2, none⟩ = some (.int .i64 (rd_T34 xs i).f2) ∧
    W.cell? ⟨(ad.add (i.toNat * 6)).block, (ad.add (i.toNat * 6)).off + 3, none⟩ = some (.int .i64 (rd_T34 xs i).f3) ∧ W.cell? ⟨(ad.add (i.toNat * 6)).block, (ad.add (i.toNat * 6)).off + 4, none⟩ = some (.int .i64 (rd_T34 xs i).f4) ∧ W.cell? ⟨(ad.add (i.toNat * 6)).block, (ad.add (i.toNat * 6)).off + 5, none⟩ = some (.int .i64 (rd_T34 xs i).f5) ∧
    (0 ≤ i) = True ∧ (i < (n : Int)) = True := by
  obtain ⟨ad, e, x0, x1, x2, x3, x4, x5⟩ := t6 hb h i (of_decide_eq_true h0) (of_decide_eq_true h1)
  exact ⟨ad, e, x0, x1, x2, x3, x4, x5, eq_true (of_decide_eq_true h0), eq_true (of_decide_eq_true h1)⟩
section
variable {P : Program} {ops : Array Oper} {Q : Exit → Act → World → Prop} {o : Oper} {a : Act} {w : World} {S : World → Prop} {md : Region.Mode} {ds : List Nat} {l : Array Bool} {fuel : Nat}
theorem tb (i : Nat) (N : Tmp) {b : Nat} {cs : Array Value} {t : TypeId} {v : Value} {a' : Act} (hS : S w) (hB : ∀ w', S w' → w'.heap[b]? = some (.cells cs t (0, 0))) (h : wpAnyLast P md ops Q S ds fuel (l.setIfInBounds i true) a' w)
    (hi : ops[i]? = some o := by rfl) (hN : o.dst = some N := by rfl) (hc : takeB md ops ds l (l.setIfInBounds i true) i = true := by kernel_rfl)
    (hw : Region.wanted o (yielded ops a.tmps) = true := by rfl)
    (hy : ∀ w', w'.heap[b]? = some (.cells cs t (0, 0)) → (execOp a.eval o).run P w' = .ok (.value v) w' := by intro w' hs; obtain ⟨y0, y1, y2, y3, y4, y5, y6, y7, y8⟩ := rd9 hs; go_simp; with_reducible rfl)
    (hQ : ∀ c a w, Q (.panic c) (a.put o.dst v) w → Q (.panic c) a w := by exact fun _ _ _ h => h)
    (ha : a.put (some N) v = a' := by simp only [Act.put, List.setIfInBounds_toArray, List.set_cons_zero, List.set_cons_succ, i64_w, i32_w]; rfl) :
    wpAnyLast P md ops Q S ds (fuel + 1) l a w := take_ _ hi hN hc hQ (Or.inl ⟨hw, fun w' hs => hy w' (hB w' hs)⟩) hS ha h
theorem sG (n : Nat) {id : Nat} {w0 : World} (hS : Below w0.heap.size w0 w.drew) (h : ∀ w1, Below w0.heap.size w0 w1 → wpAnyLast P .any ops Q (fun W' => Below w0.heap.size w0 W') [] n (Array.replicate n false) a w1)
    (hm : P.follows .mixedOrders = true := by kernel_rfl) (hn : ops.size = n := by rfl) : (Code.region id ops true).wp P Q a w := start_ _ hm hn rfl hS (fun _ => h _ hS)
end
theorem nf : ¬ (false = true) := by decide
theorem no2 {c : Prop} [Decidable c] {α : Type} {x : Option α} {b : α} {q : Prop} (h : ¬ c) (H : (if c then x else none) = some b) : q := by
  rw [if_neg h] at H
  cases H
end
section
attribute [local go_sem] max2_int min2_int max_two min_two max_three min_three max_four min_four
theorem eqA34 (d : Nat) (w : World) (x0 y0 : Int) (x1 y1 : Int) (x2 y2 : Int) (x3 y3 : Int) (x4 y4 : Int) (x5 y5 : Int) :
  (Op.equalIn (d + 2) 50 (.agg #[.int .i64 x0, .int .i64 x1, .int .i64 x2, .int .i64 x3, .int .i64 x4, .int .i64 x5]) (.agg #[.int .i64 y0, .int .i64 y1, .int .i64 y2, .int .i64 y3, .int .i64 y4, .int .i64 y5])).run Tryd.prog w = .ok (x0 == y0 && (x1 == y1 && (x2 == y2 && (x3 == y3 && (x4 == y4 && (x5 == y5)))))) w := by
 refine eqA_of Tryd.underlying50 (by kernel_rfl) ?_
 refine eqf_cons (by rfl) (by go_simp; rfl) (by go_simp; rfl) (by go_simp) ?_
 refine eqf_cons (by rfl) (by go_simp; rfl) (by go_simp; rfl) (by go_simp) ?_
 refine eqf_cons (by rfl) (by go_simp; rfl) (by go_simp; rfl) (by go_simp) ?_
 refine eqf_cons (by rfl) (by go_simp; rfl) (by go_simp; rfl) (by go_simp) ?_
 refine eqf_cons (by rfl) (by go_simp; rfl) (by go_simp; rfl) (by go_simp) ?_
 exact eqf_last (by rfl) (by go_simp; rfl) (by go_simp; rfl) (by go_simp)
end
section
attribute [local go_sem] max2_int min2_int max_two min_two max_three min_three max_four min_four
attribute [local go_sem high] eqA34
def larchref18_SameTable.l0 : Nat → List (S34) → List (S34) → Int → Option (Bool)
 | 0, _, _, _ => none
 | k + 1, x0, x1, x5 => if x5 < (x0.length : Int) then (if 0 ≤ x5 then (if x5 < (x1.length : Int) then (if (!(((rd_T34 x0 x5).f0) == ((rd_T34 x1 x5).f0)) || (!(((rd_T34 x0 x5).f1) == ((rd_T34 x1 x5).f1)) || (!(((rd_T34 x0 x5).f2) == ((rd_T34 x1 x5).f2)) || (!(((rd_T34 x0 x5).f3) == ((rd_T34 x1 x5).f3)) || (!(((rd_T34 x0 x5).f4) == ((rd_T34 x1 x5).f4)) || (!(((rd_T34 x0 x5).f5) == ((rd_T34 x1 x5).f5)))))))) = true then (some false) else (larchref18_SameTable.l0 k x0 x1 (wrap64 (x5 + 1)))) else (none)) else (none)) else (some true)
def larchref18_SameTable.f (k : Nat) (l0 : List (S34)) (l1 : List (S34)) : Option (Bool) := if (l0.length : Int) = (l1.length : Int) then (larchref18_SameTable.l0 k l0 l1 0) else (some false)
theorem larchref18_SameTable.calls (k : Nat) (A0 : Option Addr) (c0 : Nat) (l0 : List (S34)) (A1 : Option Addr) (c1 : Nat) (l1 : List (S34)) (r : Bool) (w : World) (hr0 : Kd.C k34 w A0 l0.length l0) (hc0 : l0.length ≤ c0) (hr1 : Kd.C k34 w A1 l1.length l1) (hc1 : l1.length ≤ c1) (h : larchref18_SameTable.f k l0 l1 = some r) :
  Calls Tryd.prog 17 #[.slice A0 l0.length c0, .slice A1 l1.length c1] w fun e w' => e = .returned (.bool r) ∧ Drawn0 w w' := by
 have hu34 := Tryd.underlying50
 have HR0 := Am hr0
 have HC0 := Am hc0
 clear hr0 hc0
 have HR1 := Am hr1
 have HC1 := Am hc1
 clear hr1 hc1
 have H : (if (l0.length : Int) = (l1.length : Int) then (larchref18_SameTable.l0 k l0 l1 0) else (some false)) = some r := h
 clear h
 by_cases c3 : (l0.length : Int) = (l1.length : Int)
 ·rw [if_pos c3] at H
  obtain ⟨c3b0, c3b1⟩ := eq2 c3
  have c3b2 : (l0.length == l1.length) = true := by first | simpa using c3 | (simp at c3 ⊢; omega)
  clear c3
  have H' := Am H
  clear H
  go_enter Tryd.func17, Tryd.ntmps17
  go_wp2
  repeat (go_quiet (fail); try go_wp2)
  go_loopg [5] k (fun kq v5 w' => ∃ (x5_1 : Int), v5 = .int .i64 x5_1 ∧ Aside0 (larchref18_SameTable.l0 kq l0 l1 x5_1 = some r) ∧ Aside0 (kq ≤ k) ∧ Drawn0 w w')
  case atStart => exact ⟨(0), (by first | rfl | (simp; done) | (simp [*]; done)), H', ⟨Nat.le_refl _⟩, by repeat (first | exact Drawn0.refl _ | apply Drawn0.step)⟩
  case round =>
   clear H'
   clear c3b0 c3b1 c3b2
   try clear c1
   try clear c2
   try clear p2
   obtain ⟨x5_1, rfl, HA, HK1, ⟨m1, rfl⟩⟩ := hrel
   cases gk with
   | zero => exact absurd HA.out (by simp [larchref18_SameTable.l0])
   | succ k1 =>
    have H := HA.out
    clear HA
    simp only [larchref18_SameTable.l0] at H
    by_cases c4 : x5_1 < (l0.length : Int)
    ·rw [if_pos c4] at H
     have c4b0 := decide_eq_true c4
     clear c4
     obtain ⟨c5, H⟩ := gd H
     have c5b0 := decide_eq_true c5
     clear c5
     obtain ⟨c6, H⟩ := gd H
     have c6b0 := decide_eq_true c6
     clear c6
     by_cases c7 : (!(((rd_T34 l0 x5_1).f0) == ((rd_T34 l1 x5_1).f0)) || (!(((rd_T34 l0 x5_1).f1) == ((rd_T34 l1 x5_1).f1)) || (!(((rd_T34 l0 x5_1).f2) == ((rd_T34 l1 x5_1).f2)) || (!(((rd_T34 l0 x5_1).f3) == ((rd_T34 l1 x5_1).f3)) || (!(((rd_T34 l0 x5_1).f4) == ((rd_T34 l1 x5_1).f4)) || (!(((rd_T34 l0 x5_1).f5) == ((rd_T34 l1 x5_1).f5)))))))) = true
     ·rw [if_pos c7] at H
      have c7b0 : (!(((rd_T34 l0 x5_1).f0) == ((rd_T34 l1 x5_1).f0)) || (!(((rd_T34 l0 x5_1).f1) == ((rd_T34 l1 x5_1).f1)) || (!(((rd_T34 l0 x5_1).f2) == ((rd_T34 l1 x5_1).f2)) || (!(((rd_T34 l0 x5_1).f3) == ((rd_T34 l1 x5_1).f3)) || (!(((rd_T34 l0 x5_1).f4) == ((rd_T34 l1 x5_1).f4)) || (!(((rd_T34 l0 x5_1).f5) == ((rd_T34 l1 x5_1).f5)))))))) = true := c7
      clear c7
      obtain rfl := Option.some.inj H
      have p101 : 0 ≤ (x5_1 : Int) := da
      have q101 : x5_1 < (l0.length : Int) := da
      obtain ⟨ad101, e101, hx101_0, hx101_1, hx101_2, hx101_3, hx101_4, hx101_5⟩ := at_T34 HR0.out x5_1 p101 q101
      cases e101
      replace p101 := eq_true p101
      replace q101 := eq_true q101
      have p102 : 0 ≤ (x5_1 : Int) := da
      have q102 : x5_1 < (l1.length : Int) := da
      obtain ⟨ad102, e102, hx102_0, hx102_1, hx102_2, hx102_3, hx102_4, hx102_5⟩ := at_T34 HR1.out x5_1 p102 q102
      cases e102
      replace p102 := eq_true p102
      replace q102 := eq_true q102
      go_wp2
      repeat (go_quiet (fail); try go_wp2)
      go_ret
      exact ⟨by first | rfl | (simp; done) | (simp [*]; done), by repeat (first | exact Drawn0.refl _ | apply Drawn0.step)⟩
     ·rw [if_neg c7] at H
      have c7b0 : (!(((rd_T34 l0 x5_1).f0) == ((rd_T34 l1 x5_1).f0)) || (!(((rd_T34 l0 x5_1).f1) == ((rd_T34 l1 x5_1).f1)) || (!(((rd_T34 l0 x5_1).f2) == ((rd_T34 l1 x5_1).f2)) || (!(((rd_T34 l0 x5_1).f3) == ((rd_T34 l1 x5_1).f3)) || (!(((rd_T34 l0 x5_1).f4) == ((rd_T34 l1 x5_1).f4)) || (!(((rd_T34 l0 x5_1).f5) == ((rd_T34 l1 x5_1).f5)))))))) = false := by simpa using c7
      clear c7
      have H' := Am H
      clear H
      have p101 : 0 ≤ (x5_1 : Int) := da
      have q101 : x5_1 < (l0.length : Int) := da
      obtain ⟨ad101, e101, hx101_0, hx101_1, hx101_2, hx101_3, hx101_4, hx101_5⟩ := at_T34 HR0.out x5_1 p101 q101
      cases e101
      replace p101 := eq_true p101
      replace q101 := eq_true q101
      have p102 : 0 ≤ (x5_1 : Int) := da
      have q102 : x5_1 < (l1.length : Int) := da
      obtain ⟨ad102, e102, hx102_0, hx102_1, hx102_2, hx102_3, hx102_4, hx102_5⟩ := at_T34 HR1.out x5_1 p102 q102
      cases e102
      replace p102 := eq_true p102
      replace q102 := eq_true q102
      go_wp2
      repeat (go_quiet (fail); try go_wp2)
      go_roundg k1
      case measure => have := HK1.out; omega
      case rel => exact ⟨(wrap64 (x5_1 + 1)), (by first | rfl | (simp; done) | (simp [*]; done)), H', ⟨by have := HK1.out; omega⟩, by repeat (first | exact Drawn0.refl _ | apply Drawn0.step)⟩
    ·rw [if_neg c4] at H
     have c4b0 := decide_eq_false c4
     clear c4
     obtain rfl := Option.some.inj H
     go_wp2
     repeat (go_quiet (fail); try go_wp2)
     go_ret
     exact ⟨by first | rfl | (simp; done) | (simp [*]; done), by repeat (first | exact Drawn0.refl _ | apply Drawn0.step)⟩
 ·rw [if_neg c3] at H
  obtain ⟨c3b0, c3b1⟩ := ne2 c3
  have c3b2 : (l0.length == l1.length) = false := by first | simpa using c3 | (simp at c3 ⊢; omega)
  obtain rfl := Option.some.inj H
  go_enter Tryd.func17, Tryd.ntmps17
  go_wp2
  repeat (go_quiet (fail); try go_wp2)
  go_ret
  exact ⟨by first | rfl | (simp; done) | (simp [*]; done), by repeat (first | exact Drawn0.refl _ | apply Drawn0.step)⟩
def table_isLeaf.f (a0_0 : Int) (a0_1 : Int) (a0_2 : Int) (a0_3 : Int) (a0_4 : Int) (a0_5 : Int) : Option (Bool) := if a0_4 = (-1) then (some (a0_5 == (-1))) else (some false)
theorem table_isLeaf.calls (a0_0 : Int) (a0_1 : Int) (a0_2 : Int) (a0_3 : Int) (a0_4 : Int) (a0_5 : Int) (r : Bool) (w : World) (h : table_isLeaf.f a0_0 a0_1 a0_2 a0_3 a0_4 a0_5 = some r) :
  Calls Tryd.prog 52 #[.agg #[.int .i64 a0_0, .int .i64 a0_1, .int .i64 a0_2, .int .i64 a0_3, .int .i64 a0_4, .int .i64 a0_5]] w (RB w (.bool r)) := by
 have hu34 := Tryd.underlying50
 have HB := Am (Below.refl w.heap.size w)
 have H : (if a0_4 = (-1) then (some (a0_5 == (-1))) else (some false)) = some r := h
 clear h
 by_cases c2 : a0_4 = (-1)
 ·rw [if_pos c2] at H
  obtain ⟨c2b0, c2b1⟩ := eq2 c2
  clear c2
  obtain rfl := Option.some.inj H
  go_enter Tryd.func52, Tryd.ntmps52
  go_wp2_with (first | ((with_reducible refine gs 1 rfl ?_); refine bE 1 (cs := #[.int .i64 a0_0, .int .i64 a0_1, .int .i64 a0_2, .int .i64 a0_3, .int .i64 a0_4, .int .i64 a0_5]) (t := 50) ?_; intro gb103 hg w3 hbox hb; obtain ⟨n0_, BK103, GW103, GE103⟩ := bx hg hbox hb; clear HB; have HB := n0_; clear n0_ hb hbox hg; obtain ⟨z4_0, z4_1, z4_2, z4_3, z4_4, z4_5, f4_0, f4_1, f4_2, f4_3, f4_4, f4_5⟩ := cf6 BK103.out))
  go_ret
  exact ⟨er, bs⟩
 ·rw [if_neg c2] at H
  obtain ⟨c2b0, c2b1⟩ := ne2 c2
  obtain rfl := Option.some.inj H
  go_enter Tryd.func52, Tryd.ntmps52
  go_wp2_with (first | ((with_reducible refine gs 1 rfl ?_); refine bE 1 (cs := #[.int .i64 a0_0, .int .i64 a0_1, .int .i64 a0_2, .int .i64 a0_3, .int .i64 a0_4, .int .i64 a0_5]) (t := 50) ?_; intro gb103 hg w5 hbox hb; obtain ⟨n0_, BK103, GW103, GE103⟩ := bx hg hbox hb; clear HB; have HB := n0_; clear n0_ hb hbox hg; obtain ⟨z6_0, z6_1, z6_2, z6_3, z6_4, z6_5, f6_0, f6_1, f6_2, f6_3, f6_4, f6_5⟩ := cf6 BK103.out))
  go_ret
  exact ⟨er, bs⟩
def table_order.l0 : Nat → List (S34) → List Bool → List Int → List Int → Option (List Int)
 | 0, _, _, _, _ => none
 | k + 1, x0, x5, x6, x7 => if (x7.length : Int) > 0 then (if 0 ≤ (wrap64 ((x7.length : Int) - 1)) then (if (wrap64 ((x7.length : Int) - 1)) < (x7.length : Int) then (if (wrap64 ((x7.length : Int) - 1)) ≤ (x7.length : Int) then ((some (x7.take ((wrap64 ((x7.length : Int) - 1)) : Int).toNat : List Int)).bind fun y111 => (if 0 ≤ (rd x7 (wrap64 ((x7.length : Int) - 1))) then (if (rd x7 (wrap64 ((x7.length : Int) - 1))) < (x5.length : Int) then (if rdOf false x5 (rd x7 (wrap64 ((x7.length : Int) - 1))) = true then (some ([] : List Int)) else ((some (x5.set ((rd x7 (wrap64 ((x7.length : Int) - 1))) : Int).toNat true : List Bool)).bind fun y115 => (if x6.length < 17592186044416 then ((some (x6 ++ [rd x7 (wrap64 ((x7.length : Int) - 1))] : List Int)).bind fun y116 => (if (rd x7 (wrap64 ((x7.length : Int) - 1))) < (x0.length : Int) then ((table_isLeaf.f ((rd_T34 x0 (rd x7 (wrap64 ((x7.length : Int) - 1)))).f0) ((rd_T34 x0 (rd x7 (wrap64 ((x7.length : Int) - 1)))).f1) ((rd_T34 x0 (rd x7 (wrap64 ((x7.length : Int) - 1)))).f2) ((rd_T34 x0 (rd x7 (wrap64 ((x7.length : Int) - 1)))).f3) ((rd_T34 x0 (rd x7 (wrap64 ((x7.length : Int) - 1)))).f4) ((rd_T34 x0 (rd x7 (wrap64 ((x7.length : Int) - 1)))).f5)).bind fun t120 => (if t120 = true then (table_order.l0 k x0 y115 y116 y111) else ((some (([(rd_T34 x0 (rd x7 (wrap64 ((x7.length : Int) - 1)))).f5, (rd_T34 x0 (rd x7 (wrap64 ((x7.length : Int) - 1)))).f4] : List Int) : List Int)).bind fun y123 => (if y111.length + y123.length < 17592186044416 then (table_order.l0 k x0 y115 y116 (y111 ++ y123)) else (none))))) else (none))) else (none)))) else (none)) else (none))) else (none)) else (none)) else (none)) else (some x6)
def table_order.f (k : Nat) (l0 : List (S34)) (a1 : Int) : Option (List Int) := if 0 ≤ (l0.length : Int) then (if ((l0.length : Int) : Int).toNat ≤ 281474976710656 then (table_order.l0 k l0 (List.replicate ((l0.length : Int) : Int).toNat false) ([] : List Int) (([a1] : List Int))) else (none)) else (none)
def table_order.T12 : Bool × List (List Nat × List Nat) := (true, [([], []), ([], []), ([], []), ([1, 2], [1, 2]), ([3], [3]), ([4], [4]), ([], []), ([], []), ([6, 7], [6, 7]), ([8], [8]), ([9], [9]), ([5, 10], [5, 10]), ([0, 11], [0, 11]), ([12, 12, 0, 1, 2, 3, 4, 5, 6, 7, 8, 9, 10, 11, 12], [0, 12])])
def table_order.B12 : List Nat := [0, 0, 0, 6, 14, 30, 0, 0, 192, 448, 960, 2046, 4095, 8191]
theorem table_order.tab12 : rtab .any (opsOf Tryd.f50 12) = table_order.T12 := by kernel_rfl
theorem table_order.bits12 : waitsOk table_order.T12.2 table_order.B12 = true := by kernel_rfl
theorem table_order.calls (k : Nat) (A0 : Option Addr) (c0 : Nat) (l0 : List (S34)) (a1 : Int) (r : List Int) (w : World) (hr0 : Kd.C k34 w A0 l0.length l0) (hc0 : l0.length ≤ c0) (h : table_order.f k l0 a1 = some r) :
  Calls Tryd.prog 50 #[.slice A0 l0.length c0, .int .i64 a1] w fun e w' => ∃ v0_ : Value, e = .returned (v0_) ∧ Kd.R (Kd.int .i64) 3 w' w.heap.size (fun _ => True) v0_ r ∧ Below w.heap.size w w' := by
 have hu34 := Tryd.underlying50
 have HR0 := Am hr0
 have HC0 := Am hc0
 clear hr0 hc0
 have HB := Am (Below.refl w.heap.size w)
 have H : (if 0 ≤ (l0.length : Int) then (if ((l0.length : Int) : Int).toNat ≤ 281474976710656 then (table_order.l0 k l0 (List.replicate ((l0.length : Int) : Int).toNat false) ([] : List Int) (([a1] : List Int))) else (none)) else (none)) = some r := h
 clear h
 obtain ⟨c3, H⟩ := gd H
 have c3b0 := eq_true c3
 have c3b1 := decide_eq_true c3
 clear c3
 obtain ⟨c4, H⟩ := gd H
 have c4b0 := eq_true c4
 have c4b1 := decide_eq_true c4
 clear c4
 obtain ⟨y104, hy104⟩ : ∃ y_ : List Bool, y_ = (List.replicate ((l0.length : Int) : Int).toNat false) := ⟨_, rfl⟩
 replace H : (table_order.l0 k l0 y104 ([] : List Int) (([a1] : List Int))) = some r := by first | (rw [hy104]; with_reducible exact H) | (have H2_ := (Option.bind_some _ _).symm.trans H; rw [hy104]; with_reducible exact H2_) | (have H2_ := (Option.bind_some _ _).symm.trans H; with_reducible exact H2_) | with_reducible exact H | (rw [hy104]; exact H) | exact H
 have Ny104 := Am hy104
 clear hy104
 obtain ⟨y107, hy107⟩ : ∃ y_ : List Int, y_ = (([a1] : List Int)) := ⟨_, rfl⟩
 replace H : (table_order.l0 k l0 y104 ([] : List Int) y107) = some r := by first | (rw [hy107]; with_reducible exact H) | (have H2_ := (Option.bind_some _ _).symm.trans H; rw [hy107]; with_reducible exact H2_) | (have H2_ := (Option.bind_some _ _).symm.trans H; with_reducible exact H2_) | with_reducible exact H | (rw [hy107]; exact H) | exact H
 have Ny107 := Am hy107
 clear hy107
 have H' := Am H
 clear H
 go_enter Tryd.func50, Tryd.ntmps50
 go_wp2_with (first | ((with_reducible refine gs 11 rfl ?_); refine Kd.R_make Kd.bool _ 4 rfl (N := 11) rfl 71 _ _ rfl (l0.length : Int) rfl rfl Tryd.underlying71 (.bool false) 1 info4 rfl (by decide) (by omega) false (ok := fun _ => True) (okp := fun _ => True) rfl (fun _ hk => hk) trivial (da) (Nat.le_trans (Nat.mul_le_mul_right _ (da : (l0.length : Int).toNat ≤ 281474976710656)) (by omega)) (Below.refl _ _) (Nat.le_refl _) ?_; intro v105 w5 ho6 hb hg_ hnew_; clear hg_ hnew_; (first | rw [← Ny104.out] at ho6 | (simp only [Int.reduceToNat] at ho6; rw [← Ny104.out] at ho6)); replace HO106 := Am (Kd.R_lower ho6 (below_size bq)); replace HB := Am (below_step bq hb); clear hb ho6) | ((with_reducible refine gs 13 rfl ?_); refine Kd.R_lit (Kd.int .i64) _ 3 ?hg (N := 13) ?hd (xs := ([a1] : List Int)) (inner := [.int .i64 a1]) (ok := fun _ => True) (okp := fun _ => True) ?hr ?hp (fun _ hk => hk) trivial (Below.refl _ _) (Nat.le_refl _) (by simp) ?_; (case hd => rfl); (case hg => rfl); (case hr => first | (go_simp; done) | (go_simp; rfl)); (case hp => exact (Reps.one (show Kd.M (Kd.int .i64) _ _ _ a1 [.int .i64 a1] from rfl) (Reps.none _ _))); intro v108 w7 ho8 hb hg_ hnew_; clear hg_ hnew_; (first | rw [← Ny107.out] at ho8 | (simp only [Int.reduceToNat] at ho8; rw [← Ny107.out] at ho8)); replace HO106 := Am (Kd.R_below (kr HO106.out) hb); replace HO109 := Am (Kd.R_lower ho8 (below_size bq)); replace HB := Am (below_step bq hb); clear hb ho8))
 go_loopg [6, 7] k (fun kq v6 v7 w' => ∃ (x5_1 : List Bool) (x6_1 : List Int) (x7_1 : List Int), Aside0 (table_order.l0 kq l0 x5_1 x6_1 x7_1 = some r) ∧ Aside0 (kq ≤ k) ∧ Aside0 (Kd.R Kd.bool 4 w' w.heap.size (fun _ => True) v105 x5_1) ∧ Aside0 (Kd.R (Kd.int .i64) 3 w' w.heap.size (fun k_ => some k_ ≠ (v7 : Value).ownBlock) v6 x6_1) ∧ Aside0 (Kd.R (Kd.int .i64) 3 w' w.heap.size (fun k_ => some k_ ≠ (v6 : Value).ownBlock) v7 x7_1) ∧ Aside0 (Below w.heap.size w w'))
 case atStart => exact ⟨(y104), (([] : List Int)), (y107), H', ⟨Nat.le_refl _⟩, ⟨kr HO106.out⟩, ⟨by first | exact Kd.R_nil _ _ _ _ _ | exact Kd.N_nil _ _ _ _ _ | exact Kd.V_nil _ _ _ _ _ | exact Kd.Q_nil _ _ _ _ _ | exact Kd.S_nil _ _ _ _ _⟩, ⟨by (with_reducible repeat (first | apply Kd.R_alloc | apply Kd.R_drewN | apply Kd.R_drew)); exact Kd.R_mono HO109.out (fun _ hk => (by simp [Value.ownBlock]))⟩, ⟨bq⟩⟩
 case round =>
  clear H'
  clear c3b0 c3b1 c4b0 c4b1
  try clear p2
  obtain ⟨x5_1, x6_1, x7_1, HA, HK1, HO_5, HO_6, HO_7, HB⟩ := hrel
  cases gk with
  | zero => exact absurd HA.out (by simp [table_order.l0])
  | succ k1 =>
   have H := HA.out
   clear HA
   simp only [table_order.l0] at H
   by_cases c9 : (x7_1.length : Int) > 0
   ·rw [if_pos c9] at H
    have c9b0 : decide (0 < (x7_1.length : Int)) = true := decide_eq_true c9
    have c9b1 : decide (0 < x7_1.length) = true := decide_eq_true (by omega)
    clear c9
    obtain ⟨ji10, hji10⟩ : ∃ j_ : Int, (wrap64 ((x7_1.length : Int) - 1)) = j_ := ⟨_, rfl⟩
    replace H : (if 0 ≤ (ji10) then (if (ji10) < (x7_1.length : Int) then (if (ji10) ≤ (x7_1.length : Int) then ((some (x7_1.take ((ji10) : Int).toNat : List Int)).bind fun y111 => (if 0 ≤ (rd x7_1 (ji10)) then (if (rd x7_1 (ji10)) < (x5_1.length : Int) then (if rdOf false x5_1 (rd x7_1 (ji10)) = true then (some ([] : List Int)) else ((some (x5_1.set ((rd x7_1 (ji10)) : Int).toNat true : List Bool)).bind fun y115 => (if x6_1.length < 17592186044416 then ((some (x6_1 ++ [rd x7_1 (ji10)] : List Int)).bind fun y116 => (if (rd x7_1 (ji10)) < (l0.length : Int) then ((table_isLeaf.f ((rd_T34 l0 (rd x7_1 (ji10))).f0) ((rd_T34 l0 (rd x7_1 (ji10))).f1) ((rd_T34 l0 (rd x7_1 (ji10))).f2) ((rd_T34 l0 (rd x7_1 (ji10))).f3) ((rd_T34 l0 (rd x7_1 (ji10))).f4) ((rd_T34 l0 (rd x7_1 (ji10))).f5)).bind fun t120 => (if t120 = true then (table_order.l0 k1 l0 y115 y116 y111) else ((some (([(rd_T34 l0 (rd x7_1 (ji10))).f5, (rd_T34 l0 (rd x7_1 (ji10))).f4] : List Int) : List Int)).bind fun y123 => (if y111.length + y123.length < 17592186044416 then (table_order.l0 k1 l0 y115 y116 (y111 ++ y123)) else (none))))) else (none))) else (none)))) else (none)) else (none))) else (none)) else (none)) else (none)) = some r := by first | (rw [hji10] at H; exact H) | (simp only [hji10] at H ⊢; exact H)
    have hji10w : (IntKind.i64.wrap ((x7_1.length : Int) - 1)) = ji10 := (i64_w _).trans hji10
    obtain ⟨c11, H⟩ := gd H
    have c11b0 := decide_eq_true c11
    clear c11
    obtain ⟨c12, H⟩ := gd H
    have c12b0 := decide_eq_true c12
    clear c12
    obtain ⟨c13, H⟩ := gd H
    have c13b0 := eq_true c13
    have c13b1 := decide_eq_true c13
    clear c13
    obtain ⟨y111, hy111⟩ : ∃ y_ : List Int, y_ = (x7_1.take ((ji10) : Int).toNat) := ⟨_, rfl⟩
    replace H : (if 0 ≤ (rd x7_1 (ji10)) then (if (rd x7_1 (ji10)) < (x5_1.length : Int) then (if rdOf false x5_1 (rd x7_1 (ji10)) = true then (some ([] : List Int)) else ((some (x5_1.set ((rd x7_1 (ji10)) : Int).toNat true : List Bool)).bind fun y115 => (if x6_1.length < 17592186044416 then ((some (x6_1 ++ [rd x7_1 (ji10)] : List Int)).bind fun y116 => (if (rd x7_1 (ji10)) < (l0.length : Int) then ((table_isLeaf.f ((rd_T34 l0 (rd x7_1 (ji10))).f0) ((rd_T34 l0 (rd x7_1 (ji10))).f1) ((rd_T34 l0 (rd x7_1 (ji10))).f2) ((rd_T34 l0 (rd x7_1 (ji10))).f3) ((rd_T34 l0 (rd x7_1 (ji10))).f4) ((rd_T34 l0 (rd x7_1 (ji10))).f5)).bind fun t120 => (if t120 = true then (table_order.l0 k1 l0 y115 y116 y111) else ((some (([(rd_T34 l0 (rd x7_1 (ji10))).f5, (rd_T34 l0 (rd x7_1 (ji10))).f4] : List Int) : List Int)).bind fun y123 => (if y111.length + y123.length < 17592186044416 then (table_order.l0 k1 l0 y115 y116 (y111 ++ y123)) else (none))))) else (none))) else (none)))) else (none)) else (none)) = some r := by first | (rw [hy111]; with_reducible exact H) | (have H2_ := (Option.bind_some _ _).symm.trans H; rw [hy111]; with_reducible exact H2_) | (have H2_ := (Option.bind_some _ _).symm.trans H; with_reducible exact H2_) | with_reducible exact H | (rw [hy111]; exact H) | exact H
    have Ny111 := Am hy111
    clear hy111
    obtain ⟨c14, H⟩ := gd H
    have c14b0 := decide_eq_true c14
    clear c14
    obtain ⟨c15, H⟩ := gd H
    have c15b0 := decide_eq_true c15
    clear c15
    obtain ⟨bq16, hbq16⟩ : ∃ b_ : Bool, b_ = (rdOf false x5_1 (rd x7_1 (ji10))) := ⟨_, rfl⟩
    replace H : (if bq16 = true then (some ([] : List Int)) else ((some (x5_1.set ((rd x7_1 (ji10)) : Int).toNat true : List Bool)).bind fun y115 => (if x6_1.length < 17592186044416 then ((some (x6_1 ++ [rd x7_1 (ji10)] : List Int)).bind fun y116 => (if (rd x7_1 (ji10)) < (l0.length : Int) then ((table_isLeaf.f ((rd_T34 l0 (rd x7_1 (ji10))).f0) ((rd_T34 l0 (rd x7_1 (ji10))).f1) ((rd_T34 l0 (rd x7_1 (ji10))).f2) ((rd_T34 l0 (rd x7_1 (ji10))).f3) ((rd_T34 l0 (rd x7_1 (ji10))).f4) ((rd_T34 l0 (rd x7_1 (ji10))).f5)).bind fun t120 => (if t120 = true then (table_order.l0 k1 l0 y115 y116 y111) else ((some (([(rd_T34 l0 (rd x7_1 (ji10))).f5, (rd_T34 l0 (rd x7_1 (ji10))).f4] : List Int) : List Int)).bind fun y123 => (if y111.length + y123.length < 17592186044416 then (table_order.l0 k1 l0 y115 y116 (y111 ++ y123)) else (none))))) else (none))) else (none)))) = some r := by rw [← hbq16] at H; exact H
    have Nbq16 := Am hbq16
    clear hbq16
    by_cases c17 : bq16 = true
    ·subst c17
     rw [if_pos rfl] at H
     obtain rfl := Option.some.inj H
     obtain ⟨Ao18, co18, eo18⟩ := Kd.R_slice HO_7.out
     subst eo18
     have p110 : 0 ≤ ((ji10) : Int) := da
     have q110 : (ji10) < (x7_1.length : Int) := da
     obtain ⟨ad110, e110, hx110_0⟩ := Kd.at_int (Kd.R_reads' HO_7.out).2.2 (ji10) p110 q110
     cases e110
     replace p110 := eq_true p110
     replace q110 := eq_true q110
     have q19 : ((ji10) : Int) ≤ ((x7_1.length : Int) : Int) := da
     obtain ⟨i019, hi019, _, hsz19, _⟩ := info_parts info3
     have hcut19 := cut_to (P := Tryd.prog) 91 3 .i64 Tryd.underlying91 hi019 (some ad110) x7_1.length co18 (ji10) (da) q19 (Kd.R_reads' HO_7.out).2.1
     have hr19 := Kd.R_take (m := ((ji10) : Int).toNat) HO_7.out (by omega)
     have hy19 : y111.length = ((ji10) : Int).toNat := (by rw [Ny111.out, List.length_take]; omega)
     rw [← Ny111.out] at hr19
     rw [← hy19] at hr19 hcut19
     clear hy19 hi019 hsz19 HO_7
     have HO113 := Am hr19
     clear hr19
     replace q19 := eq_true q19
     obtain ⟨Ao20, co20, eo20⟩ := Kd.R_slice HO_5.out
     subst eo20
     have p114 : 0 ≤ ((rd x7_1 (ji10)) : Int) := da
     have q114 : (rd x7_1 (ji10)) < (x5_1.length : Int) := da
     obtain ⟨ad114, e114, hx114_0⟩ := Kd.at_bool (Kd.R_reads' HO_5.out).2.2 (rd x7_1 (ji10)) p114 q114
     (try rw [← Nbq16.out] at hx114_0)
     cases e114
     replace p114 := eq_true p114
     replace q114 := eq_true q114
     go_wp2
     go_ret
     exact ⟨_, by first | rfl | (simp [errW_none, errW_some] <;> rfl) | (simp only [← hji10]; first | rfl | (simp [errW_none, errW_some] <;> rfl)) | (simp [*, errW_none, errW_some] <;> rfl), by first | exact Kd.R_nil _ _ _ _ _ | exact Kd.N_nil _ _ _ _ _ | exact Kd.V_nil _ _ _ _ _ | exact Kd.Q_nil _ _ _ _ _ | exact Kd.S_nil _ _ _ _ _, bq⟩
    ·replace c17 := Bool.eq_false_iff.mpr c17
     subst c17
     rw [if_neg nf] at H
     obtain ⟨y115, hy115⟩ : ∃ y_ : List Bool, y_ = (x5_1.set ((rd x7_1 (ji10)) : Int).toNat true) := ⟨_, rfl⟩
     replace H : (if x6_1.length < 17592186044416 then ((some (x6_1 ++ [rd x7_1 (ji10)] : List Int)).bind fun y116 => (if (rd x7_1 (ji10)) < (l0.length : Int) then ((table_isLeaf.f ((rd_T34 l0 (rd x7_1 (ji10))).f0) ((rd_T34 l0 (rd x7_1 (ji10))).f1) ((rd_T34 l0 (rd x7_1 (ji10))).f2) ((rd_T34 l0 (rd x7_1 (ji10))).f3) ((rd_T34 l0 (rd x7_1 (ji10))).f4) ((rd_T34 l0 (rd x7_1 (ji10))).f5)).bind fun t120 => (if t120 = true then (table_order.l0 k1 l0 y115 y116 y111) else ((some (([(rd_T34 l0 (rd x7_1 (ji10))).f5, (rd_T34 l0 (rd x7_1 (ji10))).f4] : List Int) : List Int)).bind fun y123 => (if y111.length + y123.length < 17592186044416 then (table_order.l0 k1 l0 y115 y116 (y111 ++ y123)) else (none))))) else (none))) else (none)) = some r := by first | (rw [hy115]; with_reducible exact H) | (have H2_ := (Option.bind_some _ _).symm.trans H; rw [hy115]; with_reducible exact H2_) | (have H2_ := (Option.bind_some _ _).symm.trans H; with_reducible exact H2_) | with_reducible exact H | (rw [hy115]; exact H) | exact H
     have Ny115 := Am hy115
     clear hy115
     obtain ⟨c22, H⟩ := gd H
     have LMc22 := Am c22
     clear c22
     obtain ⟨y116, hy116⟩ : ∃ y_ : List Int, y_ = (x6_1 ++ [rd x7_1 (ji10)]) := ⟨_, rfl⟩
     replace H : (if (rd x7_1 (ji10)) < (l0.length : Int) then ((table_isLeaf.f ((rd_T34 l0 (rd x7_1 (ji10))).f0) ((rd_T34 l0 (rd x7_1 (ji10))).f1) ((rd_T34 l0 (rd x7_1 (ji10))).f2) ((rd_T34 l0 (rd x7_1 (ji10))).f3) ((rd_T34 l0 (rd x7_1 (ji10))).f4) ((rd_T34 l0 (rd x7_1 (ji10))).f5)).bind fun t120 => (if t120 = true then (table_order.l0 k1 l0 y115 y116 y111) else ((some (([(rd_T34 l0 (rd x7_1 (ji10))).f5, (rd_T34 l0 (rd x7_1 (ji10))).f4] : List Int) : List Int)).bind fun y123 => (if y111.length + y123.length < 17592186044416 then (table_order.l0 k1 l0 y115 y116 (y111 ++ y123)) else (none))))) else (none)) = some r := by first | (rw [hy116]; with_reducible exact H) | (have H2_ := (Option.bind_some _ _).symm.trans H; rw [hy116]; with_reducible exact H2_) | (have H2_ := (Option.bind_some _ _).symm.trans H; with_reducible exact H2_) | with_reducible exact H | (rw [hy116]; exact H) | exact H
     have Ny116 := Am hy116
     clear hy116
     obtain ⟨c23, H⟩ := gd H
     have c23b0 := decide_eq_true c23
     clear c23
     obtain ⟨t120, A24, H⟩ := bo H
     by_cases c25 : t120 = true
     ·subst c25
      rw [if_pos rfl] at H
      have H' := Am H
      clear H
      obtain ⟨Ao26, co26, eo26⟩ := Kd.R_slice HO_7.out
      subst eo26
      have p110 : 0 ≤ ((ji10) : Int) := da
      have q110 : (ji10) < (x7_1.length : Int) := da
      obtain ⟨ad110, e110, hx110_0⟩ := Kd.at_int (Kd.R_reads' HO_7.out).2.2 (ji10) p110 q110
      cases e110
      replace p110 := eq_true p110
      replace q110 := eq_true q110
      have q27 : ((ji10) : Int) ≤ ((x7_1.length : Int) : Int) := da
      obtain ⟨i027, hi027, _, hsz27, _⟩ := info_parts info3
      have hcut27 := cut_to (P := Tryd.prog) 91 3 .i64 Tryd.underlying91 hi027 (some ad110) x7_1.length co26 (ji10) (da) q27 (Kd.R_reads' HO_7.out).2.1
      have hr27 := Kd.R_take (m := ((ji10) : Int).toNat) HO_7.out (by omega)
      have hy27 : y111.length = ((ji10) : Int).toNat := (by rw [Ny111.out, List.length_take]; omega)
      rw [← Ny111.out] at hr27
      rw [← hy27] at hr27 hcut27
      clear hy27 hi027 hsz27 HO_7
      have HO113 := Am hr27
      clear hr27
      replace q27 := eq_true q27
      obtain ⟨Ao28, co28, eo28⟩ := Kd.R_slice HO_5.out
      subst eo28
      have p114 : 0 ≤ ((rd x7_1 (ji10)) : Int) := da
      have q114 : (rd x7_1 (ji10)) < (x5_1.length : Int) := da
      obtain ⟨ad114, e114, hx114_0⟩ := Kd.at_bool (Kd.R_reads' HO_5.out).2.2 (rd x7_1 (ji10)) p114 q114
      (try rw [← Nbq16.out] at hx114_0)
      cases e114
      replace p114 := eq_true p114
      replace q114 := eq_true q114
      have p21 : 0 ≤ ((rd x7_1 (ji10)) : Int) := da
      have q21 : ((rd x7_1 (ji10)) : Int) < ((x5_1.length : Int) : Int) := da
      obtain ⟨go21, co21, eo21, gb21, gl21, cl21, HG21⟩ := Kd.R_form HO_5.out (by omega)
      (first | cases eo21 | (injection eo21 with ea_ en_ ec_; (first | subst ea_ | (injection ea_ with ea_; subst ea_)); subst ec_; clear en_))
      have GB21 := Am gb21
      have GG21 := Am HG21
      clear gb21 gl21 HG21
      (first | simp only [add_plain] at hx114_0 | skip)
      obtain ⟨hx21_0, hf21_0⟩ := Kd.R_celln false HO_5.out ((rd x7_1 (ji10)) : Int) p21 q21
      replace p21 := eq_true p21
      replace q21 := eq_true q21
      have HP29 := Kd.R_putg HO_5.out ((rd x7_1 (ji10)) : Int) true
      go_wp2_with (first | ((with_reducible refine gate_store (t := 4) (p := 34) rfl ?_); refine store_event (t := 4) (p := 34) (v := ?vo_w30) (w1 := (wr.setCell ⟨go21, ((rd x7_1 (ji10)) : Int).toNat, none⟩ (.bool true))) ?hg ?ho ?hn ?hr ?_; (case ho => rfl); (case hg => rfl); (case hn => rfl); (case hr => first | (go_simp; done) | (go_simp; rfl)); intro w30 hw; have hg : wr.grownBy w30 (some go21) := (by rw [hw]; exact HP29.2); have hp_ : Kd.R Kd.bool 4 w30 w.heap.size (fun _ => True) (.slice (some ⟨go21, 0, none⟩) x5_1.length co28) y115 := (by rw [hw, Ny115.out]; exact HP29.1); clear HP29; have n0_ := Am (hp_); have n1_ := Am (Kd.R_over' (v := (.slice (some ⟨go21, 0, none⟩) x5_1.length co28)) (kr HO_6.out) (Kd.R_typed HO_5.out) (by decide) hg); have n2_ := Am (Kd.R_over' (v := (.slice (some ⟨go21, 0, none⟩) x5_1.length co28)) (kr HO113.out) (Kd.R_typed HO_5.out) (by decide) hg); have n3_ := Am ((by rw [hw]; exact below_set (HB.out) GB21.out : Below w.heap.size w w30)); clear HO_5; clear HO_6; clear HO113; clear HB; have HO_5 := n0_; have HO_6 := n1_; have HO113 := n2_; have HB := n3_; clear n0_ n1_ n2_ n3_; clear hg hw hp_) | ((with_reducible refine gate_builtin (b := .append) (xs := #[.tmp 35, .tmp 37]) rfl ?_); at_builtin; refine Kd.R_append (Kd.int .i64) (w0 := w) w.heap.size rfl (.tmp 35) (.tmp 37) 91 3 (.int .i64 0) 8 rfl Tryd.underlying91 info3 rfl (by decide) (by omega) u6 x6_1 (rd x7_1 (ji10)) [.int .i64 (rd x7_1 (ji10))] (fun k_ => some k_ ≠ (.slice (some ad110) y111.length co26 : Value).ownBlock) (fun _ => False) rfl rfl ?aP (fun _ hk => hk.elim) ?aF ?aO ?aB ?aS ?aL ?_; (case aP => exact rfl); (case aB => exact bq); (case aF => exact (fun k_ hk => Kd.fresh' (Kd.R_lt (kr HO113.out)) k_ hk)); (case aO => exact (kr HO_6.out)); (case aS => exact (below_size bq)); (case aL => have := LMc22.out; omega); intro v117 w31 ho hb hg hat; rw [← Ny116.out] at ho; have n0_ := Am (Kd.R_over' (kr HO_5.out) (Kd.R_typed (kr HO_6.out)) (by decide) hg); have n1_ := Am (Kd.R_after (ok := (fun _ => True)) (by (with_reducible repeat (first | apply Kd.R_alloc | apply Kd.R_drewN | apply Kd.R_drew)); exact Kd.R_mono HO113.out (fun _ hk => ⟨trivial, hk⟩)) hg hat); have n2_ := Am (hb); have n3_ := Am (ho); clear HO_5; clear HO113; clear HB; clear HO_6; have HO_5 := n0_; have HO113 := n1_; have HB := n2_; have HO118 := n3_; clear n0_ n1_ n2_ n3_; clear ho hb hg hat; obtain ⟨ad119, e119, hx119_0, hx119_1, hx119_2, hx119_3, hx119_4, hx119_5, p119, q119⟩ := t6d HB.out HR0.out (rd x7_1 (ji10)); cases e119) | ((with_reducible refine gc 52 rfl ?_); refine goesL_ (some 43) rfl rfl Tryd.func52 (by kernel_rfl) rfl #[.agg #[.int .i64 ((rd_T34 l0 (rd x7_1 (ji10))).f0), .int .i64 ((rd_T34 l0 (rd x7_1 (ji10))).f1), .int .i64 ((rd_T34 l0 (rd x7_1 (ji10))).f2), .int .i64 ((rd_T34 l0 (rd x7_1 (ji10))).f3), .int .i64 ((rd_T34 l0 (rd x7_1 (ji10))).f4), .int .i64 ((rd_T34 l0 (rd x7_1 (ji10))).f5)]] rfl (by (try simp only [List.map_toArray, List.map_cons, List.map_nil]); first | done | (simp only [hji10]; rfl) | rfl | (simp only [List.length_drop, List.length_take]; rfl)) ?_; (with_reducible refine (table_isLeaf.calls _ _ _ _ _ _ true _ A24.out).mono ?_); rintro e w32 ⟨rfl, hb⟩; refine ⟨_, rfl, ?_⟩; replace HO_5 := Am (Kd.R_below (kr HO_5.out) hb); replace HO113 := Am (Kd.R_below (kr HO113.out) hb); replace HO118 := Am (Kd.R_below (kr HO118.out) hb); replace HB := Am (below_step bq hb); (try clear hb)))
      go_roundg k1
      case measure => have := HK1.out; omega
      case rel => exact ⟨(y115), (y116), (y111), H', ⟨by have := HK1.out; omega⟩, ⟨kr HO_5.out⟩, ⟨kr HO118.out⟩, ⟨by (with_reducible repeat (first | apply Kd.R_alloc | apply Kd.R_drewN | apply Kd.R_drew)); exact Kd.R_mono HO113.out (fun _ hk => hk.2)⟩, ⟨bq⟩⟩
     ·replace c25 := Bool.eq_false_iff.mpr c25
      subst c25
      rw [if_neg nf] at H
      obtain ⟨y123, hy123⟩ : ∃ y_ : List Int, y_ = (([(rd_T34 l0 (rd x7_1 (ji10))).f5, (rd_T34 l0 (rd x7_1 (ji10))).f4] : List Int)) := ⟨_, rfl⟩
      replace H : (if y111.length + y123.length < 17592186044416 then (table_order.l0 k1 l0 y115 y116 (y111 ++ y123)) else (none)) = some r := by first | (rw [hy123]; with_reducible exact H) | (have H2_ := (Option.bind_some _ _).symm.trans H; rw [hy123]; with_reducible exact H2_) | (have H2_ := (Option.bind_some _ _).symm.trans H; with_reducible exact H2_) | with_reducible exact H | (rw [hy123]; exact H) | exact H
      have Ny123 := Am hy123
      clear hy123
      obtain ⟨c33, H⟩ := gd H
      have LMc33 := Am c33
      clear c33
      obtain ⟨y126, hy126⟩ : ∃ y_ : List Int, y_ = (y111 ++ y123) := ⟨_, rfl⟩
      replace H : (table_order.l0 k1 l0 y115 y116 y126) = some r := by first | (rw [hy126]; with_reducible exact H) | (have H2_ := (Option.bind_some _ _).symm.trans H; rw [hy126]; with_reducible exact H2_) | (have H2_ := (Option.bind_some _ _).symm.trans H; with_reducible exact H2_) | with_reducible exact H | (rw [hy126]; exact H) | exact H
      have Ny126 := Am hy126
      clear hy126
      have H' := Am H
      clear H
      obtain ⟨Ao34, co34, eo34⟩ := Kd.R_slice HO_7.out
      subst eo34
      have p110 : 0 ≤ ((ji10) : Int) := da
      have q110 : (ji10) < (x7_1.length : Int) := da
      obtain ⟨ad110, e110, hx110_0⟩ := Kd.at_int (Kd.R_reads' HO_7.out).2.2 (ji10) p110 q110
      cases e110
      replace p110 := eq_true p110
      replace q110 := eq_true q110
      have q35 : ((ji10) : Int) ≤ ((x7_1.length : Int) : Int) := da
      obtain ⟨i035, hi035, _, hsz35, _⟩ := info_parts info3
      have hcut35 := cut_to (P := Tryd.prog) 91 3 .i64 Tryd.underlying91 hi035 (some ad110) x7_1.length co34 (ji10) (da) q35 (Kd.R_reads' HO_7.out).2.1
      have hr35 := Kd.R_take (m := ((ji10) : Int).toNat) HO_7.out (by omega)
      have hy35 : y111.length = ((ji10) : Int).toNat := (by rw [Ny111.out, List.length_take]; omega)
      rw [← Ny111.out] at hr35
      rw [← hy35] at hr35 hcut35
      clear hy35 hi035 hsz35 HO_7
      have HO113 := Am hr35
      clear hr35
      replace q35 := eq_true q35
      obtain ⟨Ao36, co36, eo36⟩ := Kd.R_slice HO_5.out
      subst eo36
      have p114 : 0 ≤ ((rd x7_1 (ji10)) : Int) := da
      have q114 : (rd x7_1 (ji10)) < (x5_1.length : Int) := da
      obtain ⟨ad114, e114, hx114_0⟩ := Kd.at_bool (Kd.R_reads' HO_5.out).2.2 (rd x7_1 (ji10)) p114 q114
      (try rw [← Nbq16.out] at hx114_0)
      cases e114
      replace p114 := eq_true p114
      replace q114 := eq_true q114
      have p21 : 0 ≤ ((rd x7_1 (ji10)) : Int) := da
      have q21 : ((rd x7_1 (ji10)) : Int) < ((x5_1.length : Int) : Int) := da
      obtain ⟨go21, co21, eo21, gb21, gl21, cl21, HG21⟩ := Kd.R_form HO_5.out (by omega)
      (first | cases eo21 | (injection eo21 with ea_ en_ ec_; (first | subst ea_ | (injection ea_ with ea_; subst ea_)); subst ec_; clear en_))
      have GB21 := Am gb21
      have GG21 := Am HG21
      clear gb21 gl21 HG21
      (first | simp only [add_plain] at hx114_0 | skip)
      obtain ⟨hx21_0, hf21_0⟩ := Kd.R_celln false HO_5.out ((rd x7_1 (ji10)) : Int) p21 q21
      replace p21 := eq_true p21
      replace q21 := eq_true q21
      have HP37 := Kd.R_putg HO_5.out ((rd x7_1 (ji10)) : Int) true
      try go_wp2_with (first | ((with_reducible refine gate_store (t := 4) (p := 34) rfl ?_); refine store_event (t := 4) (p := 34) (v := ?vo_w38) (w1 := (wr.setCell ⟨go21, ((rd x7_1 (ji10)) : Int).toNat, none⟩ (.bool true))) ?hg ?ho ?hn ?hr ?_; (case ho => rfl); (case hg => rfl); (case hn => rfl); (case hr => first | (go_simp; done) | (go_simp; rfl)); intro w38 hw; have hg : wr.grownBy w38 (some go21) := (by rw [hw]; exact HP37.2); have hp_ : Kd.R Kd.bool 4 w38 w.heap.size (fun _ => True) (.slice (some ⟨go21, 0, none⟩) x5_1.length co36) y115 := (by rw [hw, Ny115.out]; exact HP37.1); clear HP37; have n0_ := Am (hp_); have n1_ := Am (Kd.R_over' (v := (.slice (some ⟨go21, 0, none⟩) x5_1.length co36)) (kr HO_6.out) (Kd.R_typed HO_5.out) (by decide) hg); have n2_ := Am (Kd.R_over' (v := (.slice (some ⟨go21, 0, none⟩) x5_1.length co36)) (kr HO113.out) (Kd.R_typed HO_5.out) (by decide) hg); have n3_ := Am ((by rw [hw]; exact below_set (HB.out) GB21.out : Below w.heap.size w w38)); clear HO_5; clear HO_6; clear HO113; clear HB; have HO_5 := n0_; have HO_6 := n1_; have HO113 := n2_; have HB := n3_; clear n0_ n1_ n2_ n3_; clear hg hw hp_) | ((with_reducible refine gate_builtin (b := .append) (xs := #[.tmp 35, .tmp 37]) rfl ?_); at_builtin; refine Kd.R_append (Kd.int .i64) (w0 := w) w.heap.size rfl (.tmp 35) (.tmp 37) 91 3 (.int .i64 0) 8 rfl Tryd.underlying91 info3 rfl (by decide) (by omega) u6 x6_1 (rd x7_1 (ji10)) [.int .i64 (rd x7_1 (ji10))] (fun k_ => some k_ ≠ (.slice (some ad110) y111.length co34 : Value).ownBlock) (fun _ => False) rfl rfl ?aP (fun _ hk => hk.elim) ?aF ?aO ?aB ?aS ?aL ?_; (case aP => exact rfl); (case aB => exact bq); (case aF => exact (fun k_ hk => Kd.fresh' (Kd.R_lt (kr HO113.out)) k_ hk)); (case aO => exact (kr HO_6.out)); (case aS => exact (below_size bq)); (case aL => have := LMc22.out; omega); intro v117 w39 ho hb hg hat; rw [← Ny116.out] at ho; have n0_ := Am (Kd.R_over' (kr HO_5.out) (Kd.R_typed (kr HO_6.out)) (by decide) hg); have n1_ := Am (Kd.R_after (ok := (fun _ => True)) (by (with_reducible repeat (first | apply Kd.R_alloc | apply Kd.R_drewN | apply Kd.R_drew)); exact Kd.R_mono HO113.out (fun _ hk => ⟨trivial, hk⟩)) hg hat); have n2_ := Am (hb); have n3_ := Am (ho); clear HO_5; clear HO113; clear HB; clear HO_6; have HO_5 := n0_; have HO113 := n1_; have HB := n2_; have HO118 := n3_; clear n0_ n1_ n2_ n3_; clear ho hb hg hat; obtain ⟨ad119, e119, hx119_0, hx119_1, hx119_2, hx119_3, hx119_4, hx119_5, p119, q119⟩ := t6d HB.out HR0.out (rd x7_1 (ji10)); cases e119) | ((with_reducible refine gc 52 rfl ?_); refine goesL_ (some 43) rfl rfl Tryd.func52 (by kernel_rfl) rfl #[.agg #[.int .i64 ((rd_T34 l0 (rd x7_1 (ji10))).f0), .int .i64 ((rd_T34 l0 (rd x7_1 (ji10))).f1), .int .i64 ((rd_T34 l0 (rd x7_1 (ji10))).f2), .int .i64 ((rd_T34 l0 (rd x7_1 (ji10))).f3), .int .i64 ((rd_T34 l0 (rd x7_1 (ji10))).f4), .int .i64 ((rd_T34 l0 (rd x7_1 (ji10))).f5)]] rfl (by (try simp only [List.map_toArray, List.map_cons, List.map_nil]); first | done | (simp only [hji10]; rfl) | rfl | (simp only [List.length_drop, List.length_take]; rfl)) ?_; (with_reducible refine (table_isLeaf.calls _ _ _ _ _ _ false _ A24.out).mono ?_); rintro e w40 ⟨rfl, hb⟩; refine ⟨_, rfl, ?_⟩; replace HO_5 := Am (Kd.R_below (kr HO_5.out) hb); replace HO113 := Am (Kd.R_below (kr HO113.out) hb); replace HO118 := Am (Kd.R_below (kr HO118.out) hb); replace HB := Am (below_step bq hb); (try clear hb)))
      replace HO_5 := Am (Kd.R_drew HO_5.out)
      replace HO113 := Am (Kd.R_drew HO113.out)
      replace HO118 := Am (Kd.R_drew HO118.out)
      replace HB := Am (bd HB.out)
      have p121 : 0 ≤ ((rd x7_1 (ji10)) : Int) := da
      have q121 : (rd x7_1 (ji10)) < (l0.length : Int) := da
      obtain ⟨ad121, e121, hx121_0, hx121_1, hx121_2, hx121_3, hx121_4, hx121_5⟩ := at_T34 HR0.out (rd x7_1 (ji10)) p121 q121
      have hw121_5 := hx121_5
      have hw121_4 := hx121_4
      have hw121_3 := hx121_3
      have hw121_2 := hx121_2
      have hw121_1 := hx121_1
      have hw121_0 := hx121_0
      obtain rfl : ad119 = ad121 := (by injection e121)
      replace hx121_0 := (HB.out.cell (blt w _ hx121_0)).trans hx121_0
      replace hx121_1 := (HB.out.cell (blt w _ hx121_1)).trans hx121_1
      replace hx121_2 := (HB.out.cell (blt w _ hx121_2)).trans hx121_2
      replace hx121_3 := (HB.out.cell (blt w _ hx121_3)).trans hx121_3
      replace hx121_4 := (HB.out.cell (blt w _ hx121_4)).trans hx121_4
      replace hx121_5 := (HB.out.cell (blt w _ hx121_5)).trans hx121_5
      replace p121 := eq_true p121
      replace q121 := eq_true q121
      have p122 : 0 ≤ ((rd x7_1 (ji10)) : Int) := da
      have q122 : (rd x7_1 (ji10)) < (l0.length : Int) := da
      obtain ⟨ad122, e122, hx122_0, hx122_1, hx122_2, hx122_3, hx122_4, hx122_5⟩ := at_T34 HR0.out (rd x7_1 (ji10)) p122 q122
      have hw122_5 := hx122_5
      have hw122_4 := hx122_4
      have hw122_3 := hx122_3
      have hw122_2 := hx122_2
      have hw122_1 := hx122_1
      have hw122_0 := hx122_0
      obtain rfl : ad119 = ad122 := (by injection e122)
      replace hx122_0 := (HB.out.cell (blt w _ hx122_0)).trans hx122_0
      replace hx122_1 := (HB.out.cell (blt w _ hx122_1)).trans hx122_1
      replace hx122_2 := (HB.out.cell (blt w _ hx122_2)).trans hx122_2
      replace hx122_3 := (HB.out.cell (blt w _ hx122_3)).trans hx122_3
      replace hx122_4 := (HB.out.cell (blt w _ hx122_4)).trans hx122_4
      replace hx122_5 := (HB.out.cell (blt w _ hx122_5)).trans hx122_5
      replace p122 := eq_true p122
      replace q122 := eq_true q122
      refine sT 14 [] (S := fun w' => w'.cell? (ad119.add (((rd x7_1 (ji10))).toNat * 6)) = some (.int .i64 ((rd_T34 l0 (rd x7_1 (ji10))).f0)) ∧ w'.cell? ⟨(ad119.add (((rd x7_1 (ji10))).toNat * 6)).block, (ad119.add (((rd x7_1 (ji10))).toNat * 6)).off + 1, none⟩ = some (.int .i64 ((rd_T34 l0 (rd x7_1 (ji10))).f1)) ∧ w'.cell? ⟨(ad119.add (((rd x7_1 (ji10))).toNat * 6)).block, (ad119.add (((rd x7_1 (ji10))).toNat * 6)).off + 2, none⟩ = some (.int .i64 ((rd_T34 l0 (rd x7_1 (ji10))).f2)) ∧ w'.cell? ⟨(ad119.add (((rd x7_1 (ji10))).toNat * 6)).block, (ad119.add (((rd x7_1 (ji10))).toNat * 6)).off + 3, none⟩ = some (.int .i64 ((rd_T34 l0 (rd x7_1 (ji10))).f3)) ∧ w'.cell? ⟨(ad119.add (((rd x7_1 (ji10))).toNat * 6)).block, (ad119.add (((rd x7_1 (ji10))).toNat * 6)).off + 4, none⟩ = some (.int .i64 ((rd_T34 l0 (rd x7_1 (ji10))).f4)) ∧ w'.cell? ⟨(ad119.add (((rd x7_1 (ji10))).toNat * 6)).block, (ad119.add (((rd x7_1 (ji10))).toNat * 6)).off + 5, none⟩ = some (.int .i64 ((rd_T34 l0 (rd x7_1 (ji10))).f5)) ∧ w'.cell? (ad119.add (((rd x7_1 (ji10))).toNat * 6)) = some (.int .i64 ((rd_T34 l0 (rd x7_1 (ji10))).f0)) ∧ w'.cell? ⟨(ad119.add (((rd x7_1 (ji10))).toNat * 6)).block, (ad119.add (((rd x7_1 (ji10))).toNat * 6)).off + 1, none⟩ = some (.int .i64 ((rd_T34 l0 (rd x7_1 (ji10))).f1)) ∧ w'.cell? ⟨(ad119.add (((rd x7_1 (ji10))).toNat * 6)).block, (ad119.add (((rd x7_1 (ji10))).toNat * 6)).off + 2, none⟩ = some (.int .i64 ((rd_T34 l0 (rd x7_1 (ji10))).f2)) ∧ w'.cell? ⟨(ad119.add (((rd x7_1 (ji10))).toNat * 6)).block, (ad119.add (((rd x7_1 (ji10))).toNat * 6)).off + 3, none⟩ = some (.int .i64 ((rd_T34 l0 (rd x7_1 (ji10))).f3)) ∧ w'.cell? ⟨(ad119.add (((rd x7_1 (ji10))).toNat * 6)).block, (ad119.add (((rd x7_1 (ji10))).toNat * 6)).off + 4, none⟩ = some (.int .i64 ((rd_T34 l0 (rd x7_1 (ji10))).f4)) ∧ w'.cell? ⟨(ad119.add (((rd x7_1 (ji10))).toNat * 6)).block, (ad119.add (((rd x7_1 (ji10))).toNat * 6)).off + 5, none⟩ = some (.int .i64 ((rd_T34 l0 (rd x7_1 (ji10))).f5))) ⟨((HB.out.cell (blt w _ hw121_0)).trans hw121_0), ((HB.out.cell (blt w _ hw121_1)).trans hw121_1), ((HB.out.cell (blt w _ hw121_2)).trans hw121_2), ((HB.out.cell (blt w _ hw121_3)).trans hw121_3), ((HB.out.cell (blt w _ hw121_4)).trans hw121_4), ((HB.out.cell (blt w _ hw121_5)).trans hw121_5), ((HB.out.cell (blt w _ hw122_0)).trans hw122_0), ((HB.out.cell (blt w _ hw122_1)).trans hw122_1), ((HB.out.cell (blt w _ hw122_2)).trans hw122_2), ((HB.out.cell (blt w _ hw122_3)).trans hw122_3), ((HB.out.cell (blt w _ hw122_4)).trans hw122_4), ((HB.out.cell (blt w _ hw122_5)).trans hw122_5)⟩ fun hHeld => ?_; refine with_tabW table_order.tab12 table_order.bits12 (fun HT_ HW_ => ?_)
      generalize w40.drew = w41 at HO_5 HO113 HO118 HB hx121_0 hx121_1 hx121_2 hx121_3 hx121_4 hx121_5 hx122_0 hx122_1 hx122_2 hx122_3 hx122_4 hx122_5 hHeld ⊢
      refine puT HT_.out 0 45 ?_
      refine puT HT_.out 1 46 ?_
      refine puT HT_.out 2 47 ?_
      refine puT HT_.out 3 48 ?_
      refine puT HT_.out 4 49 ?_
      refine puT HT_.out 6 51 ?_
      refine puT HT_.out 7 52 ?_
      refine puT HT_.out 8 53 ?_
      refine puT HT_.out 9 54 ?_
      refine taT HT_.out HW_.out 5 50 hHeld ?_
      refine taT HT_.out HW_.out 10 55 hHeld ?_
      refine onT HT_.out 11 56 fun K hK => ?_
      refine Kd.R_lit_step (Kd.int .i64) _ 3 ?hg (N := 56) ?hd (xs := ([(rd_T34 l0 (rd x7_1 (ji10))).f5, (rd_T34 l0 (rd x7_1 (ji10))).f4] : List Int)) (inner := [.int .i64 ((rd_T34 l0 (rd x7_1 (ji10))).f5), .int .i64 ((rd_T34 l0 (rd x7_1 (ji10))).f4)]) (ok := fun _ => True) (okp := fun _ => True) ?hr ?hp (fun _ hk => hk) trivial (Below.refl _ _) (Nat.le_refl _) (by simp) ?_; (case hd => rfl); (case hg => rfl); (case hr => first | (go_simp; done) | (go_simp; rfl)); (case hp => exact (Reps.one (show Kd.M (Kd.int .i64) _ _ _ ((rd_T34 l0 (rd x7_1 (ji10))).f5) [.int .i64 ((rd_T34 l0 (rd x7_1 (ji10))).f5)] from rfl) (Reps.one (show Kd.M (Kd.int .i64) _ _ _ ((rd_T34 l0 (rd x7_1 (ji10))).f4) [.int .i64 ((rd_T34 l0 (rd x7_1 (ji10))).f4)] from rfl) (Reps.none _ _))))
      intro v124 w42 ho43 hb hg_ hnew_
      clear hg_ hnew_
      (first | rw [← Ny123.out] at ho43 | (simp only [Int.reduceToNat] at ho43; rw [← Ny123.out] at ho43))
      have n0_ := Am (Kd.R_below (kr HO_5.out) hb)
      have n1_ := Am (Kd.R_elder' (kr HO113.out) (Kd.R_base ho43) hb)
      have n2_ := Am (Kd.R_elder' (kr HO118.out) (Kd.R_base ho43) hb)
      have n3_ := Am (Kd.R_lower (Kd.R_new' (Kd.R_new' ho43 (Kd.R_lt (kr HO113.out))) (Kd.R_lt (kr HO118.out))) (below_size bq))
      have n4_ := Am (below_step bq hb)
      clear HO_5
      clear HO113
      clear HO118
      clear HB
      have HO_5 := n0_
      have HO113 := n1_
      have HO118 := n2_
      have HO125 := n3_
      have HB := n4_
      clear n0_ n1_ n2_ n3_ n4_
      clear hb ho43
      obtain ⟨Ao45, co45, eo45⟩ := Kd.R_slice HO125.out
      (first | subst eo45 | (injection eo45 with f1_ f2_ f3_; have f4_ := f1_.symm; have f5_ := f3_.symm; clear f1_ f2_ f3_; subst f4_; subst f5_))
      refine hK.out _ _ ⟨((HB.out.cell (blt w _ hw121_0)).trans hw121_0), ((HB.out.cell (blt w _ hw121_1)).trans hw121_1), ((HB.out.cell (blt w _ hw121_2)).trans hw121_2), ((HB.out.cell (blt w _ hw121_3)).trans hw121_3), ((HB.out.cell (blt w _ hw121_4)).trans hw121_4), ((HB.out.cell (blt w _ hw121_5)).trans hw121_5), ((HB.out.cell (blt w _ hw122_0)).trans hw122_0), ((HB.out.cell (blt w _ hw122_1)).trans hw122_1), ((HB.out.cell (blt w _ hw122_2)).trans hw122_2), ((HB.out.cell (blt w _ hw122_3)).trans hw122_3), ((HB.out.cell (blt w _ hw122_4)).trans hw122_4), ((HB.out.cell (blt w _ hw122_5)).trans hw122_5)⟩ (fun hHeld => ?_)
      clear hK K
      refine nm 56 ?_
      refine onT HT_.out 12 57 fun K hK => ?_
      refine Kd.R_append_rows_step (Kd.int .i64) (w0 := w) w.heap.size (by rfl) (.tmp 45) (.tmp 56) 91 3 (.int .i64 0) 8 rfl Tryd.underlying91 info3 rfl (by decide) (by omega) (.slice (some ad110) y111.length co34) y111 y123 _ _ _ (fun k_ => some k_ ≠ (v117 : Value).ownBlock ∧ some k_ ≠ (.slice Ao45 y123.length co45 : Value).ownBlock) (fun _ => False) rfl rfl ?aO ?aR (fun _ _ h => h) (fun _ h => h.elim) ?aF ?aB ?aS ?aL ?_
      (case aR => repeat (first | exact (Kd.R_reads' HO125.out).2.2 | (with_reducible refine Kd.C_alloc ?_ _) | (with_reducible refine Kd.C_drewN ?_ _) | (with_reducible refine Kd.C_drew ?_)))
      (case aB => exact bq)
      (case aF => exact (fun k_ hk => ⟨Kd.fresh' (Kd.R_lt (kr HO118.out)) k_ hk, Kd.fresh' (Kd.R_lt (kr HO125.out)) k_ hk⟩))
      (case aO => exact (by (with_reducible repeat (first | apply Kd.R_alloc | apply Kd.R_drewN | apply Kd.R_drew)); exact Kd.R_mono HO113.out (fun _ hk => ⟨hk.1.2, hk.2⟩)))
      (case aS => exact (below_size bq))
      (case aL => have := LMc33.out; omega)
      intro v127 w44 ho hb hg hat
      rw [← Ny126.out] at ho
      have n0_ := Am (Kd.R_over' (kr HO_5.out) (Kd.R_typed (kr HO113.out)) (by decide) hg)
      have n1_ := Am (Kd.R_after (ok := (fun k_ => some k_ ≠ (.slice Ao45 y123.length co45 : Value).ownBlock)) (by (with_reducible repeat (first | apply Kd.R_alloc | apply Kd.R_drewN | apply Kd.R_drew)); exact Kd.R_mono HO118.out (fun _ hk => ⟨hk.2, hk.1⟩)) hg hat)
      have n2_ := Am (Kd.R_after (ok := (fun k_ => some k_ ≠ (v117 : Value).ownBlock)) (by (with_reducible repeat (first | apply Kd.R_alloc | apply Kd.R_drewN | apply Kd.R_drew)); exact Kd.R_mono HO125.out (fun _ hk => ⟨hk.2, hk.1.2⟩)) hg hat)
      have n3_ := Am (hb)
      have n4_ := Am (ho)
      clear HO_5
      clear HO118
      clear HO125
      clear HB
      clear HO113
      have HO_5 := n0_
      have HO118 := n1_
      have HO125 := n2_
      have HB := n3_
      have HO128 := n4_
      clear n0_ n1_ n2_ n3_ n4_
      clear ho hb hg hat
      refine hK.out _ _ ⟨((HB.out.cell (blt w _ hw121_0)).trans hw121_0), ((HB.out.cell (blt w _ hw121_1)).trans hw121_1), ((HB.out.cell (blt w _ hw121_2)).trans hw121_2), ((HB.out.cell (blt w _ hw121_3)).trans hw121_3), ((HB.out.cell (blt w _ hw121_4)).trans hw121_4), ((HB.out.cell (blt w _ hw121_5)).trans hw121_5), ((HB.out.cell (blt w _ hw122_0)).trans hw122_0), ((HB.out.cell (blt w _ hw122_1)).trans hw122_1), ((HB.out.cell (blt w _ hw122_2)).trans hw122_2), ((HB.out.cell (blt w _ hw122_3)).trans hw122_3), ((HB.out.cell (blt w _ hw122_4)).trans hw122_4), ((HB.out.cell (blt w _ hw122_5)).trans hw122_5)⟩ (fun hHeld => ?_)
      clear hK K
      refine nm 57 ?_
      refine puT HT_.out 13 7 ?_
      refine done_ (done_of HT_.out (by kernel_rfl)) ?_
      try go_wp2
      go_roundg k1
      case measure => have := HK1.out; omega
      case rel => exact ⟨(y115), (y116), (y126), H', ⟨by have := HK1.out; omega⟩, ⟨kr HO_5.out⟩, ⟨by (with_reducible repeat (first | apply Kd.R_alloc | apply Kd.R_drewN | apply Kd.R_drew)); exact Kd.R_mono HO118.out (fun _ hk => hk.2)⟩, ⟨by (with_reducible repeat (first | apply Kd.R_alloc | apply Kd.R_drewN | apply Kd.R_drew)); exact Kd.R_mono HO128.out (fun _ hk => hk.1)⟩, ⟨bq⟩⟩
   ·rw [if_neg c9] at H
    have c9b0 : decide (0 < (x7_1.length : Int)) = false := decide_eq_false c9
    have c9b1 : decide (0 < x7_1.length) = false := decide_eq_false (by omega)
    clear c9
    obtain rfl := Option.some.inj H
    obtain ⟨Ao46, co46, eo46⟩ := Kd.R_slice HO_7.out
    subst eo46
    go_wp2
    go_ret
    exact ⟨_, er, by (with_reducible repeat (first | apply Kd.R_alloc | apply Kd.R_drewN | apply Kd.R_drew)); exact Kd.R_mono HO_6.out (fun _ hk => trivial), bq⟩
end
section
inductive Tr where
 | nil
 | node (n : S34) (pl : Int) (l r : Tr)
def ndCells (n : S34) (pl : Int) (vl vr : Value) : Array Value := #[.int .i64 n.f0, .int .i64 n.f1, .int .i64 n.f2, .int .i64 n.f3, .int .i64 n.f4, .int .i64 n.f5, .int .i64 pl, vl, vr]
def Rep (S : Nat → Prop) (w : World) : Value → Tr → Prop
 | v, .nil => v = .pointer none
 | v, .node n pl l r => ∃ b vl vr, v = .pointer (some ⟨b, 0, none⟩) ∧ w.heap[b]? = some (.cells (ndCells n pl vl vr) 66 (0, 0)) ∧ Rep S w vl l ∧ Rep S w vr r ∧ S b
variable {S : Nat → Prop}
theorem Rep.keptS {S : Nat → Prop} {w w' : World} (hk : ∀ k, S k → k < w.heap.size → w'.heap[k]? = w.heap[k]?) : ∀ {v : Value} {T : Tr}, Rep S w v T → Rep S w' v T
 | _, .nil, h => h
 | _, .node .., ⟨b, vl, vr, e, hb, hl, hr, hs⟩ => ⟨b, vl, vr, e, (hk b hs (Array.getElem?_eq_some_iff.1 hb).1).trans hb, hl.keptS hk, hr.keptS hk, hs⟩
theorem Rep.kept {S : Nat → Prop} {w w' : World} {v : Value} {T : Tr} (hk : ∀ k, k < w.heap.size → w'.heap[k]? = w.heap[k]?) (h : Rep S w v T) : Rep S w' v T := Rep.keptS (fun k _ => hk k) h
theorem Rep.mono {S S' : Nat → Prop} {w : World} (hs : ∀ k, S k → S' k) : ∀ {v : Value} {T : Tr}, Rep S w v T → Rep S' w v T
 | _, .nil, h => h
 | _, .node .., ⟨b, vl, vr, e, hb, hl, hr, h⟩ => ⟨b, vl, vr, e, hb, hl.mono hs, hr.mono hs, hs b h⟩
theorem Rep.bound {S : Nat → Prop} {w : World} : ∀ {v : Value} {T : Tr}, Rep S w v T → Rep (fun k => S k ∧ k < w.heap.size) w v T
 | _, .nil, h => h
 | _, .node .., ⟨b, vl, vr, e, hb, hl, hr, h⟩ => ⟨b, vl, vr, e, hb, hl.bound, hr.bound, h, (Array.getElem?_eq_some_iff.1 hb).1⟩
theorem Rep.below {S : Nat → Prop} {w w' : World} {v : Value} {T : Tr} (h : Rep S w v T) (hb : Below w.heap.size w w') : Rep S w' v T := h.kept (fun k hk => hb.block k hk)
theorem Rep.ptr {S : Nat → Prop} {w : World} {v : Value} : ∀ {T : Tr}, Rep S w v T → ∃ p, v = .pointer p
 | .nil, h => ⟨none, h⟩
 | .node .., ⟨b, _, _, e, _⟩ => ⟨some ⟨b, 0, none⟩, e⟩
def wt : Tr → Int
 | .nil => -1
 | .node n _ _ _ => n.f2
def lT (m : Bool) : Tr → Tr
 | .nil => .nil
 | .node _ _ l r => if m then r else l
def rT (m : Bool) : Tr → Tr
 | .nil => .nil
 | .node _ _ l r => if m then l else r
theorem cell_of {w : World} {b : Nat} {c : Array Value} {t : TypeId} (h : w.heap[b]? = some (.cells c t (0, 0))) (i : Nat) : w.cell? ⟨b, i, none⟩ = c[i]? := by simp [World.cell?, h]
theorem weight_any (v : Value) (T : Tr) (w : World) (h : Rep S w v T) :
  Calls Tryd.prog 39 #[v] w fun e w' => e = .returned (.int .i64 (wt T)) ∧ w' = w := by
 cases T with
 | nil =>
  obtain rfl := h
  go_enter Tryd.func39, Tryd.ntmps39
  go_wp2
  go_ret
  exact ⟨rfl, rfl⟩
 | node n pl l r =>
  obtain ⟨b, vl, vr, rfl, hb, _, _, _⟩ := h
  have hc : w.cell? ⟨b, 2, none⟩ = some (.int .i64 n.f2) := (cell_of hb 2).trans rfl
  clear hb
  go_enter Tryd.func39, Tryd.ntmps39
  go_wp2
  go_ret
  exact ⟨rfl, rfl⟩
theorem red_any (v : Value) (T : Tr) (w : World) (h : Rep S w v T) :
  Calls Tryd.prog 34 #[v] w fun e w' => e = .returned (.bool (wt T == 0)) ∧ w' = w := by
 have H := Am h
 clear h
 go_enter Tryd.func34, Tryd.ntmps34
 go_wp2_with (go_at_call 39; refine (weight_any _ _ _ H.out).mono ?_; rintro e w' ⟨rfl, rfl⟩)
 go_ret
 exact ⟨rfl, rfl⟩
theorem black_any (v : Value) (T : Tr) (w : World) (h : Rep S w v T) :
  Calls Tryd.prog 35 #[v] w fun e w' => e = .returned (.bool (decide (0 < wt T))) ∧ w' = w := by
 have H := Am h
 clear h
 go_enter Tryd.func35, Tryd.ntmps35
 go_wp2_with (go_at_call 39; refine (weight_any _ _ _ H.out).mono ?_; rintro e w' ⟨rfl, rfl⟩)
 go_ret
 exact ⟨rfl, rfl⟩
theorem over_any (v : Value) (T : Tr) (w : World) (h : Rep S w v T) :
  Calls Tryd.prog 37 #[v] w fun e w' => e = .returned (.bool (decide (1 < wt T))) ∧ w' = w := by
 have H := Am h
 clear h
 go_enter Tryd.func37, Tryd.ntmps37
 go_wp2_with (go_at_call 39; refine (weight_any _ _ _ H.out).mono ?_; rintro e w' ⟨rfl, rfl⟩)
 go_ret
 exact ⟨rfl, rfl⟩
theorem one_any (v : Value) (T : Tr) (w : World) (h : Rep S w v T) :
  Calls Tryd.prog 38 #[v] w fun e w' => e = .returned (.bool (wt T == 1)) ∧ w' = w := by
 have H := Am h
 clear h
 go_enter Tryd.func38, Tryd.ntmps38
 go_wp2_with (go_at_call 39; refine (weight_any _ _ _ H.out).mono ?_; rintro e w' ⟨rfl, rfl⟩)
 go_ret
 exact ⟨rfl, rfl⟩
def innerB : Tr → Bool
 | .nil => false
 | .node _ _ .nil _ => false
 | .node _ _ (.node ..) _ => true
theorem inner_any (v : Value) (T : Tr) (w : World) (h : Rep S w v T) :
  Calls Tryd.prog 36 #[v] w fun e w' => e = .returned (.bool (innerB T)) ∧ w' = w := by
 cases T with
 | nil =>
  obtain rfl := h
  unfold innerB
  go_enter Tryd.func36, Tryd.ntmps36
  go_wp2
  go_ret
  exact ⟨rfl, rfl⟩
 | node n pl l r =>
  obtain ⟨b, vl, vr, rfl, hb, hl, _, _⟩ := h
  have hc : w.cell? ⟨b, 7, none⟩ = some vl := (cell_of hb 7).trans rfl
  clear hb
  cases l with
  | nil =>
   obtain rfl := hl
   unfold innerB
   go_enter Tryd.func36, Tryd.ntmps36
   go_wp2
   go_ret
   exact ⟨rfl, rfl⟩
  | node n' pl' l' r' =>
   obtain ⟨b', _, _, rfl, _⟩ := hl
   unfold innerB
   go_enter Tryd.func36, Tryd.ntmps36
   go_wp2
   go_ret
   exact ⟨rfl, rfl⟩
theorem left_any (m rt : Bool) (x1 x2 x3 x4 x5 x6 x7 x8 x9 v : Value) (T : Tr) (w0 w : World) (h : Rep S w0 v T) (h0 : Below w0.heap.size w0 w) :
  Calls Tryd.prog 32 #[.agg #[.bool m, x1, x2, x3, x4, x5, x6, x7, x8, x9, .bool rt], v] w fun e w' => ∃ v', e = .returned v' ∧ Rep S w0 v' (lT m T) ∧ Below w.heap.size w w' := by
 have hu111 := Tryd.underlying62
 cases T with
 | nil =>
  obtain rfl := h
  go_enter Tryd.func32, Tryd.ntmps32
  go_wp2
  go_ret
  exact ⟨_, rfl, rfl, (Below.refl _ _).alloc (Nat.le_refl _) _⟩
 | node n pl l r =>
  obtain ⟨b, vl, vr, rfl, hb, hl, hr, _⟩ := h
  have hblt := (Array.getElem?_eq_some_iff.1 hb).1
  have hc7 : w.cell? ⟨b, 7, none⟩ = some vl := (h0.cell (p := ⟨b, 7, none⟩) hblt).trans ((cell_of hb 7).trans rfl)
  have hc8 : w.cell? ⟨b, 8, none⟩ = some vr := (h0.cell (p := ⟨b, 8, none⟩) hblt).trans ((cell_of hb 8).trans rfl)
  have HL := Am hl
  have HR := Am hr
  have hblw := Nat.lt_of_lt_of_le hblt h0.size
  clear hb hl hr h0 hblt
  cases m with
  | true =>
   have hfin : ∀ w', Below w.heap.size w w' → ∃ v', Ending.returned vr = .returned v' ∧ Rep S w0 v' (lT true (.node n pl l r)) ∧ Below w.heap.size w w' := fun w' hb => ⟨_, rfl, HR.out, hb⟩
   have HF := Am hfin
   clear hfin
   go_enter Tryd.func32, Tryd.ntmps32
   go_wp2
   go_ret
   exact HF.out _ ((Below.refl _ _).alloc (Nat.le_refl _) _)
  | false =>
   have hfin : ∀ w', Below w.heap.size w w' → ∃ v', Ending.returned vl = .returned v' ∧ Rep S w0 v' (lT false (.node n pl l r)) ∧ Below w.heap.size w w' := fun w' hb => ⟨_, rfl, HL.out, hb⟩
   have HF := Am hfin
   clear hfin
   go_enter Tryd.func32, Tryd.ntmps32
   go_wp2
   go_ret
   exact HF.out _ ((Below.refl _ _).alloc (Nat.le_refl _) _)
theorem right_any (m rt : Bool) (x1 x2 x3 x4 x5 x6 x7 x8 x9 v : Value) (T : Tr) (w0 w : World) (h : Rep S w0 v T) (h0 : Below w0.heap.size w0 w) :
  Calls Tryd.prog 33 #[.agg #[.bool m, x1, x2, x3, x4, x5, x6, x7, x8, x9, .bool rt], v] w fun e w' => ∃ v', e = .returned v' ∧ Rep S w0 v' (rT m T) ∧ Below w.heap.size w w' := by
 have hu111 := Tryd.underlying62
 cases T with
 | nil =>
  obtain rfl := h
  go_enter Tryd.func33, Tryd.ntmps33
  go_wp2
  go_ret
  exact ⟨_, rfl, rfl, (Below.refl _ _).alloc (Nat.le_refl _) _⟩
 | node n pl l r =>
  obtain ⟨b, vl, vr, rfl, hb, hl, hr, _⟩ := h
  have hblt := (Array.getElem?_eq_some_iff.1 hb).1
  have hc7 : w.cell? ⟨b, 7, none⟩ = some vl := (h0.cell (p := ⟨b, 7, none⟩) hblt).trans ((cell_of hb 7).trans rfl)
  have hc8 : w.cell? ⟨b, 8, none⟩ = some vr := (h0.cell (p := ⟨b, 8, none⟩) hblt).trans ((cell_of hb 8).trans rfl)
  have HL := Am hl
  have HR := Am hr
  have hblw := Nat.lt_of_lt_of_le hblt h0.size
  clear hb hl hr h0 hblt
  cases m with
  | true =>
   have hfin : ∀ w', Below w.heap.size w w' → ∃ v', Ending.returned vl = .returned v' ∧ Rep S w0 v' (rT true (.node n pl l r)) ∧ Below w.heap.size w w' := fun w' hb => ⟨_, rfl, HL.out, hb⟩
   have HF := Am hfin
   clear hfin
   go_enter Tryd.func33, Tryd.ntmps33
   go_wp2
   go_ret
   exact HF.out _ ((Below.refl _ _).alloc (Nat.le_refl _) _)
  | false =>
   have hfin : ∀ w', Below w.heap.size w w' → ∃ v', Ending.returned vr = .returned v' ∧ Rep S w0 v' (rT false (.node n pl l r)) ∧ Below w.heap.size w w' := fun w' hb => ⟨_, rfl, HR.out, hb⟩
   have HF := Am hfin
   clear hfin
   go_enter Tryd.func33, Tryd.ntmps33
   go_wp2
   go_ret
   exact HF.out _ ((Below.refl _ _).alloc (Nat.le_refl _) _)
end
section
variable {S : Nat → Prop}
def TopRep (S : Nat → Prop) (w w' : World) (v : Value) (T : Tr) : Prop := ∃ b n pl L R vl vr, v = .pointer (some ⟨b, 0, none⟩) ∧ T = .node n pl L R ∧ w.heap.size ≤ b ∧ w'.heap[b]? = some (.cells (ndCells n pl vl vr) 66 (0, 0)) ∧ Rep S w vl L ∧ Rep S w vr R ∧ S b
theorem TopRep.rep {w w' : World} {v : Value} {T : Tr} (h : TopRep S w w' v T) (hb : Below w.heap.size w w') : Rep S w' v T := by
 obtain ⟨b, n, pl, L, R, vl, vr, rfl, rfl, _, h1, h2, h3, h4⟩ := h
 exact ⟨b, vl, vr, rfl, h1, h2.below hb, h3.below hb, h4⟩
theorem TopRep.ptr {w w' : World} {v : Value} {T : Tr} (h : TopRep S w w' v T) : ∃ p, v = .pointer p := by
 obtain ⟨b, n, pl, L, R, vl, vr, rfl, _⟩ := h
 exact ⟨_, rfl⟩
def asT (x : Int) : Tr → Tr
 | .nil => .nil
 | .node n _ l r => .node ⟨n.f0, n.f1, x, n.f3, n.f4, n.f5⟩ 0 l r
theorem as_any (v : Value) (n : S34) (pl : Int) (l r : Tr) (x : Int) (w : World) (hS : ∀ k, w.heap.size ≤ k → S k) (h : Rep S w v (.node n pl l r)) :
  Calls Tryd.prog 41 #[v, .int .i64 x] w fun e w' => ∃ v', e = .returned v' ∧ TopRep S w w' v' (asT x (.node n pl l r)) ∧ Below w.heap.size w w' := by
 have hu34 := Tryd.underlying50
 have hu116 := Tryd.underlying66
 obtain ⟨b, vl, vr, rfl, hb, hl, hr, _⟩ := h
 have hblt := (Array.getElem?_eq_some_iff.1 hb).1
 have hc0 : w.cell? ⟨b, 0, none⟩ = some (.int .i64 n.f0) := (cell_of hb 0).trans rfl
 have hc1 : w.cell? ⟨b, 1, none⟩ = some (.int .i64 n.f1) := (cell_of hb 1).trans rfl
 have hc2 : w.cell? ⟨b, 2, none⟩ = some (.int .i64 n.f2) := (cell_of hb 2).trans rfl
 have hc3 : w.cell? ⟨b, 3, none⟩ = some (.int .i64 n.f3) := (cell_of hb 3).trans rfl
 have hc4 : w.cell? ⟨b, 4, none⟩ = some (.int .i64 n.f4) := (cell_of hb 4).trans rfl
 have hc5 : w.cell? ⟨b, 5, none⟩ = some (.int .i64 n.f5) := (cell_of hb 5).trans rfl
 have hc7 : w.cell? ⟨b, 7, none⟩ = some vl := (cell_of hb 7).trans rfl
 have hc8 : w.cell? ⟨b, 8, none⟩ = some vr := (cell_of hb 8).trans rfl
 have HL := Am hl
 have HR := Am hr
 obtain ⟨pL, epL⟩ := hl.ptr
 obtain ⟨pR, epR⟩ := hr.ptr
 subst epL
 subst epR
 have HSS := Am hS
 clear hb hl hr hS
 go_enter Tryd.func41, Tryd.ntmps41
 go_wp2
 go_region
 go_wp2
 go_ret
 have hB : Below w.heap.size w (w.alloc (.cells (ndCells ⟨n.f0, n.f1, x, n.f3, n.f4, n.f5⟩ 0 (.pointer pL) (.pointer pR)) 66)).drew := ((Below.refl _ _).alloc (Nat.le_refl _) _).drew
 exact ⟨_, rfl, ⟨w.heap.size, _, _, _, _, _, _, rfl, rfl, Nat.le_refl _, heap_alloc_new w _, HL.out, HR.out, HSS.out _ (Nat.le_refl _)⟩, hB⟩
def lessT (T : Tr) : Tr := asT (wrap64 (wt T - 1)) T
theorem less_any (v : Value) (n : S34) (pl : Int) (l r : Tr) (w : World) (hS : ∀ k, w.heap.size ≤ k → S k) (h : Rep S w v (.node n pl l r)) :
  Calls Tryd.prog 42 #[v] w fun e w' => ∃ v', e = .returned v' ∧ TopRep S w w' v' (lessT (.node n pl l r)) ∧ Below w.heap.size w w' := by
 have H := Am h
 have HSS := Am hS
 clear h hS
 go_enter Tryd.func42, Tryd.ntmps42
 go_wp2_with (fail)
 refine (weight_any _ _ _ H.out).mono ?_
 rintro e w' ⟨rfl, rfl⟩
 go_wp2_with (fail)
 refine (as_any _ _ _ _ _ _ _ HSS.out H.out).mono ?_
 rintro e w' ⟨v', rfl, h1, h2⟩
 obtain ⟨p, rfl⟩ := h1.ptr
 have H1 := Am h1
 have H2 := Am h2
 clear h1 h2
 go_wp2
 go_ret
 exact ⟨_, rfl, H1.out, H2.out⟩
def putT (m : Bool) (key x : Int) (L R : Tr) : Tr := .node ⟨key, 0, x, 0, 0, 0⟩ 0 (if m then R else L) (if m then L else R)
theorem put_any (m rt : Bool) (x1 x2 x3 x4 x5 x6 x7 x8 x9 vk vl vr : Value) (n : S34) (pl : Int) (lk rk : Tr) (x : Int) (L R : Tr) (w : World) (hS : ∀ k, w.heap.size ≤ k → S k) (h : Rep S w vk (.node n pl lk rk)) (hl : Rep S w vl L) (hr : Rep S w vr R) :
  Calls Tryd.prog 40 #[.agg #[.bool m, x1, x2, x3, x4, x5, x6, x7, x8, x9, .bool rt], vk, .int .i64 x, vl, vr] w fun e w' => ∃ v', e = .returned v' ∧ TopRep S w w' v' (putT m n.f0 x L R) ∧ Below w.heap.size w w' := by
 have hu34 := Tryd.underlying50
 have hu116 := Tryd.underlying66
 have hu111 := Tryd.underlying62
 obtain ⟨b, kl, kr, rfl, hb, _, _, _⟩ := h
 have hblt := (Array.getElem?_eq_some_iff.1 hb).1
 have hc0 : w.cell? ⟨b, 0, none⟩ = some (.int .i64 n.f0) := (cell_of hb 0).trans rfl
 have HL := Am hl
 have HR := Am hr
 obtain ⟨pL, epL⟩ := hl.ptr
 obtain ⟨pR, epR⟩ := hr.ptr
 subst epL
 subst epR
 have HSS := Am hS
 clear hb hl hr hS
 cases m with
 | false =>
  go_enter Tryd.func40, Tryd.ntmps40
  go_wp2
  go_ret
  have hB : Below w.heap.size w ((w.alloc (.cells #[.bool false, x1, x2, x3, x4, x5, x6, x7, x8, x9, .bool rt] 62)).alloc (.cells (ndCells ⟨n.f0, 0, x, 0, 0, 0⟩ 0 (.pointer pL) (.pointer pR)) 66)) := ((Below.refl _ _).alloc (Nat.le_refl _) _).alloc (by simp) _
  exact ⟨_, rfl, ⟨w.heap.size + 1, _, _, _, _, _, _, rfl, rfl, Nat.le_succ _, by have := heap_alloc_new (w.alloc (.cells #[.bool false, x1, x2, x3, x4, x5, x6, x7, x8, x9, .bool rt] 62)) (.cells (ndCells ⟨n.f0, 0, x, 0, 0, 0⟩ 0 (.pointer pL) (.pointer pR)) 66); rw [World.size_alloc] at this; exact this, HL.out, HR.out, HSS.out _ (Nat.le_succ _)⟩, hB⟩
 | true =>
  go_enter Tryd.func40, Tryd.ntmps40
  go_wp2
  go_ret
  have hB : Below w.heap.size w ((w.alloc (.cells #[.bool true, x1, x2, x3, x4, x5, x6, x7, x8, x9, .bool rt] 62)).alloc (.cells (ndCells ⟨n.f0, 0, x, 0, 0, 0⟩ 0 (.pointer pR) (.pointer pL)) 66)) := ((Below.refl _ _).alloc (Nat.le_refl _) _).alloc (by simp) _
  exact ⟨_, rfl, ⟨w.heap.size + 1, _, _, _, _, _, _, rfl, rfl, Nat.le_succ _, by have := heap_alloc_new (w.alloc (.cells #[.bool true, x1, x2, x3, x4, x5, x6, x7, x8, x9, .bool rt] 62)) (.cells (ndCells ⟨n.f0, 0, x, 0, 0, 0⟩ 0 (.pointer pR) (.pointer pL)) 66); rw [World.size_alloc] at this; exact this, HR.out, HL.out, HSS.out _ (Nat.le_succ _)⟩, hB⟩
end
section
variable {S : Nat → Prop}
def LookPost (S : Nat → Prop) (w : World) (p : Option Addr) (T : Tr) (m rt : Bool) (e : Ending) (w' : World) : Prop :=
 ∃ pl pr pll plr prl prr pa pb, e = .returned (.agg #[.bool m, .pointer p, .pointer pl, .pointer pr, .pointer pll, .pointer plr, .pointer prl, .pointer prr, .pointer pa, .pointer pb, .bool rt]) ∧ Below w.heap.size w w' ∧
  Rep S w (.pointer pl) (lT m T) ∧ Rep S w (.pointer pr) (rT m T) ∧ Rep S w (.pointer pll) (lT m (lT m T)) ∧ Rep S w (.pointer plr) (rT m (lT m T)) ∧ Rep S w (.pointer prl) (lT m (rT m T)) ∧ Rep S w (.pointer prr) (rT m (rT m T)) ∧
  Rep S w (.pointer pa) (lT m (lT m (rT m T))) ∧ Rep S w (.pointer pb) (rT m (lT m (rT m T)))
theorem frz_of {w : World} {b : Nat} {c : Array Value} {t : TypeId} (h : w.heap[b]? = some (.cells c t (0, 0))) (i : Nat) : w.frozen? ⟨b, i, none⟩ = false := by simp [World.frozen?, h]
theorem cell_al {W : World} {a : Addr} {v : Value} (o : Obj) (h : W.cell? a = some v) : (W.alloc o).cell? a = some v := (World.cell?_alloc_lt _ _ _ (blt W a h)).trans h
theorem put_blk {w : World} {g : Nat} {cs : Array Value} {t : TypeId} (h : w.heap[g]? = some (.cells cs t (0, 0))) (i : Nat) (v : Value) : (w.setCell ⟨g, i, none⟩ v).heap[g]? = some (.cells (cs.setIfInBounds i v) t (0, 0)) := by
 simp [World.setCell, Array.getElem?_modify, h]
theorem put_blk_ne {w : World} {g k : Nat} (h : k ≠ g) (i : Nat) (v : Value) : (w.setCell ⟨g, i, none⟩ v).heap[k]? = w.heap[k]? := Below.heap_setCell w ⟨g, i, none⟩ v k h
theorem put11 {w : World} {g : Nat} {t : TypeId} {c0 c1 c2 c3 c4 c5 c6 c7 c8 c9 c10 : Value} (h : w.heap[g]? = some (.cells #[c0, c1, c2, c3, c4, c5, c6, c7, c8, c9, c10] t (0, 0))) (v0 v1 v2 v3 v4 v5 v6 v7 v8 v9 v10 : Value) :
  ((((((((((((w.setCell ⟨g, 0, none⟩ v0).setCell ⟨g, 1, none⟩ v1).setCell ⟨g, 2, none⟩ v2).setCell ⟨g, 3, none⟩ v3).setCell ⟨g, 4, none⟩ v4).setCell ⟨g, 5, none⟩ v5).setCell ⟨g, 6, none⟩ v6).setCell ⟨g, 7, none⟩ v7).setCell ⟨g, 8, none⟩ v8).setCell ⟨g, 9, none⟩ v9).setCell ⟨g, 10, none⟩ v10).heap[g]? = some (.cells #[v0, v1, v2, v3, v4, v5, v6, v7, v8, v9, v10] t (0, 0))) := by
 have h0 := put_blk h 0 v0
 simp only [sI, sZ, sS] at h0
 have h1 := put_blk h0 1 v1
 simp only [sI, sZ, sS] at h1
 have h2 := put_blk h1 2 v2
 simp only [sI, sZ, sS] at h2
 have h3 := put_blk h2 3 v3
 simp only [sI, sZ, sS] at h3
 have h4 := put_blk h3 4 v4
 simp only [sI, sZ, sS] at h4
 have h5 := put_blk h4 5 v5
 simp only [sI, sZ, sS] at h5
 have h6 := put_blk h5 6 v6
 simp only [sI, sZ, sS] at h6
 have h7 := put_blk h6 7 v7
 simp only [sI, sZ, sS] at h7
 have h8 := put_blk h7 8 v8
 simp only [sI, sZ, sS] at h8
 have h9 := put_blk h8 9 v9
 simp only [sI, sZ, sS] at h9
 have h10 := put_blk h9 10 v10
 simp only [sI, sZ, sS] at h10
 exact h10
theorem below11 {B : Nat} {a w : World} {g : Nat} (h : Below B a w) (hg : B ≤ g) (v0 v1 v2 v3 v4 v5 v6 v7 v8 v9 v10 : Value) : Below B a (((((((((((w.setCell ⟨g, 0, none⟩ v0).setCell ⟨g, 1, none⟩ v1).setCell ⟨g, 2, none⟩ v2).setCell ⟨g, 3, none⟩ v3).setCell ⟨g, 4, none⟩ v4).setCell ⟨g, 5, none⟩ v5).setCell ⟨g, 6, none⟩ v6).setCell ⟨g, 7, none⟩ v7).setCell ⟨g, 8, none⟩ v8).setCell ⟨g, 9, none⟩ v9).setCell ⟨g, 10, none⟩ v10) := (((((((((((h.setCell (p := ⟨g, 0, none⟩) hg v0).setCell (p := ⟨g, 1, none⟩) hg v1).setCell (p := ⟨g, 2, none⟩) hg v2).setCell (p := ⟨g, 3, none⟩) hg v3).setCell (p := ⟨g, 4, none⟩) hg v4).setCell (p := ⟨g, 5, none⟩) hg v5).setCell (p := ⟨g, 6, none⟩) hg v6).setCell (p := ⟨g, 7, none⟩) hg v7).setCell (p := ⟨g, 8, none⟩) hg v8).setCell (p := ⟨g, 9, none⟩) hg v9).setCell (p := ⟨g, 10, none⟩) hg v10)
theorem look_fin {w w5 : World} {T : Tr} {m rt : Bool} {p pl pr pll plr prl prr pa pb : Option Addr} {g6 : Nat} (hb : Below w.heap.size w w5) (_h6 : w.heap.size ≤ g6) (h1 : Rep S w (.pointer pl) (lT m T)) (h2 : Rep S w (.pointer pr) (rT m T)) (h3 : Rep S w (.pointer pll) (lT m (lT m T))) (h4 : Rep S w (.pointer plr) (rT m (lT m T)))
  (h5 : Rep S w (.pointer prl) (lT m (rT m T))) (h6 : Rep S w (.pointer prr) (rT m (rT m T))) (h7 : Rep S w (.pointer pa) (lT m (lT m (rT m T)))) (h8 : Rep S w (.pointer pb) (rT m (lT m (rT m T)))) :
  ∀ w', Below w.heap.size w w' → LookPost S w p T m rt (.returned (.agg #[.bool m, .pointer p, .pointer pl, .pointer pr, .pointer pll, .pointer plr, .pointer prl, .pointer prr, .pointer pa, .pointer pb, .bool rt])) w' :=
 fun _ hb' => ⟨pl, pr, pll, plr, prl, prr, pa, pb, rfl, hb', h1, h2, h3, h4, h5, h6, h7, h8⟩
theorem look_any (p : Option Addr) (T : Tr) (k : Int) (m rt : Bool) (w : World) (h : Rep S w (.pointer p) T) :
  Calls Tryd.prog 24 #[.pointer p, .agg #[.int .i64 k, .bool m], .bool rt] w fun e w' => LookPost S w p T m rt e w' := by
 have hu62 := Tryd.underlying32
 have hu111 := Tryd.underlying62
 have HRp := Am h
 clear h
 go_enter Tryd.func24, Tryd.ntmps24
 go_wp2
 have HV : Aside0 ((((w.alloc (.cells #[.int .i64 k, .bool m] 32)).alloc (.cells #[.bool false, .pointer none, .pointer none, .pointer none, .pointer none, .pointer none, .pointer none, .pointer none, .pointer none, .pointer none, .bool false] 62)).alloc (.cells #[.bool m, .pointer p, .pointer none, .pointer none, .pointer none, .pointer none, .pointer none, .pointer none, .pointer none, .pointer none, .bool rt] 62)).heap[w.heap.size + 1 + 1]? = some (.cells #[.bool m, .pointer p, .pointer none, .pointer none, .pointer none, .pointer none, .pointer none, .pointer none, .pointer none, .pointer none, .bool rt] 62 (0, 0))) := ⟨by have := heap_alloc_new ((w.alloc (.cells #[.int .i64 k, .bool m] 32)).alloc (.cells #[.bool false, .pointer none, .pointer none, .pointer none, .pointer none, .pointer none, .pointer none, .pointer none, .pointer none, .pointer none, .bool false] 62)) (.cells #[.bool m, .pointer p, .pointer none, .pointer none, .pointer none, .pointer none, .pointer none, .pointer none, .pointer none, .pointer none, .bool rt] 62); rw [World.size_alloc, World.size_alloc] at this; exact this⟩
 have HG : Aside0 ((((w.alloc (.cells #[.int .i64 k, .bool m] 32)).alloc (.cells #[.bool false, .pointer none, .pointer none, .pointer none, .pointer none, .pointer none, .pointer none, .pointer none, .pointer none, .pointer none, .bool false] 62)).alloc (.cells #[.bool m, .pointer p, .pointer none, .pointer none, .pointer none, .pointer none, .pointer none, .pointer none, .pointer none, .pointer none, .bool rt] 62)).heap[w.heap.size + 1]? = some (.cells #[.bool false, .pointer none, .pointer none, .pointer none, .pointer none, .pointer none, .pointer none, .pointer none, .pointer none, .pointer none, .bool false] 62)) := ⟨by rw [Below.heap_alloc _ _ _ (by simp)]; have := heap_alloc_new (w.alloc (.cells #[.int .i64 k, .bool m] 32)) (.cells #[.bool false, .pointer none, .pointer none, .pointer none, .pointer none, .pointer none, .pointer none, .pointer none, .pointer none, .pointer none, .bool false] 62); rw [World.size_alloc] at this; exact this⟩
 have HB : Aside0 (Below w.heap.size w (((w.alloc (.cells #[.int .i64 k, .bool m] 32)).alloc (.cells #[.bool false, .pointer none, .pointer none, .pointer none, .pointer none, .pointer none, .pointer none, .pointer none, .pointer none, .pointer none, .bool false] 62)).alloc (.cells #[.bool m, .pointer p, .pointer none, .pointer none, .pointer none, .pointer none, .pointer none, .pointer none, .pointer none, .pointer none, .bool rt] 62))) := ⟨(((Below.refl _ _).alloc (Nat.le_refl _) _).alloc (by simp) _).alloc (by simp; omega) _⟩
 have HGE : Aside0 (w.heap.size ≤ w.heap.size + 1 + 1) := ⟨by omega⟩
 have HG6 : Aside0 (w.heap.size ≤ w.heap.size + 1) := ⟨by omega⟩
 have HNE : Aside0 (w.heap.size + 1 ≠ w.heap.size + 1 + 1) := ⟨by omega⟩
 generalize ((w.alloc (.cells #[.int .i64 k, .bool m] 32)).alloc (.cells #[.bool false, .pointer none, .pointer none, .pointer none, .pointer none, .pointer none, .pointer none, .pointer none, .pointer none, .pointer none, .bool false] 62)).alloc (.cells #[.bool m, .pointer p, .pointer none, .pointer none, .pointer none, .pointer none, .pointer none, .pointer none, .pointer none, .pointer none, .bool rt] 62) = w1 at HV HG HB ⊢
 generalize w.heap.size + 1 + 1 = g at HV HGE HNE ⊢
 generalize w.heap.size + 1 = g6 at HG HG6 HNE ⊢
 have HB0 := Am (bd HB.out)
 have HV0 : Aside0 (w1.drew.heap[g]? = some (.cells #[.bool m, .pointer p, .pointer none, .pointer none, .pointer none, .pointer none, .pointer none, .pointer none, .pointer none, .pointer none, .bool rt] 62 (0, 0))) := ⟨HV.out⟩
 have HG0 : Aside0 (w1.drew.heap[g6]? = some (.cells #[.bool false, .pointer none, .pointer none, .pointer none, .pointer none, .pointer none, .pointer none, .pointer none, .pointer none, .pointer none, .bool false] 62)) := ⟨HG.out⟩
 clear HB HV HG
 refine sT 10 [7, 9] (S := fun w' => w'.cell? ⟨g, 0, none⟩ = some (.bool m) ∧ w'.cell? ⟨g, 1, none⟩ = some (.pointer p) ∧ w'.cell? ⟨g, 2, none⟩ = some (.pointer none) ∧ w'.cell? ⟨g, 3, none⟩ = some (.pointer none) ∧ w'.cell? ⟨g, 4, none⟩ = some (.pointer none) ∧ w'.cell? ⟨g, 5, none⟩ = some (.pointer none) ∧ w'.cell? ⟨g, 6, none⟩ = some (.pointer none) ∧ w'.cell? ⟨g, 7, none⟩ = some (.pointer none) ∧ w'.cell? ⟨g, 8, none⟩ = some (.pointer none) ∧ w'.cell? ⟨g, 9, none⟩ = some (.pointer none) ∧ w'.cell? ⟨g, 10, none⟩ = some (.bool rt)) (vc11 HV0.out) fun hHeld => ?_
 refine pu 1 14 ?_
 refine pu 4 17 ?_
 refine ta 0 13 hHeld ?_
 refine ta 3 16 hHeld ?_
 refine on 2 15 fun K hK => ?_
 refine goes_ Tryd.func32 (by kernel_rfl) rfl #[.agg #[.bool m, .pointer p, .pointer none, .pointer none, .pointer none, .pointer none, .pointer none, .pointer none, .pointer none, .pointer none, .bool rt], .pointer p] (by rfl) rfl rfl (by (try simp only [List.map_toArray, List.map_cons, List.map_nil]); first | done | rfl) ?_
 with_reducible refine (left_any _ _ _ _ _ _ _ _ _ _ _ _ _ w _ HRp.out HB0.out).mono ?_
 rintro e w21 ⟨v', rfl, h1, h2⟩
 obtain ⟨pl, rfl⟩ := h1.ptr
 have HRpl := Am h1
 have HB1 := Am (HB0.out.trans (h2.mono HB0.out.size))
 have HV1 := Am ((h2.block _ (Array.getElem?_eq_some_iff.1 HV0.out).1).trans HV0.out)
 have HG1 := Am ((h2.block _ (Array.getElem?_eq_some_iff.1 HG0.out).1).trans HG0.out)
 clear h1 h2 HB0 HV0 HG0
 refine ⟨_, rfl, ?_⟩
 refine hK.out _ _ (vc11 HV1.out) (fun hHeld => ?_)
 clear hK K
 refine nm 15 ?_
 refine pu 6 19 ?_
 refine on 5 18 fun K hK => ?_
 refine goes_ Tryd.func33 (by kernel_rfl) rfl #[.agg #[.bool m, .pointer p, .pointer none, .pointer none, .pointer none, .pointer none, .pointer none, .pointer none, .pointer none, .pointer none, .bool rt], .pointer p] (by rfl) rfl rfl (by (try simp only [List.map_toArray, List.map_cons, List.map_nil]); first | done | rfl) ?_
 with_reducible refine (right_any _ _ _ _ _ _ _ _ _ _ _ _ _ w _ HRp.out HB1.out).mono ?_
 rintro e w22 ⟨v', rfl, h1, h2⟩
 obtain ⟨pr, rfl⟩ := h1.ptr
 have HRpr := Am h1
 have HB2 := Am (HB1.out.trans (h2.mono HB1.out.size))
 have HV2 := Am ((h2.block _ (Array.getElem?_eq_some_iff.1 HV1.out).1).trans HV1.out)
 have HG2 := Am ((h2.block _ (Array.getElem?_eq_some_iff.1 HG1.out).1).trans HG1.out)
 clear h1 h2 HB1 HV1 HG1
 have hfa := frz_of HV2.out 2
 have hfb := frz_of HV2.out 3
 refine ⟨_, rfl, ?_⟩
 refine hK.out _ _ (vc11 HV2.out) (fun hHeld => ?_)
 clear hK K
 refine nm 18 ?_
 refine last_ (i := 7) (N := none) #[true, true, true, true, true, true, true, true, false, false] rfl rfl (by kernel_rfl) (by decide) (fun K hK => ?_)
 refine skip_ (w1 := ?_) (by rfl) rfl ?_ ?_
 rotate_left
 ·go_simp
  rfl
 refine hK.out _ _ ?_
 clear hK K
 refine pu 8 20 ?_
 refine last_ (i := 9) (N := none) #[true, true, true, true, true, true, true, true, true, true] rfl rfl (by kernel_rfl) (by decide) (fun K hK => ?_)
 refine skip_ (w1 := ?_) (by rfl) rfl ?_ ?_
 rotate_left
 ·go_simp
  rfl
 refine hK.out _ _ ?_
 clear hK K
 refine done_ (by kernel_rfl) ?_
 have HB := Am ((HB2.out.setCell (p := ⟨g, 2, none⟩) HGE.out (.pointer pl)).setCell (p := ⟨g, 3, none⟩) HGE.out (.pointer pr))
 have HV : Aside0 (((w22.setCell ⟨g, 2, none⟩ (.pointer pl)).setCell ⟨g, 3, none⟩ (.pointer pr)).heap[g]? = some (.cells #[.bool m, .pointer p, .pointer pl, .pointer pr, .pointer none, .pointer none, .pointer none, .pointer none, .pointer none, .pointer none, .bool rt] 62 (0, 0))) := ⟨put_blk (put_blk HV2.out 2 _) 3 _⟩
 have HG : Aside0 (((w22.setCell ⟨g, 2, none⟩ (.pointer pl)).setCell ⟨g, 3, none⟩ (.pointer pr)).heap[g6]? = some (.cells #[.bool false, .pointer none, .pointer none, .pointer none, .pointer none, .pointer none, .pointer none, .pointer none, .pointer none, .pointer none, .bool false] 62)) := ⟨(put_blk_ne HNE.out _ _).trans ((put_blk_ne HNE.out _ _).trans HG2.out)⟩
 clear HB2 HV2 HG2 hfa hfb
 try clear hHeld
 generalize ((w22.setCell ⟨g, 2, none⟩ (.pointer pl)).setCell ⟨g, 3, none⟩ (.pointer pr)) = w2 at HB HV HG ⊢
 obtain ⟨hv20, hv21, hv22, hv23, hv24, hv25, hv26, hv27, hv28, hv29, hv210⟩ := vc11 HV.out
 go_wp2
 clear hv20 hv21 hv22 hv23 hv24 hv25 hv26 hv27 hv28 hv29 hv210
 have HB0 := Am (bd HB.out)
 have HV0 : Aside0 (w2.drew.heap[g]? = some (.cells #[.bool m, .pointer p, .pointer pl, .pointer pr, .pointer none, .pointer none, .pointer none, .pointer none, .pointer none, .pointer none, .bool rt] 62 (0, 0))) := ⟨HV.out⟩
 have HG0 : Aside0 (w2.drew.heap[g6]? = some (.cells #[.bool false, .pointer none, .pointer none, .pointer none, .pointer none, .pointer none, .pointer none, .pointer none, .pointer none, .pointer none, .bool false] 62)) := ⟨HG.out⟩
 clear HB HV HG
 refine sT 12 [9, 11] (S := fun w' => w'.cell? ⟨g, 0, none⟩ = some (.bool m) ∧ w'.cell? ⟨g, 1, none⟩ = some (.pointer p) ∧ w'.cell? ⟨g, 2, none⟩ = some (.pointer pl) ∧ w'.cell? ⟨g, 3, none⟩ = some (.pointer pr) ∧ w'.cell? ⟨g, 4, none⟩ = some (.pointer none) ∧ w'.cell? ⟨g, 5, none⟩ = some (.pointer none) ∧ w'.cell? ⟨g, 6, none⟩ = some (.pointer none) ∧ w'.cell? ⟨g, 7, none⟩ = some (.pointer none) ∧ w'.cell? ⟨g, 8, none⟩ = some (.pointer none) ∧ w'.cell? ⟨g, 9, none⟩ = some (.pointer none) ∧ w'.cell? ⟨g, 10, none⟩ = some (.bool rt)) (vc11 HV0.out) fun hHeld => ?_
 refine pu 1 22 ?_
 refine pu 5 26 ?_
 refine ta 0 21 hHeld ?_
 refine ta 2 23 hHeld ?_
 refine ta 4 25 hHeld ?_
 refine ta 6 27 hHeld ?_
 refine on 3 24 fun K hK => ?_
 refine goes_ Tryd.func32 (by kernel_rfl) rfl #[.agg #[.bool m, .pointer p, .pointer pl, .pointer pr, .pointer none, .pointer none, .pointer none, .pointer none, .pointer none, .pointer none, .bool rt], .pointer pl] (by rfl) rfl rfl (by (try simp only [List.map_toArray, List.map_cons, List.map_nil]); first | done | rfl) ?_
 with_reducible refine (left_any _ _ _ _ _ _ _ _ _ _ _ _ _ w _ HRpl.out HB0.out).mono ?_
 rintro e w31 ⟨v', rfl, h1, h2⟩
 obtain ⟨pll, rfl⟩ := h1.ptr
 have HRpll := Am h1
 have HB1 := Am (HB0.out.trans (h2.mono HB0.out.size))
 have HV1 := Am ((h2.block _ (Array.getElem?_eq_some_iff.1 HV0.out).1).trans HV0.out)
 have HG1 := Am ((h2.block _ (Array.getElem?_eq_some_iff.1 HG0.out).1).trans HG0.out)
 clear h1 h2 HB0 HV0 HG0
 refine ⟨_, rfl, ?_⟩
 refine hK.out _ _ (vc11 HV1.out) (fun hHeld => ?_)
 clear hK K
 refine nm 24 ?_
 refine pu 8 29 ?_
 refine on 7 28 fun K hK => ?_
 refine goes_ Tryd.func33 (by kernel_rfl) rfl #[.agg #[.bool m, .pointer p, .pointer pl, .pointer pr, .pointer none, .pointer none, .pointer none, .pointer none, .pointer none, .pointer none, .bool rt], .pointer pl] (by rfl) rfl rfl (by (try simp only [List.map_toArray, List.map_cons, List.map_nil]); first | done | rfl) ?_
 with_reducible refine (right_any _ _ _ _ _ _ _ _ _ _ _ _ _ w _ HRpl.out HB1.out).mono ?_
 rintro e w32 ⟨v', rfl, h1, h2⟩
 obtain ⟨plr, rfl⟩ := h1.ptr
 have HRplr := Am h1
 have HB2 := Am (HB1.out.trans (h2.mono HB1.out.size))
 have HV2 := Am ((h2.block _ (Array.getElem?_eq_some_iff.1 HV1.out).1).trans HV1.out)
 have HG2 := Am ((h2.block _ (Array.getElem?_eq_some_iff.1 HG1.out).1).trans HG1.out)
 clear h1 h2 HB1 HV1 HG1
 have hfa := frz_of HV2.out 4
 have hfb := frz_of HV2.out 5
 refine ⟨_, rfl, ?_⟩
 refine hK.out _ _ (vc11 HV2.out) (fun hHeld => ?_)
 clear hK K
 refine nm 28 ?_
 refine last_ (i := 9) (N := none) #[true, true, true, true, true, true, true, true, true, true, false, false] rfl rfl (by kernel_rfl) (by decide) (fun K hK => ?_)
 refine skip_ (w1 := ?_) (by rfl) rfl ?_ ?_
 rotate_left
 ·go_simp
  rfl
 refine hK.out _ _ ?_
 clear hK K
 refine pu 10 30 ?_
 refine last_ (i := 11) (N := none) #[true, true, true, true, true, true, true, true, true, true, true, true] rfl rfl (by kernel_rfl) (by decide) (fun K hK => ?_)
 refine skip_ (w1 := ?_) (by rfl) rfl ?_ ?_
 rotate_left
 ·go_simp
  rfl
 refine hK.out _ _ ?_
 clear hK K
 refine done_ (by kernel_rfl) ?_
 have HB := Am ((HB2.out.setCell (p := ⟨g, 4, none⟩) HGE.out (.pointer pll)).setCell (p := ⟨g, 5, none⟩) HGE.out (.pointer plr))
 have HV : Aside0 (((w32.setCell ⟨g, 4, none⟩ (.pointer pll)).setCell ⟨g, 5, none⟩ (.pointer plr)).heap[g]? = some (.cells #[.bool m, .pointer p, .pointer pl, .pointer pr, .pointer pll, .pointer plr, .pointer none, .pointer none, .pointer none, .pointer none, .bool rt] 62 (0, 0))) := ⟨put_blk (put_blk HV2.out 4 _) 5 _⟩
 have HG : Aside0 (((w32.setCell ⟨g, 4, none⟩ (.pointer pll)).setCell ⟨g, 5, none⟩ (.pointer plr)).heap[g6]? = some (.cells #[.bool false, .pointer none, .pointer none, .pointer none, .pointer none, .pointer none, .pointer none, .pointer none, .pointer none, .pointer none, .bool false] 62)) := ⟨(put_blk_ne HNE.out _ _).trans ((put_blk_ne HNE.out _ _).trans HG2.out)⟩
 clear HB2 HV2 HG2 hfa hfb
 try clear hHeld
 generalize ((w32.setCell ⟨g, 4, none⟩ (.pointer pll)).setCell ⟨g, 5, none⟩ (.pointer plr)) = w3 at HB HV HG ⊢
 obtain ⟨hv30, hv31, hv32, hv33, hv34, hv35, hv36, hv37, hv38, hv39, hv310⟩ := vc11 HV.out
 go_wp2
 clear hv30 hv31 hv32 hv33 hv34 hv35 hv36 hv37 hv38 hv39 hv310
 have HB0 := Am (bd HB.out)
 have HV0 : Aside0 (w3.drew.heap[g]? = some (.cells #[.bool m, .pointer p, .pointer pl, .pointer pr, .pointer pll, .pointer plr, .pointer none, .pointer none, .pointer none, .pointer none, .bool rt] 62 (0, 0))) := ⟨HV.out⟩
 have HG0 : Aside0 (w3.drew.heap[g6]? = some (.cells #[.bool false, .pointer none, .pointer none, .pointer none, .pointer none, .pointer none, .pointer none, .pointer none, .pointer none, .pointer none, .bool false] 62)) := ⟨HG.out⟩
 clear HB HV HG
 refine sT 12 [9, 11] (S := fun w' => w'.cell? ⟨g, 0, none⟩ = some (.bool m) ∧ w'.cell? ⟨g, 1, none⟩ = some (.pointer p) ∧ w'.cell? ⟨g, 2, none⟩ = some (.pointer pl) ∧ w'.cell? ⟨g, 3, none⟩ = some (.pointer pr) ∧ w'.cell? ⟨g, 4, none⟩ = some (.pointer pll) ∧ w'.cell? ⟨g, 5, none⟩ = some (.pointer plr) ∧ w'.cell? ⟨g, 6, none⟩ = some (.pointer none) ∧ w'.cell? ⟨g, 7, none⟩ = some (.pointer none) ∧ w'.cell? ⟨g, 8, none⟩ = some (.pointer none) ∧ w'.cell? ⟨g, 9, none⟩ = some (.pointer none) ∧ w'.cell? ⟨g, 10, none⟩ = some (.bool rt)) (vc11 HV0.out) fun hHeld => ?_
 refine pu 1 32 ?_
 refine pu 5 36 ?_
 refine ta 0 31 hHeld ?_
 refine ta 2 33 hHeld ?_
 refine ta 4 35 hHeld ?_
 refine ta 6 37 hHeld ?_
 refine on 3 34 fun K hK => ?_
 refine goes_ Tryd.func32 (by kernel_rfl) rfl #[.agg #[.bool m, .pointer p, .pointer pl, .pointer pr, .pointer pll, .pointer plr, .pointer none, .pointer none, .pointer none, .pointer none, .bool rt], .pointer pr] (by rfl) rfl rfl (by (try simp only [List.map_toArray, List.map_cons, List.map_nil]); first | done | rfl) ?_
 with_reducible refine (left_any _ _ _ _ _ _ _ _ _ _ _ _ _ w _ HRpr.out HB0.out).mono ?_
 rintro e w41 ⟨v', rfl, h1, h2⟩
 obtain ⟨prl, rfl⟩ := h1.ptr
 have HRprl := Am h1
 have HB1 := Am (HB0.out.trans (h2.mono HB0.out.size))
 have HV1 := Am ((h2.block _ (Array.getElem?_eq_some_iff.1 HV0.out).1).trans HV0.out)
 have HG1 := Am ((h2.block _ (Array.getElem?_eq_some_iff.1 HG0.out).1).trans HG0.out)
 clear h1 h2 HB0 HV0 HG0
 refine ⟨_, rfl, ?_⟩
 refine hK.out _ _ (vc11 HV1.out) (fun hHeld => ?_)
 clear hK K
 refine nm 34 ?_
 refine pu 8 39 ?_
 refine on 7 38 fun K hK => ?_
 refine goes_ Tryd.func33 (by kernel_rfl) rfl #[.agg #[.bool m, .pointer p, .pointer pl, .pointer pr, .pointer pll, .pointer plr, .pointer none, .pointer none, .pointer none, .pointer none, .bool rt], .pointer pr] (by rfl) rfl rfl (by (try simp only [List.map_toArray, List.map_cons, List.map_nil]); first | done | rfl) ?_
 with_reducible refine (right_any _ _ _ _ _ _ _ _ _ _ _ _ _ w _ HRpr.out HB1.out).mono ?_
 rintro e w42 ⟨v', rfl, h1, h2⟩
 obtain ⟨prr, rfl⟩ := h1.ptr
 have HRprr := Am h1
 have HB2 := Am (HB1.out.trans (h2.mono HB1.out.size))
 have HV2 := Am ((h2.block _ (Array.getElem?_eq_some_iff.1 HV1.out).1).trans HV1.out)
 have HG2 := Am ((h2.block _ (Array.getElem?_eq_some_iff.1 HG1.out).1).trans HG1.out)
 clear h1 h2 HB1 HV1 HG1
 have hfa := frz_of HV2.out 6
 have hfb := frz_of HV2.out 7
 refine ⟨_, rfl, ?_⟩
 refine hK.out _ _ (vc11 HV2.out) (fun hHeld => ?_)
 clear hK K
 refine nm 38 ?_
 refine last_ (i := 9) (N := none) #[true, true, true, true, true, true, true, true, true, true, false, false] rfl rfl (by kernel_rfl) (by decide) (fun K hK => ?_)
 refine skip_ (w1 := ?_) (by rfl) rfl ?_ ?_
 rotate_left
 ·go_simp
  rfl
 refine hK.out _ _ ?_
 clear hK K
 refine pu 10 40 ?_
 refine last_ (i := 11) (N := none) #[true, true, true, true, true, true, true, true, true, true, true, true] rfl rfl (by kernel_rfl) (by decide) (fun K hK => ?_)
 refine skip_ (w1 := ?_) (by rfl) rfl ?_ ?_
 rotate_left
 ·go_simp
  rfl
 refine hK.out _ _ ?_
 clear hK K
 refine done_ (by kernel_rfl) ?_
 have HB := Am ((HB2.out.setCell (p := ⟨g, 6, none⟩) HGE.out (.pointer prl)).setCell (p := ⟨g, 7, none⟩) HGE.out (.pointer prr))
 have HV : Aside0 (((w42.setCell ⟨g, 6, none⟩ (.pointer prl)).setCell ⟨g, 7, none⟩ (.pointer prr)).heap[g]? = some (.cells #[.bool m, .pointer p, .pointer pl, .pointer pr, .pointer pll, .pointer plr, .pointer prl, .pointer prr, .pointer none, .pointer none, .bool rt] 62 (0, 0))) := ⟨put_blk (put_blk HV2.out 6 _) 7 _⟩
 have HG : Aside0 (((w42.setCell ⟨g, 6, none⟩ (.pointer prl)).setCell ⟨g, 7, none⟩ (.pointer prr)).heap[g6]? = some (.cells #[.bool false, .pointer none, .pointer none, .pointer none, .pointer none, .pointer none, .pointer none, .pointer none, .pointer none, .pointer none, .bool false] 62)) := ⟨(put_blk_ne HNE.out _ _).trans ((put_blk_ne HNE.out _ _).trans HG2.out)⟩
 clear HB2 HV2 HG2 hfa hfb
 try clear hHeld
 generalize ((w42.setCell ⟨g, 6, none⟩ (.pointer prl)).setCell ⟨g, 7, none⟩ (.pointer prr)) = w4 at HB HV HG ⊢
 obtain ⟨hv40, hv41, hv42, hv43, hv44, hv45, hv46, hv47, hv48, hv49, hv410⟩ := vc11 HV.out
 go_wp2
 clear hv40 hv41 hv42 hv43 hv44 hv45 hv46 hv47 hv48 hv49 hv410
 have HB0 := Am (bd HB.out)
 have HV0 : Aside0 (w4.drew.heap[g]? = some (.cells #[.bool m, .pointer p, .pointer pl, .pointer pr, .pointer pll, .pointer plr, .pointer prl, .pointer prr, .pointer none, .pointer none, .bool rt] 62 (0, 0))) := ⟨HV.out⟩
 have HG0 : Aside0 (w4.drew.heap[g6]? = some (.cells #[.bool false, .pointer none, .pointer none, .pointer none, .pointer none, .pointer none, .pointer none, .pointer none, .pointer none, .pointer none, .bool false] 62)) := ⟨HG.out⟩
 clear HB HV HG
 refine sT 12 [9, 11] (S := fun w' => w'.cell? ⟨g, 0, none⟩ = some (.bool m) ∧ w'.cell? ⟨g, 1, none⟩ = some (.pointer p) ∧ w'.cell? ⟨g, 2, none⟩ = some (.pointer pl) ∧ w'.cell? ⟨g, 3, none⟩ = some (.pointer pr) ∧ w'.cell? ⟨g, 4, none⟩ = some (.pointer pll) ∧ w'.cell? ⟨g, 5, none⟩ = some (.pointer plr) ∧ w'.cell? ⟨g, 6, none⟩ = some (.pointer prl) ∧ w'.cell? ⟨g, 7, none⟩ = some (.pointer prr) ∧ w'.cell? ⟨g, 8, none⟩ = some (.pointer none) ∧ w'.cell? ⟨g, 9, none⟩ = some (.pointer none) ∧ w'.cell? ⟨g, 10, none⟩ = some (.bool rt)) (vc11 HV0.out) fun hHeld => ?_
 refine pu 1 42 ?_
 refine pu 5 46 ?_
 refine ta 0 41 hHeld ?_
 refine ta 2 43 hHeld ?_
 refine ta 4 45 hHeld ?_
 refine ta 6 47 hHeld ?_
 refine on 3 44 fun K hK => ?_
 refine goes_ Tryd.func32 (by kernel_rfl) rfl #[.agg #[.bool m, .pointer p, .pointer pl, .pointer pr, .pointer pll, .pointer plr, .pointer prl, .pointer prr, .pointer none, .pointer none, .bool rt], .pointer prl] (by rfl) rfl rfl (by (try simp only [List.map_toArray, List.map_cons, List.map_nil]); first | done | rfl) ?_
 with_reducible refine (left_any _ _ _ _ _ _ _ _ _ _ _ _ _ w _ HRprl.out HB0.out).mono ?_
 rintro e w51 ⟨v', rfl, h1, h2⟩
 obtain ⟨pa, rfl⟩ := h1.ptr
 have HRpa := Am h1
 have HB1 := Am (HB0.out.trans (h2.mono HB0.out.size))
 have HV1 := Am ((h2.block _ (Array.getElem?_eq_some_iff.1 HV0.out).1).trans HV0.out)
 have HG1 := Am ((h2.block _ (Array.getElem?_eq_some_iff.1 HG0.out).1).trans HG0.out)
 clear h1 h2 HB0 HV0 HG0
 refine ⟨_, rfl, ?_⟩
 refine hK.out _ _ (vc11 HV1.out) (fun hHeld => ?_)
 clear hK K
 refine nm 44 ?_
 refine pu 8 49 ?_
 refine on 7 48 fun K hK => ?_
 refine goes_ Tryd.func33 (by kernel_rfl) rfl #[.agg #[.bool m, .pointer p, .pointer pl, .pointer pr, .pointer pll, .pointer plr, .pointer prl, .pointer prr, .pointer none, .pointer none, .bool rt], .pointer prl] (by rfl) rfl rfl (by (try simp only [List.map_toArray, List.map_cons, List.map_nil]); first | done | rfl) ?_
 with_reducible refine (right_any _ _ _ _ _ _ _ _ _ _ _ _ _ w _ HRprl.out HB1.out).mono ?_
 rintro e w52 ⟨v', rfl, h1, h2⟩
 obtain ⟨pb, rfl⟩ := h1.ptr
 have HRpb := Am h1
 have HB2 := Am (HB1.out.trans (h2.mono HB1.out.size))
 have HV2 := Am ((h2.block _ (Array.getElem?_eq_some_iff.1 HV1.out).1).trans HV1.out)
 have HG2 := Am ((h2.block _ (Array.getElem?_eq_some_iff.1 HG1.out).1).trans HG1.out)
 clear h1 h2 HB1 HV1 HG1
 have hfa := frz_of HV2.out 8
 have hfb := frz_of HV2.out 9
 refine ⟨_, rfl, ?_⟩
 refine hK.out _ _ (vc11 HV2.out) (fun hHeld => ?_)
 clear hK K
 refine nm 48 ?_
 refine last_ (i := 9) (N := none) #[true, true, true, true, true, true, true, true, true, true, false, false] rfl rfl (by kernel_rfl) (by decide) (fun K hK => ?_)
 refine skip_ (w1 := ?_) (by rfl) rfl ?_ ?_
 rotate_left
 ·go_simp
  rfl
 refine hK.out _ _ ?_
 clear hK K
 refine pu 10 50 ?_
 refine last_ (i := 11) (N := none) #[true, true, true, true, true, true, true, true, true, true, true, true] rfl rfl (by kernel_rfl) (by decide) (fun K hK => ?_)
 refine skip_ (w1 := ?_) (by rfl) rfl ?_ ?_
 rotate_left
 ·go_simp
  rfl
 refine hK.out _ _ ?_
 clear hK K
 refine done_ (by kernel_rfl) ?_
 have HB := Am ((HB2.out.setCell (p := ⟨g, 8, none⟩) HGE.out (.pointer pa)).setCell (p := ⟨g, 9, none⟩) HGE.out (.pointer pb))
 have HV : Aside0 (((w52.setCell ⟨g, 8, none⟩ (.pointer pa)).setCell ⟨g, 9, none⟩ (.pointer pb)).heap[g]? = some (.cells #[.bool m, .pointer p, .pointer pl, .pointer pr, .pointer pll, .pointer plr, .pointer prl, .pointer prr, .pointer pa, .pointer pb, .bool rt] 62 (0, 0))) := ⟨put_blk (put_blk HV2.out 8 _) 9 _⟩
 have HG : Aside0 (((w52.setCell ⟨g, 8, none⟩ (.pointer pa)).setCell ⟨g, 9, none⟩ (.pointer pb)).heap[g6]? = some (.cells #[.bool false, .pointer none, .pointer none, .pointer none, .pointer none, .pointer none, .pointer none, .pointer none, .pointer none, .pointer none, .bool false] 62)) := ⟨(put_blk_ne HNE.out _ _).trans ((put_blk_ne HNE.out _ _).trans HG2.out)⟩
 clear HB2 HV2 HG2 hfa hfb
 try clear hHeld
 generalize ((w52.setCell ⟨g, 8, none⟩ (.pointer pa)).setCell ⟨g, 9, none⟩ (.pointer pb)) = w5 at HB HV HG ⊢
 obtain ⟨hv50, hv51, hv52, hv53, hv54, hv55, hv56, hv57, hv58, hv59, hv510⟩ := vc11 HV.out
 have hz0 : w5.cell? ⟨g6, 0, none⟩ = some (.bool false) := (cell_of HG.out 0).trans rfl
 have hf0 := frz_of HG.out 0
 have hz1 : w5.cell? ⟨g6, 1, none⟩ = some (.pointer none) := (cell_of HG.out 1).trans rfl
 have hf1 := frz_of HG.out 1
 have hz2 : w5.cell? ⟨g6, 2, none⟩ = some (.pointer none) := (cell_of HG.out 2).trans rfl
 have hf2 := frz_of HG.out 2
 have hz3 : w5.cell? ⟨g6, 3, none⟩ = some (.pointer none) := (cell_of HG.out 3).trans rfl
 have hf3 := frz_of HG.out 3
 have hz4 : w5.cell? ⟨g6, 4, none⟩ = some (.pointer none) := (cell_of HG.out 4).trans rfl
 have hf4 := frz_of HG.out 4
 have hz5 : w5.cell? ⟨g6, 5, none⟩ = some (.pointer none) := (cell_of HG.out 5).trans rfl
 have hf5 := frz_of HG.out 5
 have hz6 : w5.cell? ⟨g6, 6, none⟩ = some (.pointer none) := (cell_of HG.out 6).trans rfl
 have hf6 := frz_of HG.out 6
 have hz7 : w5.cell? ⟨g6, 7, none⟩ = some (.pointer none) := (cell_of HG.out 7).trans rfl
 have hf7 := frz_of HG.out 7
 have hz8 : w5.cell? ⟨g6, 8, none⟩ = some (.pointer none) := (cell_of HG.out 8).trans rfl
 have hf8 := frz_of HG.out 8
 have hz9 : w5.cell? ⟨g6, 9, none⟩ = some (.pointer none) := (cell_of HG.out 9).trans rfl
 have hf9 := frz_of HG.out 9
 have hz10 : w5.cell? ⟨g6, 10, none⟩ = some (.bool false) := (cell_of HG.out 10).trans rfl
 have hf10 := frz_of HG.out 10
 have hfin := look_fin HB.out HG6.out HRpl.out HRpr.out HRpll.out HRplr.out HRprl.out HRprr.out HRpa.out HRpb.out (m := m) (p := p) (rt := rt)
 have HF := Am hfin
 clear hfin
 go_wp2
 have hG := put11 HG.out (.bool m) (.pointer p) (.pointer pl) (.pointer pr) (.pointer pll) (.pointer plr) (.pointer prl) (.pointer prr) (.pointer pa) (.pointer pb) (.bool rt)
 have hBF := below11 HB.out HG6.out (.bool m) (.pointer p) (.pointer pl) (.pointer pr) (.pointer pll) (.pointer plr) (.pointer prl) (.pointer prr) (.pointer pa) (.pointer pb) (.bool rt)
 clear HG HB HV
 generalize (((((((((((w5.setCell ⟨g6, 0, none⟩ (.bool m)).setCell ⟨g6, 1, none⟩ (.pointer p)).setCell ⟨g6, 2, none⟩ (.pointer pl)).setCell ⟨g6, 3, none⟩ (.pointer pr)).setCell ⟨g6, 4, none⟩ (.pointer pll)).setCell ⟨g6, 5, none⟩ (.pointer plr)).setCell ⟨g6, 6, none⟩ (.pointer prl)).setCell ⟨g6, 7, none⟩ (.pointer prr)).setCell ⟨g6, 8, none⟩ (.pointer pa)).setCell ⟨g6, 9, none⟩ (.pointer pb)).setCell ⟨g6, 10, none⟩ (.bool rt)) = w6 at hG hBF ⊢
 obtain ⟨hs0, hs1, hs2, hs3, hs4, hs5, hs6, hs7, hs8, hs9, hs10⟩ := vc11 hG
 refine bodyPost_ret (v := .agg #[.bool m, .pointer p, .pointer pl, .pointer pr, .pointer pll, .pointer plr, .pointer prl, .pointer prr, .pointer pa, .pointer pb, .bool rt]) (by simp [results, Tryd.results24, go_sem, hs0, hs1, hs2, hs3, hs4, hs5, hs6, hs7, hs8, hs9, hs10]) rfl (HF.out _ hBF)
end
section
variable {S : Nat → Prop}
def ndL (n : S34) : List Value := [.int .i64 n.f0, .int .i64 n.f1, .int .i64 n.f2, .int .i64 n.f3, .int .i64 n.f4, .int .i64 n.f5]
def rowL (xs : List S34) : List Value := xs.flatMap ndL
def itL (L : List (Option Addr × Int)) : List Value := L.flatMap fun x => [.pointer x.1, .int .i64 x.2]
def sizeT : Tr → Nat
 | .nil => 0
 | .node _ _ l r => 1 + sizeT l + sizeT r
def Full : Tr → Prop
 | .nil => False
 | .node _ _ .nil .nil => True
 | .node _ _ .nil (.node ..) => False
 | .node _ _ (.node ..) .nil => False
 | .node _ _ (.node n p l r) (.node n' p' l' r') => Full (.node n p l r) ∧ Full (.node n' p' l' r')
def flatT : Tr → Nat → List S34
 | .nil, _ => []
 | .node n _ .nil _, _ => [n]
 | .node n _ (.node n' p' l' r') r, at_ => ⟨n.f0, n.f1, n.f2, n.f3, at_ + 1, at_ + 1 + sizeT (.node n' p' l' r')⟩ :: (flatT (.node n' p' l' r') (at_ + 1) ++ flatT r (at_ + 1 + sizeT (.node n' p' l' r')))
def setR (xs : List S34) (j : Int) (v : Int) : List S34 := if 0 ≤ j then xs.set j.toNat (let n := xs.getD j.toNat z34; ⟨n.f0, n.f1, n.f2, n.f3, n.f4, v⟩) else xs
def finT (xs : List S34) : List (Tr × Int) → List S34
 | [] => xs
 | (T, j) :: rs => finT (setR xs j xs.length ++ flatT T xs.length) rs
def Items (S : Nat → Prop) (w : World) : List (Option Addr × Int) → List (Tr × Int) → Prop
 | [], [] => True
 | (p, i) :: L, (T, j) :: rs => i = j ∧ Rep S w (.pointer p) T ∧ Full T ∧ Items S w L rs
 | _, _ => False
def sizeR : List (Tr × Int) → Nat
 | [] => 0
 | (T, _) :: rs => sizeT T + sizeR rs
structure FlatInv (S : Nat → Prop) (w W : World) (R : List S34) (N : Nat) (vs vo : Value) (k : Nat) (L : List (Option Addr × Int)) (rs : List (Tr × Int)) (xs : List S34) : Prop where
 fin : finT xs rs = R
 items : Items S w L rs
 size : xs.length + sizeR rs = N
 own : W.ownsRow w.heap.size 81 2 vs L.length (itL L.reverse)
 out : W.ownsRow w.heap.size 50 6 vo xs.length (rowL xs)
 bel : Below w.heap.size w W
 meas : sizeR rs < k
 par : ∀ x, x ∈ rs → -1 ≤ x.2 ∧ x.2 < (xs.length : Int)
theorem flat_start {w : World} {p : Option Addr} {T : Tr} (h : Rep S w (.pointer p) T) (hf : Full T) :
  FlatInv S w (w.alloc (.cells #[.pointer p, .int .i64 (-1)] 81)) (flatT T 0) (sizeT T) (.slice (some ⟨w.heap.size, 0, none⟩) 1 1) (.slice none 0 0) (sizeT T + 1) [(p, -1)] [(T, -1)] [] := by
 refine ⟨?_, ⟨rfl, h, hf, trivial⟩, by simp [sizeR], ?_, ⟨rfl, .inl ⟨rfl, rfl⟩⟩, (Below.refl _ _).alloc (Nat.le_refl _) _, by simp [sizeR], ?_⟩
 ·simp [finT, setR]
 ·refine ⟨rfl, .inr ⟨w.heap.size, 1, #[.pointer p, .int .i64 (-1)], rfl, Nat.le_refl _, heap_alloc_new w _, by simp, by simp [maxLen], rfl, rfl⟩⟩
 ·intro x hx
  simp at hx
  subst hx
  simp
theorem itL_len (L : List (Option Addr × Int)) : (itL L).length = L.length * 2 := by
 induction L with
 | nil => rfl
 | cons x L ih => simp [itL] at ih ⊢; omega
theorem rowL_len (L : List S34) : (rowL L).length = L.length * 6 := by
 induction L with
 | nil => rfl
 | cons x L ih => simp [rowL, ndL] at ih ⊢; omega
theorem itL_app (A B : List (Option Addr × Int)) : itL (A ++ B) = itL A ++ itL B := by simp [itL]
theorem rowL_app (A B : List S34) : rowL (A ++ B) = rowL A ++ rowL B := by simp [rowL]
theorem flat_top {w W : World} {R : List S34} {N : Nat} {vs vo : Value} {k : Nat} {p : Option Addr} {i : Int} {L : List (Option Addr × Int)} {rs : List (Tr × Int)} {xs : List S34} (h : FlatInv S w W R N vs vo k ((p, i) :: L) rs xs) :
  ∃ gs cs, vs = .slice (some ⟨gs, 0, none⟩) (L.length + 1) cs ∧ w.heap.size ≤ gs ∧ gs < W.heap.size ∧ L.length + 1 ≤ cs ∧ W.cell? ⟨gs, L.length * 2, none⟩ = some (.pointer p) ∧ W.cell? ⟨gs, L.length * 2 + 1, none⟩ = some (.int .i64 i) := by
 have ho := h.own
 simp only [List.length_cons, List.reverse_cons, itL_app] at ho
 rcases ho.2 with ⟨_, h0⟩ | ⟨g, cap, cur, hv, hb, hg, hnc, hcm, hcs, ht⟩
 ·omega
 ·subst hv
  refine ⟨g, cap, rfl, hb, (Array.getElem?_eq_some_iff.1 hg).1, hnc, ?_, ?_⟩
  ·rw [ho.cellAt _ (by omega), List.getElem?_append_right (by rw [itL_len, List.length_reverse]; omega), itL_len, List.length_reverse]; simp [itL]
  ·rw [ho.cellAt _ (by omega), List.getElem?_append_right (by rw [itL_len, List.length_reverse]; omega), itL_len, List.length_reverse, show L.length * 2 + 1 - L.length * 2 = 1 by omega]; simp [itL]
theorem full_pos : ∀ {T : Tr}, Full T → 0 < sizeT T
 | .nil, h => h.elim
 | .node .., _ => by simp [sizeT]; omega
theorem items_len {w : World} : ∀ {L : List (Option Addr × Int)} {rs : List (Tr × Int)}, Items S w L rs → L.length ≤ sizeR rs
 | [], [], _ => Nat.zero_le _
 | (_, _) :: _, (_, _) :: _, h => by
  have h1 := full_pos h.2.2.1
  have h2 := items_len h.2.2.2
  simp [sizeR]
  omega
 | [], _ :: _, h => h.elim
 | _ :: _, [], h => h.elim
theorem info141 : (Tryd.prog.info? 81).map (fun i => (i.zero, i.size, i.bytes)) = some (some (.agg #[.pointer none, .int .i64 0]), 2, 16) := by kernel_rfl
def FlatPost (w : World) (T : Tr) (e : Ending) (w' : World) : Prop := ∃ v0, e = .returned v0 ∧ Kd.R k34 50 w' w.heap.size (fun _ => True) v0 (flatT T 0) ∧ Below w.heap.size w w'
theorem flat_nil {w W : World} {R : List S34} {N : Nat} {vs vo : Value} {k : Nat} {rs : List (Tr × Int)} {xs : List S34} (h : FlatInv S w W R N vs vo k [] rs xs) : ∃ A c, vs = .slice A 0 c := by
 rcases h.own.2 with ⟨rfl, _⟩ | ⟨g, cap, cur, rfl, _⟩
 ·exact ⟨_, _, rfl⟩
 ·exact ⟨_, _, rfl⟩
theorem reps_rowL : ∀ (xs : List S34) (j : Nat) (p : S34), xs[j]? = some p → ((rowL xs).drop (j * 6)).take 6 = ndL p := by
 intro xs
 induction xs with
 | nil => intro j p h; simp at h
 | cons x xs ih =>
  intro j p h
  cases j with
  | zero => simp at h; subst h; simp [rowL, ndL]
  | succ j =>
   simp at h
   have := ih j p h
   rw [show (j + 1) * 6 = 6 + j * 6 by omega, show rowL (x :: xs) = ndL x ++ rowL xs from rfl, List.drop_append]
   simp only [show (ndL x).length = 6 from rfl, show 6 + j * 6 - 6 = j * 6 by omega, List.drop_eq_nil_of_le (show (ndL x).length ≤ 6 + j * 6 by simp [ndL]), List.nil_append]
   exact this
theorem row_R {W : World} {base : Nat} {v : Value} {xs : List S34} (h : W.ownsRow base 50 6 v xs.length (rowL xs)) : Kd.R k34 50 W base (fun _ => True) v xs :=
 ⟨fun _ _ => trivial, rowL xs, h, ⟨rowL_len xs, fun j p hj => by rw [show k34.sz = 6 from rfl, reps_rowL xs j p hj]; exact k34_mkM _ _ _ p⟩⟩
theorem flat_end {w W : World} {T : Tr} {N : Nat} {vs vo : Value} {k : Nat} {rs : List (Tr × Int)} {xs : List S34} (h : FlatInv S w W (flatT T 0) N vs vo k [] rs xs) : FlatPost w T (.returned vo) W := by
 have h1 := h.items
 cases rs with
 | cons r rs => exact h1.elim
 | nil =>
  have h2 := h.fin
  simp only [finT] at h2
  subst h2
  exact ⟨vo, rfl, row_R h.out, h.bel⟩
theorem flat_node {w W : World} {R : List S34} {N : Nat} {vs vo : Value} {k : Nat} {p : Option Addr} {i j : Int} {L : List (Option Addr × Int)} {T : Tr} {rs : List (Tr × Int)} {xs : List S34} (h : FlatInv S w W R N vs vo k ((p, i) :: L) ((T, j) :: rs) xs) :
  ∃ n pl l r b vl vr, T = .node n pl l r ∧ p = some ⟨b, 0, none⟩ ∧ W.heap[b]? = some (.cells (ndCells n pl vl vr) 66 (0, 0)) ∧ b < w.heap.size ∧ Rep S w vl l ∧ Rep S w vr r := by
 obtain ⟨_, hr, hf, _⟩ := h.items
 cases T with
 | nil => exact hf.elim
 | node n pl l r =>
  obtain ⟨b, vl, vr, e, hb, hl, hr, _⟩ := hr
  have hlt := (Array.getElem?_eq_some_iff.1 hb).1
  injection e with e
  exact ⟨n, pl, l, r, b, vl, vr, rfl, e, (h.bel.block b hlt).trans hb, hlt, hl, hr⟩
theorem flat_pop {w W : World} {R : List S34} {N : Nat} {gs cs : Nat} {vo : Value} {k : Nat} {p : Option Addr} {i : Int} {L : List (Option Addr × Int)} {rs : List (Tr × Int)} {xs : List S34} (h : FlatInv S w W R N (.slice (some ⟨gs, 0, none⟩) (L.length + 1) cs) vo k ((p, i) :: L) rs xs) :
  W.ownsRow w.heap.size 81 2 (.slice (some ⟨gs, 0, none⟩) L.length cs) L.length (itL L.reverse) := by
 have h1 := h.own
 simp only [List.length_cons] at h1
 have h2 := own_take (m := L.length) h1 (by omega)
 rw [List.reverse_cons, itL_app, List.take_append_of_le_length (by rw [itL_len, List.length_reverse]; exact Nat.le_refl _), List.take_of_length_le (by rw [itL_len, List.length_reverse]; exact Nat.le_refl _)] at h2
 exact h2
theorem rowL_set (xs : List S34) (j : Int) (v : Int) (h0 : 0 ≤ j) (h1 : j < xs.length) : (rowL xs).set (j.toNat * 6 + 5) (.int .i64 v) = rowL (setR xs j v) := by
 obtain ⟨m, rfl⟩ := Int.eq_ofNat_of_zero_le h0
 simp only [setR, if_pos h0, Int.toNat_natCast]
 have hm : m < xs.length := by omega
 clear h0 h1
 induction xs generalizing m with
 | nil => simp at hm
 | cons x xs ih =>
  cases m with
  | zero => simp [rowL, ndL]
  | succ m =>
   have h3 := ih m (by simpa using hm)
   have e1 : rowL (x :: xs) = ndL x ++ rowL xs := rfl
   have e2 : (ndL x).length = 6 := rfl
   rw [e1, List.set_append_right _ _ (by rw [e2]; omega), e2, show (m + 1) * 6 + 5 - 6 = m * 6 + 5 by omega, h3, sS]
   rfl
theorem setR_len (xs : List S34) (j v : Int) : (setR xs j v).length = xs.length := by unfold setR; split <;> simp
structure Mid (w W1 : World) (gs cs : Nat) (vo : Value) (L : List (Option Addr × Int)) (xs1 : List S34) : Prop where
 own : W1.ownsRow w.heap.size 81 2 (.slice (some ⟨gs, 0, none⟩) L.length cs) L.length (itL L.reverse)
 out : W1.ownsRow w.heap.size 50 6 vo xs1.length (rowL xs1)
 bel : Below w.heap.size w W1
theorem flat_mid0 {w W : World} {R : List S34} {N : Nat} {gs cs : Nat} {vo : Value} {k : Nat} {p : Option Addr} {i : Int} {L : List (Option Addr × Int)} {T : Tr} {rs : List (Tr × Int)} {xs : List S34} (h : FlatInv S w W R N (.slice (some ⟨gs, 0, none⟩) (L.length + 1) cs) vo k ((p, i) :: L) ((T, i) :: rs) xs) (hi : ¬ 0 ≤ i) :
  Mid w W gs cs vo L (setR xs i xs.length) := ⟨flat_pop h, by rw [setR, if_neg hi]; exact h.out, h.bel⟩
theorem flat_mid1 {w W : World} {R : List S34} {N : Nat} {gs cs : Nat} {vo : Value} {k : Nat} {p : Option Addr} {i : Int} {L : List (Option Addr × Int)} {T : Tr} {rs : List (Tr × Int)} {xs : List S34} (h : FlatInv S w W R N (.slice (some ⟨gs, 0, none⟩) (L.length + 1) cs) vo k ((p, i) :: L) ((T, i) :: rs) xs) (hi : 0 ≤ i) :
  i < (xs.length : Int) ∧ ∃ go co, vo = .slice (some ⟨go, 0, none⟩) xs.length co ∧ go < W.heap.size ∧ (∃ u, W.cell? ⟨go, i.toNat * 6 + 5, none⟩ = some u) ∧ W.frozen? ⟨go, i.toNat * 6 + 5, none⟩ = false ∧ go ≠ gs ∧ w.heap.size ≤ go ∧
   Mid w (W.setCell ⟨go, i.toNat * 6 + 5, none⟩ (.int .i64 xs.length)) gs cs (.slice (some ⟨go, 0, none⟩) xs.length co) L (setR xs i xs.length) := by
 have hlt := (h.par (T, i) (by simp)).2
 simp only at hlt
 obtain ⟨go, co, hv, hbo, hgl⟩ := h.out.form (by omega)
 subst hv
 have ho := h.out
 have hne : go ≠ gs := by
  rcases own_type_ne ho h.own (by decide) with e | e
  ·simp [Value.ownBlock] at e
  ·intro he; subst he; exact e rfl
 have hs := ho.stored (i.toNat * 6 + 5) (.int .i64 xs.length)
 rw [rowL_set xs i _ hi hlt] at hs
 refine ⟨hlt, go, co, rfl, hgl, ⟨_, (ho.cellAt _ (by omega)).trans (List.getElem?_eq_getElem (by rw [rowL_len]; omega))⟩, ho.frozenAt _, hne, hbo, ⟨?_, ?_, h.bel.setCell hbo _⟩⟩
 ·refine (flat_pop h).kept hs.2 (.inr ?_)
  intro e
  simp [Value.ownBlock] at e
  exact hne e.symm
 ·rw [setR_len]; exact hs.1
theorem flat_fin_leaf {R : List S34} {n : S34} {pl : Int} {r : Tr} {i : Int} {rs : List (Tr × Int)} {xs : List S34} (h : finT xs ((.node n pl .nil r, i) :: rs) = R) : finT (setR xs i xs.length ++ [n]) rs = R := h
theorem finT_app (xs : List S34) (T : Tr) (rs : List (Tr × Int)) : finT xs ((T, -1) :: rs) = finT (xs ++ flatT T xs.length) rs := by simp [finT, setR]
theorem setR_mid (A : List S34) (m : S34) (F : List S34) (j v : Int) (hj : j = A.length) : setR (A ++ m :: F) j v = A ++ ⟨m.f0, m.f1, m.f2, m.f3, m.f4, v⟩ :: F := by
 subst hj
 rw [setR, if_pos (by omega), Int.toNat_natCast, List.set_append_right _ _ (Nat.le_refl _)]
 simp [List.getD_eq_getElem?_getD]
theorem flat_fin_inner {R : List S34} {n n1 : S34} {pl p1 : Int} {l1 r1 r : Tr} {i : Int} {rs : List (Tr × Int)} {xs : List S34} (hs : (flatT (.node n1 p1 l1 r1) (xs.length + 1)).length = sizeT (.node n1 p1 l1 r1)) (h : finT xs ((.node n pl (.node n1 p1 l1 r1) r, i) :: rs) = R) :
  finT (setR xs i xs.length ++ [⟨n.f0, n.f1, n.f2, n.f3, (xs.length : Int) + 1, n.f5⟩]) ((.node n1 p1 l1 r1, -1) :: (r, (xs.length : Int)) :: rs) = R := by
 rw [← h, finT_app]
 generalize hT : Tr.node n1 p1 l1 r1 = T1 at hs
 simp only [finT]
 congr 1
 have hl : (setR xs i xs.length ++ [(⟨n.f0, n.f1, n.f2, n.f3, (xs.length : Int) + 1, n.f5⟩ : S34)]).length = xs.length + 1 := by simp [setR_len]
 rw [hl, List.append_assoc, List.singleton_append, setR_mid _ _ _ _ _ (by rw [setR_len])]
 subst hT
 simp only [flatT, List.length_append, setR_len, List.length_cons, hs, List.append_assoc, List.cons_append]
 congr 3
 ·congr 1
  push_cast
  omega
 ·congr 1
  omega
theorem flatT_len : ∀ (T : Tr) (a : Nat), Full T → (flatT T a).length = sizeT T
 | .nil, _, h => h.elim
 | .node _ _ .nil .nil, _, _ => rfl
 | .node _ _ .nil (.node ..), _, h => h.elim
 | .node _ _ (.node ..) .nil, _, h => h.elim
 | .node _ _ (.node n p l r) (.node n' p' l' r'), a, h => by
  have h1 := flatT_len (.node n p l r) (a + 1) h.1
  have h2 := flatT_len (.node n' p' l' r') (a + 1 + sizeT (.node n p l r)) h.2
  rw [flatT, List.length_cons, List.length_append, h1, h2]
  simp only [sizeT]
  omega
theorem flat_leaf {w wr W1 W2 W3 : World} {R : List S34} {N : Nat} {gs cs : Nat} {vo v' : Value} {k : Nat} {p : Option Addr} {i : Int} {n : S34} {pl : Int} {r : Tr} {L : List (Option Addr × Int)} {rs : List (Tr × Int)} {xs : List S34}
  (h : FlatInv S w wr R N (.slice (some ⟨gs, 0, none⟩) (L.length + 1) cs) vo k ((p, i) :: L) ((.node n pl .nil r, i) :: rs) xs)
  (hm : Mid w W1 gs cs vo L (setR xs i xs.length)) (hb2 : Below W1.heap.size W1 W2)
  (hown : W3.ownsRow w.heap.size 50 6 v' ((setR xs i xs.length).length + 1) (rowL (setR xs i xs.length) ++ ndL n)) (hg : W2.grownBy W3 vo.ownBlock) (k' : Nat) (hk : sizeR rs < k') :
  FlatInv S w W3 R N (.slice (some ⟨gs, 0, none⟩) L.length cs) v' k' L rs (setR xs i xs.length ++ [n]) := by
 obtain ⟨_, _, hf, hit⟩ := h.items
 have hr : r = .nil := by
  cases r with
  | nil => rfl
  | node _ _ _ _ => exact hf.elim
 subst hr
 have hne : (Value.slice (some ⟨gs, 0, none⟩) L.length cs).ownBlock ≠ vo.ownBlock := by
  rcases own_type_ne hm.own hm.out (by decide) with e | e
  ·simp [Value.ownBlock] at e
  ·exact e
 have hbl : Below w.heap.size w W2 := hm.bel.trans (hb2.mono hm.bel.size)
 refine ⟨flat_fin_leaf h.fin, hit, ?_, ?_, ?_, ?_, hk, ?_⟩
 ·have := h.size
  simp only [sizeR, sizeT, List.length_append, setR_len, List.length_singleton] at this ⊢
  omega
 ·exact (pw_own_below hm.own hb2).kept hg (.inr hne)
 ·rw [List.length_append, rowL_app]; simpa [rowL] using hown
 ·exact hbl.grown hg hbl.size (fun k hk => own_base hm.out k hk)
 ·intro x hx
  have := h.par x (by simp [hx])
  rw [List.length_append, setR_len]
  simp only [List.length_singleton]
  omega
theorem own_append_step {P : Program} {ops : Array Oper} {o : Oper} {a : Act} {Q : Exit → Act → World → Prop} {Kc : Act → World → Prop} {w : World} (hw : Region.wanted o (yielded ops a.tmps) = true) (s x : Operand) (t : TypeId)
  (ho : o.op = .call { callee := .builtin .append, args := #[s, x], argTypes := #[t, t] })
  (base : Nat) (e : TypeId) (i : TypeInfo) (z : Value) (size bytes : Nat) (ht : P.underlying t = some (.slice e)) (hi : P.info? e = some i) (hz : i.zero = some z)
  (hsize : i.size = size) (hby : i.bytes = bytes) (hzs : z.cells.size = size) (hsz : 0 < size)
  (v : Value) (n : Nat) (xs : List Value) (hs : a.eval s = v) (hown : w.ownsRow base e size v n xs)
  (ad : Addr) (m c : Nat) (news : List Value) (hx : a.eval x = .slice (some ad) m c) (hl : news.length = m * size) (hnews : ∀ j u, news[j]? = some u → w.cell? (ad.add j) = some u) (h1 : ∀ u ∈ news, u.oneCell' = true)
  (h63 : n + m ≤ maxLen) (hbytes : (n + m) * bytes ≤ 140737488355328) (hbase : base ≤ w.heap.size)
  (h : ∀ v' w', w'.ownsRow base e size v' (n + m) (xs ++ news) → w.grownBy w' v.ownBlock → (v'.ownBlock = v.ownBlock ∨ v'.ownBlock = some w.heap.size) → Kc (a.put o.dst v') w') :
  if Region.wanted o (yielded ops a.tmps) = true then Oper.wp P o a w Kc Q else Kc (a.put o.dst undef) w := by
 rw [if_pos hw]
 obtain ⟨v', w', hr, h2, h3, h4, h5⟩ := run_append_own_at (P := P) w base t o.type e i z size bytes ht hi hz hsize hby hzs hsz v n xs hown ad m c news hl hnews h1 h63 hbytes hbase
 unfold Oper.wp execOp
 simp only [ho, resolve, invoke, builtin, Sem.run_bind, Sem.run_pure, Result.andThen_ok, List.map_toArray, List.map_cons, List.map_nil, hs, hx, hr]
 exact h v' w' h2 h3 h5
theorem flat_inner {w wr W1 W2 W3 W4 W5 : World} {R : List S34} {N : Nat} {gs cs : Nat} {vo v' vs' : Value} {k : Nat} {p pL pR : Option Addr} {i : Int} {n n1 : S34} {pl p1 : Int} {l1 r1 r : Tr} {L : List (Option Addr × Int)} {rs : List (Tr × Int)} {xs : List S34}
  (h : FlatInv S w wr R N (.slice (some ⟨gs, 0, none⟩) (L.length + 1) cs) vo k ((p, i) :: L) ((.node n pl (.node n1 p1 l1 r1) r, i) :: rs) xs)
  (hl : Rep S w (.pointer pL) (.node n1 p1 l1 r1)) (hr : Rep S w (.pointer pR) r)
  (hm : Mid w W1 gs cs vo L (setR xs i xs.length)) (hb2 : Below W1.heap.size W1 W2)
  (hown : W3.ownsRow w.heap.size 81 2 vs' (L.length + 2) (itL L.reverse ++ itL [(pR, (xs.length : Int)), (pL, -1)])) (hg : W2.grownBy W3 (some gs)) (hat : vs'.ownBlock = some gs ∨ vs'.ownBlock = some W2.heap.size)
  (hb4 : Below W3.heap.size W3 W4)
  (hown2 : W5.ownsRow w.heap.size 50 6 v' ((setR xs i xs.length).length + 1) (rowL (setR xs i xs.length) ++ ndL ⟨n.f0, n.f1, n.f2, n.f3, (xs.length : Int) + 1, n.f5⟩)) (hg2 : W4.grownBy W5 vo.ownBlock) (k' : Nat) (hk : sizeT (.node n1 p1 l1 r1) + (sizeT r + sizeR rs) < k') :
  FlatInv S w W5 R N vs' v' k' ((pL, -1) :: (pR, (xs.length : Int)) :: L) ((.node n1 p1 l1 r1, -1) :: (r, (xs.length : Int)) :: rs) (setR xs i xs.length ++ [⟨n.f0, n.f1, n.f2, n.f3, (xs.length : Int) + 1, n.f5⟩]) := by
 obtain ⟨_, _, hf, hit⟩ := h.items
 have hf2 : Full (.node n1 p1 l1 r1) ∧ Full r := by
  cases r with
  | nil => exact hf.elim
  | node _ _ _ _ => exact hf
 have hne : some gs ≠ vo.ownBlock := by
  rcases own_type_ne hm.own hm.out (by decide) with e | e
  ·simp [Value.ownBlock] at e
  ·exact e
 have hbl : Below w.heap.size w W2 := hm.bel.trans (hb2.mono hm.bel.size)
 have hgs : w.heap.size ≤ gs := own_base hm.own gs rfl
 have hbl3 : Below w.heap.size w W3 := hbl.grown hg hbl.size (fun k hk => by injection hk with hk; omega)
 have hbl4 : Below w.heap.size w W4 := hbl3.trans (hb4.mono hbl3.size)
 have hout4 := (pw_own_below ((pw_own_below hm.out hb2).kept hg (by cases e : vo.ownBlock with | none => exact .inl rfl | some _ => exact .inr (fun e2 => hne (by rw [e, e2])))) hb4)
 refine ⟨flat_fin_inner (flatT_len _ _ hf2.1) h.fin, ⟨rfl, hl, hf2.1, rfl, hr, hf2.2, hit⟩, ?_, ?_, ?_, ?_, ?_, ?_⟩
 ·have := h.size
  simp only [sizeR, sizeT, List.length_append, setR_len, List.length_singleton] at this ⊢
  omega
 ·have h4 := pw_own_below hown hb4
  have h5 := h4.kept hg2 (own_type_ne h4 hout4 (by decide))
  simp only [List.length_cons, List.reverse_cons, List.append_assoc, itL_app] at h5 ⊢
  exact h5
 ·rw [List.length_append, rowL_app]; simpa [rowL] using hown2
 ·exact hbl4.grown hg2 hbl4.size (fun k hk => own_base hm.out k hk)
 ·simp only [sizeR]; exact hk
 ·intro x hx
  rw [List.length_append, setR_len]
  simp only [List.mem_cons] at hx
  rcases hx with rfl | rfl | hx
  ·simp only [List.length_singleton]; omega
  ·simp only [List.length_singleton]; omega
  ·have := h.par x (by simp [hx])
   simp only [List.length_singleton]
   omega
theorem flat_any (p : Option Addr) (T : Tr) (w : World) (h : Rep S w (.pointer p) T) (hf : Full T) (hn : sizeT T ≤ 1000000) :
  Calls Tryd.prog 27 #[.pointer p] w fun e w' => FlatPost w T e w' := by
 have hu141 := Tryd.underlying81
 have hu34 := Tryd.underlying50
 have hu116 := Tryd.underlying66
 have H := Am h
 clear h
 go_enter Tryd.func27, Tryd.ntmps27
 go_wp2
 go_loopg [3, 4] (sizeT T + 1) (fun gk vo vs wr => ∃ L rs xs, Aside0 (FlatInv S w wr (flatT T 0) (sizeT T) vs vo gk L rs xs))
 case atStart => exact ⟨[(p, -1)], [(T, -1)], [], ⟨flat_start H.out hf⟩⟩
 case round =>
  obtain ⟨L, rs, xs, HI⟩ := hrel
  cases L with
  | nil =>
   obtain ⟨A_, c_, rfl⟩ := flat_nil HI.out
   obtain ⟨Ao, co, rfl⟩ := own_slice HI.out.out
   have hfin := flat_end HI.out
   have HF := Am hfin
   clear hfin
   go_wp2
   go_ret
   exact HF.out
  | cons it L =>
   obtain ⟨p', i⟩ := it
   cases rs with
   | nil => exact absurd HI.out.items (by simp [Items])
   | cons r rs =>
    obtain ⟨T', j⟩ := r
    obtain ⟨gs, cs, hvs, hgs, hgl, hcap, hit0, hit1⟩ := flat_top HI.out
    subst hvs
    have hpos : decide (0 < L.length + 1) = true := decide_eq_true (by omega)
    have hlen : L.length + 1 ≤ 1000000 := by
     have := items_len HI.out.items
     have h2 := HI.out.size
     simp only [List.length_cons] at this
     omega
    have hxl : xs.length ≤ 1000000 := by have h2 := HI.out.size; omega
    obtain ⟨Ao, co, hvo⟩ := own_slice HI.out.out
    subst hvo
    have hgc : gs < wr.heap.size := hgl
    obtain ⟨i0, hi0, hz0, hsz0, hby0⟩ := info_parts info141
    have hcut := cut_to (P := Tryd.prog) 82 81 .i64 Tryd.underlying82 hi0 (some ⟨gs, 0, none⟩) (L.length + 1) cs (L.length : Int) (by omega) (by omega) hcap
    simp only [Int.toNat_natCast] at hcut
    obtain ⟨n, pl, l, r, b, vl, vr, hT', hp', hb, hbl, hl, hr⟩ := flat_node HI.out
    subst hT'
    subst hp'
    have hc0 : wr.cell? ⟨b, 0, none⟩ = some (.int .i64 n.f0) := (cell_of hb 0).trans rfl
    have hc1 : wr.cell? ⟨b, 1, none⟩ = some (.int .i64 n.f1) := (cell_of hb 1).trans rfl
    have hc2 : wr.cell? ⟨b, 2, none⟩ = some (.int .i64 n.f2) := (cell_of hb 2).trans rfl
    have hc3 : wr.cell? ⟨b, 3, none⟩ = some (.int .i64 n.f3) := (cell_of hb 3).trans rfl
    have hc4 : wr.cell? ⟨b, 4, none⟩ = some (.int .i64 n.f4) := (cell_of hb 4).trans rfl
    have hc5 : wr.cell? ⟨b, 5, none⟩ = some (.int .i64 n.f5) := (cell_of hb 5).trans rfl
    have hc7 : wr.cell? ⟨b, 7, none⟩ = some vl := (cell_of hb 7).trans rfl
    have hc8 : wr.cell? ⟨b, 8, none⟩ = some vr := (cell_of hb 8).trans rfl
    have hbw : b < wr.heap.size := Nat.lt_of_lt_of_le hbl HI.out.bel.size
    obtain rfl : i = j := HI.out.items.1
    obtain ⟨i34, hi34, hz340, hz341, hz342⟩ := info_parts info34
    by_cases hi : 0 ≤ i
    ·have di : decide (0 ≤ i) = true := decide_eq_true hi
     obtain ⟨hilt, go, co', hvo, hgo, ⟨u_, hco⟩, hfo, hne, hgb, hm⟩ := flat_mid1 HI.out hi
     have HM := Am hm
     injection hvo with hA _ hC
     subst hA
     subst hC
     clear hm
     cases l with
     | nil =>
      obtain rfl := hl
      go_wp2_with (at_builtin; refine wpList_append_own_at _ rfl (.tmp 66) (.tmp 68) 44 rfl w.heap.size 50 i34 _ 6 48 Tryd.underlying44 hi34 hz340 hz341 hz342 rfl (by decide) (.slice (some ⟨go, 0, none⟩) xs.length co) xs.length (rowL (setR xs i xs.length)) rfl ?c0 _ 1 1 (ndL n) rfl rfl ?c1 ?c2 ?c3 ?c4 ?c5 ?_)
      case c0 => have h_ := HM.out.out; rw [setR_len] at h_; exact ((h_.alloc _).alloc _).alloc _
      case c1 => exact fun _ _ h_ => h_
      case c2 => simp [ndL, Value.oneCell']
      case c3 => simp only [maxLen]; omega
      case c4 => omega
      case c5 => have h_ := HM.out.bel.size; simp at h_ ⊢; omega
      intro v' w' hown hg hnil hat
      obtain ⟨A', c', hv'⟩ := own_slice hown
      subst hv'
      have hres := flat_leaf HI.out HM.out (((Below.refl _ _).alloc (Nat.le_refl _) _).alloc (by simp) _ |>.alloc (by simp; omega) _) (by rw [setR_len]; exact hown) hg (gk - 1) (by have := HI.out.meas; simp only [sizeR, sizeT] at this; omega)
      have HRES := Am hres
      have HK : gk - 1 < gk := by have := HI.out.meas; omega
      clear hres hown hg hnil hat
      go_wp2
      go_roundg (gk - 1)
      case measure => exact HK
      case rel => exact ⟨_, _, _, ⟨HRES.out⟩⟩
     | node n1 p1 l1 r1 =>
      obtain ⟨pR, epR⟩ := hr.ptr
      subst epR
      obtain ⟨bl, vl1, vr1, hvl, hbl1, hl1, hr1, hs1⟩ := hl
      subst hvl
      have HRL : Aside0 (Rep S w (.pointer (some ⟨bl, 0, none⟩)) (.node n1 p1 l1 r1)) := ⟨⟨bl, vl1, vr1, rfl, hbl1, hl1, hr1, hs1⟩⟩
      have HRR := Am hr
      clear hbl1 hl1 hr1 hs1 hr
      go_wp2_with (fail)
      have hbx0 : (((wr.setCell ⟨go, i.toNat * 6 + 5, none⟩ (.int .i64 xs.length)).alloc (.cells #[.pointer (some ⟨b, 0, none⟩), .int .i64 i] 81)).alloc (.cells #[.int .i64 n.f0, .int .i64 n.f1, .int .i64 n.f2, .int .i64 n.f3, .int .i64 ((xs.length : Int) + 1), .int .i64 n.f5] 50)).drew.cell? ⟨wr.heap.size, 0, none⟩ = some (.pointer (some ⟨b, 0, none⟩)) := cell_al _ (World.cell?_alloc_at _ _ _ _ (by simp))
      have hb7 : (((wr.setCell ⟨go, i.toNat * 6 + 5, none⟩ (.int .i64 xs.length)).alloc (.cells #[.pointer (some ⟨b, 0, none⟩), .int .i64 i] 81)).alloc (.cells #[.int .i64 n.f0, .int .i64 n.f1, .int .i64 n.f2, .int .i64 n.f3, .int .i64 ((xs.length : Int) + 1), .int .i64 n.f5] 50)).drew.cell? ⟨b, 7, none⟩ = some (.pointer (some ⟨bl, 0, none⟩)) := cell_al _ (cell_al _ ((World.cell?_setCell_other _ _ _ _ (by intro e_; injection e_ with e_; omega)).trans hc7))
      have hb8 : (((wr.setCell ⟨go, i.toNat * 6 + 5, none⟩ (.int .i64 xs.length)).alloc (.cells #[.pointer (some ⟨b, 0, none⟩), .int .i64 i] 81)).alloc (.cells #[.int .i64 n.f0, .int .i64 n.f1, .int .i64 n.f2, .int .i64 n.f3, .int .i64 ((xs.length : Int) + 1), .int .i64 n.f5] 50)).drew.cell? ⟨b, 8, none⟩ = some (.pointer pR) := cell_al _ (cell_al _ ((World.cell?_setCell_other _ _ _ _ (by intro e_; injection e_ with e_; omega)).trans hc8))
      have hsz : (((wr.setCell ⟨go, i.toNat * 6 + 5, none⟩ (.int .i64 xs.length)).alloc (.cells #[.pointer (some ⟨b, 0, none⟩), .int .i64 i] 81)).alloc (.cells #[.int .i64 n.f0, .int .i64 n.f1, .int .i64 n.f2, .int .i64 n.f3, .int .i64 ((xs.length : Int) + 1), .int .i64 n.f5] 50)).heap.size = wr.heap.size + 2 := by simp
      have hbl2 : Below w.heap.size w (((wr.setCell ⟨go, i.toNat * 6 + 5, none⟩ (.int .i64 xs.length)).alloc (.cells #[.pointer (some ⟨b, 0, none⟩), .int .i64 i] 81)).alloc (.cells #[.int .i64 n.f0, .int .i64 n.f1, .int .i64 n.f2, .int .i64 n.f3, .int .i64 ((xs.length : Int) + 1), .int .i64 n.f5] 50)) := (HM.out.bel.alloc HM.out.bel.size _).alloc (by have h_ := HM.out.bel.size; simp at h_ ⊢; omega) _
      have HB2 := Am hbl2
      have hnb : (((wr.setCell ⟨go, i.toNat * 6 + 5, none⟩ (.int .i64 xs.length)).alloc (.cells #[.pointer (some ⟨b, 0, none⟩), .int .i64 i] 81)).alloc (.cells #[.int .i64 n.f0, .int .i64 n.f1, .int .i64 n.f2, .int .i64 n.f3, .int .i64 ((xs.length : Int) + 1), .int .i64 n.f5] 50)).heap[wr.heap.size + 1]? = some (.cells #[.int .i64 n.f0, .int .i64 n.f1, .int .i64 n.f2, .int .i64 n.f3, .int .i64 ((xs.length : Int) + 1), .int .i64 n.f5] 50 (0, 0)) := by have h_ := heap_alloc_new ((wr.setCell ⟨go, i.toNat * 6 + 5, none⟩ (.int .i64 xs.length)).alloc (.cells #[.pointer (some ⟨b, 0, none⟩), .int .i64 i] 81)) (.cells #[.int .i64 n.f0, .int .i64 n.f1, .int .i64 n.f2, .int .i64 n.f3, .int .i64 ((xs.length : Int) + 1), .int .i64 n.f5] 50); simpa using h_
      have HNB := Am hnb
      have hb12 : Below (wr.setCell ⟨go, i.toNat * 6 + 5, none⟩ (.int .i64 xs.length)).heap.size (wr.setCell ⟨go, i.toNat * 6 + 5, none⟩ (.int .i64 xs.length)) (((wr.setCell ⟨go, i.toNat * 6 + 5, none⟩ (.int .i64 xs.length)).alloc (.cells #[.pointer (some ⟨b, 0, none⟩), .int .i64 i] 81)).alloc (.cells #[.int .i64 n.f0, .int .i64 n.f1, .int .i64 n.f2, .int .i64 n.f3, .int .i64 ((xs.length : Int) + 1), .int .i64 n.f5] 50)) := ((Below.refl _ _).alloc (Nat.le_refl _) _).alloc (by simp) _
      have HB12 := Am hb12
      have hos : (((wr.setCell ⟨go, i.toNat * 6 + 5, none⟩ (.int .i64 xs.length)).alloc (.cells #[.pointer (some ⟨b, 0, none⟩), .int .i64 i] 81)).alloc (.cells #[.int .i64 n.f0, .int .i64 n.f1, .int .i64 n.f2, .int .i64 n.f3, .int .i64 ((xs.length : Int) + 1), .int .i64 n.f5] 50)).ownsRow w.heap.size 81 2 (.slice (some ⟨gs, 0, none⟩) L.length cs) L.length (itL L.reverse) := (HM.out.own.alloc _).alloc _
      have HOS := Am hos
      clear hbl2 hnb hb12 hos
      generalize (((wr.setCell ⟨go, i.toNat * 6 + 5, none⟩ (.int .i64 xs.length)).alloc (.cells #[.pointer (some ⟨b, 0, none⟩), .int .i64 i] 81)).alloc (.cells #[.int .i64 n.f0, .int .i64 n.f1, .int .i64 n.f2, .int .i64 n.f3, .int .i64 ((xs.length : Int) + 1), .int .i64 n.f5] 50)) = w2 at hbx0 hb7 hb8 hsz HB2 HNB HB12 HOS ⊢
      refine sT 18 [16] (S := fun w' => w'.cell? ⟨wr.heap.size, 0, none⟩ = some (.pointer (some ⟨b, 0, none⟩)) ∧ w'.cell? ⟨b, 7, none⟩ = some (.pointer (some ⟨bl, 0, none⟩)) ∧ w'.cell? ⟨b, 8, none⟩ = some (.pointer pR)) ⟨hbx0, hb7, hb8⟩ fun hHeld => ?_
      refine pu 0 49 ?_
      refine pu 1 50 ?_
      refine pu 6 55 ?_
      refine pu 7 56 ?_
      refine pu 9 58 ?_
      refine ta 2 51 hHeld ?_
      refine pu 3 52 ?_
      refine pu 4 53 ?_
      refine ta 5 54 hHeld ?_
      refine pu 8 57 ?_
      refine ta 10 59 hHeld ?_
      refine pu 11 60 ?_
      refine pu 12 61 ?_
      refine ta 13 62 hHeld ?_
      refine pu 14 63 ?_
      refine on 15 64 fun K hK => ?_
      refine value_ (w1 := ?_) (v := ?_) (by rfl) rfl ?_ ?_
      rotate_left 2
      ·go_simp
       constructor
       ·rfl
       ·rfl
      refine hK.out _ _ ⟨cell_al _ hHeld.1, cell_al _ hHeld.2.1, cell_al _ hHeld.2.2⟩ (fun hHeld => ?_)
      clear hK K
      refine nm 64 ?_
      refine last_ (i := 16) (N := some 65) #[true, true, true, true, true, true, true, true, true, true, true, true, true, true, true, true, true, false] rfl rfl (by kernel_rfl) (by decide) (fun K hK => ?_)
      refine own_append_step (by rfl) (.tmp 49) (.tmp 64) 82 (by rfl) w.heap.size 81 i0 _ 2 16 Tryd.underlying82 hi0 hz0 hsz0 hby0 rfl (by decide) (.slice (some ⟨gs, 0, none⟩) L.length cs) L.length (itL L.reverse) rfl ?c0 _ 2 2 (itL [(pR, (xs.length : Int)), (some ⟨bl, 0, none⟩, -1)]) rfl rfl ?c1 ?c2 ?c3 ?c4 ?c5 ?_
      case c0 => exact (HOS.out.drew).alloc _
      case c1 => exact World.news_of_block (cs := #[.pointer pR, .int .i64 (xs.length : Int), .pointer (some ⟨bl, 0, none⟩), .int .i64 (-1)]) (t := 81) (fr := (0, 0)) (by have h_ := heap_alloc_new w2 (.cells #[.pointer pR, .int .i64 (xs.length : Int), .pointer (some ⟨bl, 0, none⟩), .int .i64 (-1)] 81); rw [hsz] at h_; exact h_)
      case c2 => simp [itL, Value.oneCell']
      case c3 => simp only [maxLen]; omega
      case c4 => omega
      case c5 => have h_ := HB2.out.size; first | omega | (show _ ≤ (w2.alloc _).heap.size; rw [World.size_alloc]; omega)
      intro vs' w3 hown hg hat
      refine hK.out _ _ ?_
      clear hK K
      refine nm 65 ?_
      refine pu 17 4 ?_
      refine done_ (by kernel_rfl) ?_
      try clear hHeld
      have HOW := Am hown
      have HG := Am hg
      have HAT := Am hat
      have hnb3 : w3.heap[wr.heap.size + 1]? = some (.cells #[.int .i64 n.f0, .int .i64 n.f1, .int .i64 n.f2, .int .i64 n.f3, .int .i64 ((xs.length : Int) + 1), .int .i64 n.f5] 50 (0, 0)) := (hg.block (wr.heap.size + 1) (by show _ < (w2.alloc _).heap.size; rw [World.size_alloc]; omega) (by simp [Value.ownBlock]; omega)).trans ((Below.heap_alloc _ _ _ (by show _ < w2.heap.size; omega)).trans HNB.out)
      have hnc0 : w3.cell? ⟨wr.heap.size + 1, 0, none⟩ = some (.int .i64 n.f0) := (cell_of hnb3 0).trans rfl
      have hnc1 : w3.cell? ⟨wr.heap.size + 1, 1, none⟩ = some (.int .i64 n.f1) := (cell_of hnb3 1).trans rfl
      have hnc2 : w3.cell? ⟨wr.heap.size + 1, 2, none⟩ = some (.int .i64 n.f2) := (cell_of hnb3 2).trans rfl
      have hnc3 : w3.cell? ⟨wr.heap.size + 1, 3, none⟩ = some (.int .i64 n.f3) := (cell_of hnb3 3).trans rfl
      have hnc4 : w3.cell? ⟨wr.heap.size + 1, 4, none⟩ = some (.int .i64 ((xs.length : Int) + 1)) := (cell_of hnb3 4).trans rfl
      have hnc5 : w3.cell? ⟨wr.heap.size + 1, 5, none⟩ = some (.int .i64 n.f5) := (cell_of hnb3 5).trans rfl
      obtain ⟨A3, c3, hvs3⟩ := own_slice hown
      subst hvs3
      have hsz3 : w2.heap.size + 1 ≤ w3.heap.size := by have h_ := hg.size; simpa using h_
      clear hown hg hat hnb3
      have hb3 : Below w2.heap.size w2 (w2.alloc (.cells #[.pointer pR, .int .i64 (xs.length : Int), .pointer (some ⟨bl, 0, none⟩), .int .i64 (-1)] 81)).drew := ((Below.refl _ _).alloc (Nat.le_refl _) _).drew
      have HB3 := Am hb3
      clear hb3
      have hod : w3.ownsRow w.heap.size 50 6 (.slice (some ⟨go, 0, none⟩) xs.length co) xs.length (rowL (setR xs i xs.length)) := by
       have h_ := pw_own_below (pw_own_below HM.out.out HB12.out) HB3.out
       rw [setR_len] at h_
       exact h_.kept HG.out (by rcases own_type_ne HM.out.out HM.out.own (by decide) with e | e; exact .inl e; exact .inr e)
      have HOD := Am hod
      clear hod
      go_wp2_with (at_builtin; refine wpList_append_own_at _ rfl (.tmp 66) (.tmp 68) 44 rfl w.heap.size 50 i34 _ 6 48 Tryd.underlying44 hi34 hz340 hz341 hz342 rfl (by decide) (.slice (some ⟨go, 0, none⟩) xs.length co) xs.length (rowL (setR xs i xs.length)) rfl ?d0 _ 1 1 (ndL ⟨n.f0, n.f1, n.f2, n.f3, (xs.length : Int) + 1, n.f5⟩) rfl rfl ?d1 ?d2 ?d3 ?d4 ?d5 ?_)
      case d0 => exact HOD.out.alloc _
      case d1 => first | exact fun _ _ h_ => h_ | exact World.news_of_block (heap_alloc_new _ _)
      case d2 => simp [ndL, Value.oneCell']
      case d3 => simp only [maxLen]; omega
      case d4 => omega
      case d5 => have h_ := HB2.out.size; first | (simp only [World.size_alloc]; omega) | omega
      intro v' w5 hown2 hg2 hnil2 hat2
      obtain ⟨A', c', hv'⟩ := own_slice hown2
      subst hv'
      have hres := flat_inner HI.out HRL.out HRR.out HM.out (HB12.out.trans (HB3.out.mono HB12.out.size)) HOW.out HG.out HAT.out ((Below.refl _ _).alloc (Nat.le_refl _) _) (by rw [setR_len]; exact hown2) hg2 (gk - 1) (by have h_ := HI.out.meas; simp only [sizeR, sizeT] at h_ ⊢; omega)
      have HRES := Am hres
      have HK : gk - 1 < gk := by have h_ := HI.out.meas; omega
      clear hres hown2 hg2 hnil2 hat2
      go_wp2
      go_roundg (gk - 1)
      case measure => exact HK
      case rel => exact ⟨_, _, _, ⟨HRES.out⟩⟩
    ·have di : decide (0 ≤ i) = false := decide_eq_false hi
     have HM := Am (flat_mid0 HI.out hi)
     cases l with
     | nil =>
      obtain rfl := hl
      go_wp2_with (at_builtin; refine wpList_append_own_at _ rfl (.tmp 66) (.tmp 68) 44 rfl w.heap.size 50 i34 _ 6 48 Tryd.underlying44 hi34 hz340 hz341 hz342 rfl (by decide) (.slice Ao xs.length co) xs.length (rowL (setR xs i xs.length)) rfl ?c0 _ 1 1 (ndL n) rfl rfl ?c1 ?c2 ?c3 ?c4 ?c5 ?_)
      case c0 => have h_ := HM.out.out; rw [setR_len] at h_; exact ((h_.alloc _).alloc _).alloc _
      case c1 => exact fun _ _ h_ => h_
      case c2 => simp [ndL, Value.oneCell']
      case c3 => simp only [maxLen]; omega
      case c4 => omega
      case c5 => have h_ := HM.out.bel.size; simp at h_ ⊢; omega
      intro v' w' hown hg hnil hat
      obtain ⟨A', c', hv'⟩ := own_slice hown
      subst hv'
      have hres := flat_leaf HI.out HM.out (((Below.refl _ _).alloc (Nat.le_refl _) _).alloc (by simp) _ |>.alloc (by simp; omega) _) (by rw [setR_len]; exact hown) hg (gk - 1) (by have := HI.out.meas; simp only [sizeR, sizeT] at this; omega)
      have HRES := Am hres
      have HK : gk - 1 < gk := by have := HI.out.meas; omega
      clear hres hown hg hnil hat
      go_wp2
      go_roundg (gk - 1)
      case measure => exact HK
      case rel => exact ⟨_, _, _, ⟨HRES.out⟩⟩
     | node n1 p1 l1 r1 =>
      obtain ⟨pR, epR⟩ := hr.ptr
      subst epR
      obtain ⟨bl, vl1, vr1, hvl, hbl1, hl1, hr1, hs1⟩ := hl
      subst hvl
      have HRL : Aside0 (Rep S w (.pointer (some ⟨bl, 0, none⟩)) (.node n1 p1 l1 r1)) := ⟨⟨bl, vl1, vr1, rfl, hbl1, hl1, hr1, hs1⟩⟩
      have HRR := Am hr
      clear hbl1 hl1 hr1 hs1 hr
      go_wp2_with (fail)
      have hbx0 : ((wr.alloc (.cells #[.pointer (some ⟨b, 0, none⟩), .int .i64 i] 81)).alloc (.cells #[.int .i64 n.f0, .int .i64 n.f1, .int .i64 n.f2, .int .i64 n.f3, .int .i64 ((xs.length : Int) + 1), .int .i64 n.f5] 50)).drew.cell? ⟨wr.heap.size, 0, none⟩ = some (.pointer (some ⟨b, 0, none⟩)) := cell_al _ (World.cell?_alloc_at _ _ _ _ (by simp))
      have hb7 : ((wr.alloc (.cells #[.pointer (some ⟨b, 0, none⟩), .int .i64 i] 81)).alloc (.cells #[.int .i64 n.f0, .int .i64 n.f1, .int .i64 n.f2, .int .i64 n.f3, .int .i64 ((xs.length : Int) + 1), .int .i64 n.f5] 50)).drew.cell? ⟨b, 7, none⟩ = some (.pointer (some ⟨bl, 0, none⟩)) := cell_al _ (cell_al _ (hc7))
      have hb8 : ((wr.alloc (.cells #[.pointer (some ⟨b, 0, none⟩), .int .i64 i] 81)).alloc (.cells #[.int .i64 n.f0, .int .i64 n.f1, .int .i64 n.f2, .int .i64 n.f3, .int .i64 ((xs.length : Int) + 1), .int .i64 n.f5] 50)).drew.cell? ⟨b, 8, none⟩ = some (.pointer pR) := cell_al _ (cell_al _ (hc8))
      have hsz : ((wr.alloc (.cells #[.pointer (some ⟨b, 0, none⟩), .int .i64 i] 81)).alloc (.cells #[.int .i64 n.f0, .int .i64 n.f1, .int .i64 n.f2, .int .i64 n.f3, .int .i64 ((xs.length : Int) + 1), .int .i64 n.f5] 50)).heap.size = wr.heap.size + 2 := by simp
      have hbl2 : Below w.heap.size w ((wr.alloc (.cells #[.pointer (some ⟨b, 0, none⟩), .int .i64 i] 81)).alloc (.cells #[.int .i64 n.f0, .int .i64 n.f1, .int .i64 n.f2, .int .i64 n.f3, .int .i64 ((xs.length : Int) + 1), .int .i64 n.f5] 50)) := (HM.out.bel.alloc HM.out.bel.size _).alloc (by have h_ := HM.out.bel.size; simp at h_ ⊢; omega) _
      have HB2 := Am hbl2
      have hnb : ((wr.alloc (.cells #[.pointer (some ⟨b, 0, none⟩), .int .i64 i] 81)).alloc (.cells #[.int .i64 n.f0, .int .i64 n.f1, .int .i64 n.f2, .int .i64 n.f3, .int .i64 ((xs.length : Int) + 1), .int .i64 n.f5] 50)).heap[wr.heap.size + 1]? = some (.cells #[.int .i64 n.f0, .int .i64 n.f1, .int .i64 n.f2, .int .i64 n.f3, .int .i64 ((xs.length : Int) + 1), .int .i64 n.f5] 50 (0, 0)) := by have h_ := heap_alloc_new (wr.alloc (.cells #[.pointer (some ⟨b, 0, none⟩), .int .i64 i] 81)) (.cells #[.int .i64 n.f0, .int .i64 n.f1, .int .i64 n.f2, .int .i64 n.f3, .int .i64 ((xs.length : Int) + 1), .int .i64 n.f5] 50); simpa using h_
      have HNB := Am hnb
      have hb12 : Below wr.heap.size wr ((wr.alloc (.cells #[.pointer (some ⟨b, 0, none⟩), .int .i64 i] 81)).alloc (.cells #[.int .i64 n.f0, .int .i64 n.f1, .int .i64 n.f2, .int .i64 n.f3, .int .i64 ((xs.length : Int) + 1), .int .i64 n.f5] 50)) := ((Below.refl _ _).alloc (Nat.le_refl _) _).alloc (by simp) _
      have HB12 := Am hb12
      have hos : ((wr.alloc (.cells #[.pointer (some ⟨b, 0, none⟩), .int .i64 i] 81)).alloc (.cells #[.int .i64 n.f0, .int .i64 n.f1, .int .i64 n.f2, .int .i64 n.f3, .int .i64 ((xs.length : Int) + 1), .int .i64 n.f5] 50)).ownsRow w.heap.size 81 2 (.slice (some ⟨gs, 0, none⟩) L.length cs) L.length (itL L.reverse) := (HM.out.own.alloc _).alloc _
      have HOS := Am hos
      clear hbl2 hnb hb12 hos
      generalize ((wr.alloc (.cells #[.pointer (some ⟨b, 0, none⟩), .int .i64 i] 81)).alloc (.cells #[.int .i64 n.f0, .int .i64 n.f1, .int .i64 n.f2, .int .i64 n.f3, .int .i64 ((xs.length : Int) + 1), .int .i64 n.f5] 50)) = w2 at hbx0 hb7 hb8 hsz HB2 HNB HB12 HOS ⊢
      refine sT 18 [16] (S := fun w' => w'.cell? ⟨wr.heap.size, 0, none⟩ = some (.pointer (some ⟨b, 0, none⟩)) ∧ w'.cell? ⟨b, 7, none⟩ = some (.pointer (some ⟨bl, 0, none⟩)) ∧ w'.cell? ⟨b, 8, none⟩ = some (.pointer pR)) ⟨hbx0, hb7, hb8⟩ fun hHeld => ?_
      refine pu 0 49 ?_
      refine pu 1 50 ?_
      refine pu 6 55 ?_
      refine pu 7 56 ?_
      refine pu 9 58 ?_
      refine ta 2 51 hHeld ?_
      refine pu 3 52 ?_
      refine pu 4 53 ?_
      refine ta 5 54 hHeld ?_
      refine pu 8 57 ?_
      refine ta 10 59 hHeld ?_
      refine pu 11 60 ?_
      refine pu 12 61 ?_
      refine ta 13 62 hHeld ?_
      refine pu 14 63 ?_
      refine on 15 64 fun K hK => ?_
      refine value_ (w1 := ?_) (v := ?_) (by rfl) rfl ?_ ?_
      rotate_left 2
      ·go_simp
       constructor
       ·rfl
       ·rfl
      refine hK.out _ _ ⟨cell_al _ hHeld.1, cell_al _ hHeld.2.1, cell_al _ hHeld.2.2⟩ (fun hHeld => ?_)
      clear hK K
      refine nm 64 ?_
      refine last_ (i := 16) (N := some 65) #[true, true, true, true, true, true, true, true, true, true, true, true, true, true, true, true, true, false] rfl rfl (by kernel_rfl) (by decide) (fun K hK => ?_)
      refine own_append_step (by rfl) (.tmp 49) (.tmp 64) 82 (by rfl) w.heap.size 81 i0 _ 2 16 Tryd.underlying82 hi0 hz0 hsz0 hby0 rfl (by decide) (.slice (some ⟨gs, 0, none⟩) L.length cs) L.length (itL L.reverse) rfl ?c0 _ 2 2 (itL [(pR, (xs.length : Int)), (some ⟨bl, 0, none⟩, -1)]) rfl rfl ?c1 ?c2 ?c3 ?c4 ?c5 ?_
      case c0 => exact (HOS.out.drew).alloc _
      case c1 => exact World.news_of_block (cs := #[.pointer pR, .int .i64 (xs.length : Int), .pointer (some ⟨bl, 0, none⟩), .int .i64 (-1)]) (t := 81) (fr := (0, 0)) (by have h_ := heap_alloc_new w2 (.cells #[.pointer pR, .int .i64 (xs.length : Int), .pointer (some ⟨bl, 0, none⟩), .int .i64 (-1)] 81); rw [hsz] at h_; exact h_)
      case c2 => simp [itL, Value.oneCell']
      case c3 => simp only [maxLen]; omega
      case c4 => omega
      case c5 => have h_ := HB2.out.size; first | omega | (show _ ≤ (w2.alloc _).heap.size; rw [World.size_alloc]; omega)
      intro vs' w3 hown hg hat
      refine hK.out _ _ ?_
      clear hK K
      refine nm 65 ?_
      refine pu 17 4 ?_
      refine done_ (by kernel_rfl) ?_
      try clear hHeld
      have HOW := Am hown
      have HG := Am hg
      have HAT := Am hat
      have hnb3 : w3.heap[wr.heap.size + 1]? = some (.cells #[.int .i64 n.f0, .int .i64 n.f1, .int .i64 n.f2, .int .i64 n.f3, .int .i64 ((xs.length : Int) + 1), .int .i64 n.f5] 50 (0, 0)) := (hg.block (wr.heap.size + 1) (by show _ < (w2.alloc _).heap.size; rw [World.size_alloc]; omega) (by simp [Value.ownBlock]; omega)).trans ((Below.heap_alloc _ _ _ (by show _ < w2.heap.size; omega)).trans HNB.out)
      have hnc0 : w3.cell? ⟨wr.heap.size + 1, 0, none⟩ = some (.int .i64 n.f0) := (cell_of hnb3 0).trans rfl
      have hnc1 : w3.cell? ⟨wr.heap.size + 1, 1, none⟩ = some (.int .i64 n.f1) := (cell_of hnb3 1).trans rfl
      have hnc2 : w3.cell? ⟨wr.heap.size + 1, 2, none⟩ = some (.int .i64 n.f2) := (cell_of hnb3 2).trans rfl
      have hnc3 : w3.cell? ⟨wr.heap.size + 1, 3, none⟩ = some (.int .i64 n.f3) := (cell_of hnb3 3).trans rfl
      have hnc4 : w3.cell? ⟨wr.heap.size + 1, 4, none⟩ = some (.int .i64 ((xs.length : Int) + 1)) := (cell_of hnb3 4).trans rfl
      have hnc5 : w3.cell? ⟨wr.heap.size + 1, 5, none⟩ = some (.int .i64 n.f5) := (cell_of hnb3 5).trans rfl
      obtain ⟨A3, c3, hvs3⟩ := own_slice hown
      subst hvs3
      have hsz3 : w2.heap.size + 1 ≤ w3.heap.size := by have h_ := hg.size; simpa using h_
      clear hown hg hat hnb3
      have hb3 : Below w2.heap.size w2 (w2.alloc (.cells #[.pointer pR, .int .i64 (xs.length : Int), .pointer (some ⟨bl, 0, none⟩), .int .i64 (-1)] 81)).drew := ((Below.refl _ _).alloc (Nat.le_refl _) _).drew
      have HB3 := Am hb3
      clear hb3
      have hod : w3.ownsRow w.heap.size 50 6 (.slice Ao xs.length co) xs.length (rowL (setR xs i xs.length)) := by
       have h_ := pw_own_below (pw_own_below HM.out.out HB12.out) HB3.out
       rw [setR_len] at h_
       exact h_.kept HG.out (by rcases own_type_ne HM.out.out HM.out.own (by decide) with e | e; exact .inl e; exact .inr e)
      have HOD := Am hod
      clear hod
      go_wp2_with (at_builtin; refine wpList_append_own_at _ rfl (.tmp 66) (.tmp 68) 44 rfl w.heap.size 50 i34 _ 6 48 Tryd.underlying44 hi34 hz340 hz341 hz342 rfl (by decide) (.slice Ao xs.length co) xs.length (rowL (setR xs i xs.length)) rfl ?d0 _ 1 1 (ndL ⟨n.f0, n.f1, n.f2, n.f3, (xs.length : Int) + 1, n.f5⟩) rfl rfl ?d1 ?d2 ?d3 ?d4 ?d5 ?_)
      case d0 => exact HOD.out.alloc _
      case d1 => first | exact fun _ _ h_ => h_ | exact World.news_of_block (heap_alloc_new _ _)
      case d2 => simp [ndL, Value.oneCell']
      case d3 => simp only [maxLen]; omega
      case d4 => omega
      case d5 => have h_ := HB2.out.size; first | (simp only [World.size_alloc]; omega) | omega
      intro v' w5 hown2 hg2 hnil2 hat2
      obtain ⟨A', c', hv'⟩ := own_slice hown2
      subst hv'
      have hres := flat_inner HI.out HRL.out HRR.out HM.out (HB12.out.trans (HB3.out.mono HB12.out.size)) HOW.out HG.out HAT.out ((Below.refl _ _).alloc (Nat.le_refl _) _) (by rw [setR_len]; exact hown2) hg2 (gk - 1) (by have h_ := HI.out.meas; simp only [sizeR, sizeT] at h_ ⊢; omega)
      have HRES := Am hres
      have HK : gk - 1 < gk := by have h_ := HI.out.meas; omega
      clear hres hown2 hg2 hnil2 hat2
      go_wp2
      go_roundg (gk - 1)
      case measure => exact HK
      case rel => exact ⟨_, _, _, ⟨HRES.out⟩⟩
end
def nb (B : Nat) (j : Nat) : Option Addr := some ⟨B + 2 + 2 * j, 0, none⟩
def lpV (B : Nat) (t : List S34) (j : Nat) : Option Addr := if 0 ≤ (t.getD j z34).f4 then nb B (t.getD j z34).f4.toNat else none
def rpV (B : Nat) (t : List S34) (j : Nat) : Option Addr := if 0 ≤ (t.getD j z34).f4 then nb B (t.getD j z34).f5.toNat else none
structure Forest (w W : World) (t : List S34) (n1 n2 : Nat) : Prop where
 ptrs : W.rowIs w.heap.size 60 t.length (fun j => .pointer (if j < n1 then nb w.heap.size j else none))
 nodes : ∀ j, j < n1 → W.heap[w.heap.size + 2 + 2 * j]? = some (.cells (ndCells (t.getD j z34) j (.pointer (if j < n2 then lpV w.heap.size t j else none)) (.pointer (if j < n2 then rpV w.heap.size t j else none))) 66 (0, 0))
 bel : Below w.heap.size w W
theorem rowIs_put {w : World} {b : Nat} {t : TypeId} {n : Nat} {f : Nat → Value} (h : w.rowIs b t n f) (i : Nat) (v : Value) : (w.setCell ⟨b, i, none⟩ v).rowIs b t n (fun j => if j = i then v else f j) := by
 obtain ⟨c, hb, hc, hf⟩ := h
 refine ⟨c.setIfInBounds i v, put_blk hb i v, by simpa using hc, fun j hj => ?_⟩
 rw [Array.getElem?_setIfInBounds]
 by_cases e : i = j
 ·subst e; simp [hc, hj]
 ·rw [if_neg e]; simp only [if_neg (show ¬ j = i from fun h => e h.symm)]; exact hf j hj
theorem rowIs_blk {w w' : World} {b : Nat} {t : TypeId} {n : Nat} {f : Nat → Value} (h : w.rowIs b t n f) (hb : w'.heap[b]? = w.heap[b]?) : w'.rowIs b t n f := by
 obtain ⟨c, h1, h2⟩ := h
 exact ⟨c, hb.trans h1, h2⟩
theorem rowIs_cell {w : World} {b : Nat} {t : TypeId} {n : Nat} {f : Nat → Value} (h : w.rowIs b t n f) (i : Nat) (hi : i < n) : w.cell? ⟨b, i, none⟩ = some (f i) := by
 obtain ⟨c, h1, h2, h3⟩ := h
 exact (cell_of h1 i).trans (h3 i hi)
theorem rowIs_frz {w : World} {b : Nat} {t : TypeId} {n : Nat} {f : Nat → Value} (h : w.rowIs b t n f) (i : Nat) : w.frozen? ⟨b, i, none⟩ = false := by
 obtain ⟨c, h1, _⟩ := h
 exact frz_of h1 i
theorem rowIs_lt {w : World} {b : Nat} {t : TypeId} {n : Nat} {f : Nat → Value} (h : w.rowIs b t n f) : b < w.heap.size := by
 obtain ⟨c, h1, _⟩ := h
 exact (Array.getElem?_eq_some_iff.1 h1).1
theorem rowIs_congr {w : World} {b : Nat} {t : TypeId} {n : Nat} {f g : Nat → Value} (h : w.rowIs b t n f) (hfg : ∀ j, j < n → f j = g j) : w.rowIs b t n g := by
 obtain ⟨c, h1, h2, h3⟩ := h
 exact ⟨c, h1, h2, fun i hi => (h3 i hi).trans (by rw [hfg i hi])⟩
theorem forest_start (w : World) (t : List S34) : Forest w (w.alloc (.cells (madeCells #[.pointer none] t.length) 60)) t 0 0 := by
 refine ⟨?_, fun j h => absurd h (Nat.not_lt_zero _), (Below.refl _ _).alloc (Nat.le_refl _) _⟩
 have h := World.rowIs_made w (.pointer none) t.length 60
 exact rowIs_congr h (fun j _ => by simp)
theorem forest_step1 {w wr : World} {t : List S34} {i : Nat} (hi : i < t.length) (h : Forest w wr t i 0) (hs : wr.heap.size = w.heap.size + 1 + 2 * i) (o : Obj) :
  Forest w (((wr.setCell ⟨w.heap.size, i, none⟩ (.pointer (some ⟨wr.heap.size + 1, 0, none⟩))).alloc o).alloc (.cells (ndCells (t.getD i z34) i (.pointer none) (.pointer none)) 66)) t (i + 1) 0
  ∧ (((wr.setCell ⟨w.heap.size, i, none⟩ (.pointer (some ⟨wr.heap.size + 1, 0, none⟩))).alloc o).alloc (.cells (ndCells (t.getD i z34) i (.pointer none) (.pointer none)) 66)).heap.size = w.heap.size + 1 + 2 * (i + 1) := by
 have hsz : (wr.setCell ⟨w.heap.size, i, none⟩ (.pointer (some ⟨wr.heap.size + 1, 0, none⟩))).heap.size = wr.heap.size := by simp [World.setCell]
 refine ⟨⟨?_, fun j hj => ?_, ?_⟩, ?_⟩
 ·have h1 := rowIs_put h.ptrs i (.pointer (some ⟨wr.heap.size + 1, 0, none⟩))
  refine rowIs_congr (rowIs_blk h1 ?_) (fun j hj => ?_)
  ·rw [Below.heap_alloc _ _ _ (by rw [World.size_alloc, hsz]; omega), Below.heap_alloc _ _ _ (by rw [hsz]; omega)]
  ·by_cases e : j = i
   ·subst e; simp only [if_pos (show j < j + 1 by omega), nb, hs]; rw [show w.heap.size + 1 + 2 * j + 1 = w.heap.size + 2 + 2 * j by omega]; simp
   ·by_cases e2 : j < i
    ·simp only [if_neg e, if_pos e2, if_pos (show j < i + 1 by omega)]
    ·simp only [if_neg e, if_neg e2, if_neg (show ¬ j < i + 1 by omega)]
 ·by_cases e : j = i
  ·subst e
   have h2 := heap_alloc_new ((wr.setCell ⟨w.heap.size, j, none⟩ (.pointer (some ⟨wr.heap.size + 1, 0, none⟩))).alloc o) (.cells (ndCells (t.getD j z34) j (.pointer none) (.pointer none)) 66)
   rw [World.size_alloc, hsz, hs] at h2
   rw [show w.heap.size + 2 + 2 * j = w.heap.size + 1 + 2 * j + 1 by omega]
   rw [hs]
   exact h2
  ·rw [Below.heap_alloc _ _ _ (by rw [World.size_alloc, hsz]; omega), Below.heap_alloc _ _ _ (by rw [hsz]; omega), Below.heap_setCell _ _ _ _ (by show _ ≠ w.heap.size; omega)]
   exact h.nodes j (by omega)
 ·exact ((h.bel.setCell (p := ⟨w.heap.size, i, none⟩) (Nat.le_refl _) _).alloc (by rw [hsz]; omega) _).alloc (by rw [World.size_alloc, hsz]; omega) _
 ·rw [World.size_alloc, World.size_alloc, hsz]; omega
theorem forest_skip {w wr : World} {t : List S34} {i : Nat} (h : Forest w wr t t.length i) (hl : ¬ 0 ≤ (t.getD i z34).f4) (o : Obj) : Forest w (wr.alloc o) t t.length (i + 1) := by
 have hB := rowIs_lt h.ptrs
 refine ⟨rowIs_blk h.ptrs (Below.heap_alloc _ _ _ hB), fun j hj => ?_, h.bel.alloc h.bel.size _⟩
 have hn := h.nodes j hj
 rw [Below.heap_alloc _ _ _ (Array.getElem?_eq_some_iff.1 hn).1, hn]
 by_cases e : j < i
 ·simp only [if_pos e, if_pos (show j < i + 1 by omega)]
 ·by_cases e2 : j = i
  ·subst e2; simp only [if_neg e, if_pos (show j < j + 1 by omega), lpV, rpV, if_neg hl]
  ·simp only [if_neg e, if_neg (show ¬ j < i + 1 by omega)]
theorem forest_alloc {w wr : World} {t : List S34} {n1 n2 : Nat} (h : Forest w wr t n1 n2) (o : Obj) : Forest w (wr.alloc o).drew t n1 n2 :=
 ⟨rowIs_blk h.ptrs (Below.heap_alloc _ _ _ (rowIs_lt h.ptrs)), fun j hj => (Below.heap_alloc _ _ _ (Array.getElem?_eq_some_iff.1 (h.nodes j hj)).1).trans (h.nodes j hj), (h.bel.alloc h.bel.size _).drew⟩
theorem forest_link {w wr : World} {t : List S34} {i : Nat} (h : Forest w wr t t.length i) (hl : 0 ≤ (t.getD i z34).f4) :
  Forest w ((wr.setCell ⟨w.heap.size + 2 + 2 * i, 7, none⟩ (.pointer (nb w.heap.size (t.getD i z34).f4.toNat))).setCell ⟨w.heap.size + 2 + 2 * i, 8, none⟩ (.pointer (nb w.heap.size (t.getD i z34).f5.toNat))) t t.length (i + 1) := by
 refine ⟨rowIs_blk h.ptrs ?_, fun j hj => ?_, ?_⟩
 ·rw [Below.heap_setCell _ _ _ _ (by show _ ≠ _; simp; omega), Below.heap_setCell _ _ _ _ (by show _ ≠ _; simp; omega)]
 ·have hn2 := h.nodes j hj
  by_cases e2 : j = i
  ·subst e2
   have h3 := put_blk (put_blk hn2 7 (.pointer (nb w.heap.size (t.getD j z34).f4.toNat))) 8 (.pointer (nb w.heap.size (t.getD j z34).f5.toNat))
   rw [h3]
   simp only [if_pos (show j < j + 1 by omega), lpV, rpV, if_pos hl]
   rfl
  ·rw [Below.heap_setCell _ _ _ _ (by show _ ≠ _; simp; omega), Below.heap_setCell _ _ _ _ (by show _ ≠ _; simp; omega), hn2]
   by_cases e : j < i
   ·simp only [if_pos e, if_pos (show j < i + 1 by omega)]
   ·simp only [if_neg e, if_neg (show ¬ j < i + 1 by omega)]
 ·exact (h.bel.setCell (p := ⟨w.heap.size + 2 + 2 * i, 7, none⟩) (by simp; omega) _).setCell (p := ⟨w.heap.size + 2 + 2 * i, 8, none⟩) (by simp; omega) _
theorem info92 : (Tryd.prog.info? 60).map (fun i => (i.zero, i.size, i.bytes)) = some (some (.pointer none), 1, 8) := by kernel_rfl
def GrowPost (w : World) (t : List S34) (e : Ending) (w' : World) : Prop := e = .returned (.slice (some ⟨w.heap.size, 0, none⟩) t.length t.length) ∧ Forest w w' t t.length t.length
def ndL' (n : S34) : List Value := [.int .i64 n.f0, .int .i64 n.f1, .int .i64 n.f2, .int .i64 n.f3, .int .i64 n.f4, .int .i64 n.f5]
theorem grow_any (A0 : Option Addr) (c0 : Nat) (t : List S34) (w : World) (hr0 : Kd.C k34 w A0 t.length t) (hn : t.length ≤ 1000000)
  (hc : ∀ i, i < t.length → 0 ≤ (t.getD i z34).f4 → (t.getD i z34).f4 < t.length ∧ 0 ≤ (t.getD i z34).f5 ∧ (t.getD i z34).f5 < t.length) :
  Calls Tryd.prog 31 #[.slice A0 t.length c0] w fun e w' => GrowPost w t e w' := by
 have hu34 := Tryd.underlying50
 have hu116 := Tryd.underlying66
 have HR0 := Am hr0
 have HC := Am hc
 clear hr0 hc
 have hmk := fun W => run_make_row' (P := Tryd.prog) 57 60 (.pointer none) 8 Tryd.underlying57 info92 rfl .i64 .i64 t.length (by omega) (by omega) W
 have hfin : ∀ w', Forest w w' t t.length t.length → GrowPost w t (.returned (.slice (some ⟨w.heap.size, 0, none⟩) t.length t.length)) w' := fun w' h => ⟨rfl, h⟩
 have HF := Am hfin
 clear hfin
 go_enter Tryd.func31, Tryd.ntmps31
 go_wp2
 go_loopg [13] t.length (fun gk vi wr => ∃ i : Nat, vi = .int .i64 (i : Int) ∧ i ≤ t.length ∧ Aside0 (gk + i = t.length) ∧ Aside0 (Forest w wr t i 0) ∧ Aside0 (wr.heap.size = w.heap.size + 1 + 2 * i))
 case atStart => exact ⟨0, rfl, Nat.zero_le _, ⟨rfl⟩, ⟨forest_start w t⟩, ⟨by simp⟩⟩
 case round =>
  clear hmk
  obtain ⟨i, rfl, hil, HK, HFo, HS⟩ := hrel
  by_cases hlt : i < t.length
  ·have HBL := Am HFo.out.bel
   obtain ⟨adX, eX, hx0, hx1, hx2, hx3, hx4, hx5⟩ := at_T34 HR0.out (i : Int) (by omega) (by omega)
   cases eX
   replace hx0 := (HBL.out.cell (blt w _ hx0)).trans hx0
   replace hx1 := (HBL.out.cell (blt w _ hx1)).trans hx1
   replace hx2 := (HBL.out.cell (blt w _ hx2)).trans hx2
   replace hx3 := (HBL.out.cell (blt w _ hx3)).trans hx3
   replace hx4 := (HBL.out.cell (blt w _ hx4)).trans hx4
   replace hx5 := (HBL.out.cell (blt w _ hx5)).trans hx5
   simp only [Int.toNat_natCast] at hx0 hx1 hx2 hx3 hx4 hx5
   have hcB : wr.cell? ⟨w.heap.size, i, none⟩ = some (.pointer none) := (rowIs_cell HFo.out.ptrs i hlt).trans (by simp)
   have hfB : wr.frozen? ⟨w.heap.size, i, none⟩ = false := rowIs_frz HFo.out.ptrs i
   have hBl : w.heap.size < wr.heap.size := rowIs_lt HFo.out.ptrs
   have dlt : decide (i < t.length) = true := decide_eq_true hlt
   have hst := forest_step1 hlt HFo.out HS.out (.cells (ndL' (rd_T34 t i)).toArray 50)
   have HST := Am hst
   clear hst
   go_wp2
   go_roundg (gk - 1)
   case measure => have := HK.out; omega
   case rel => exact ⟨i + 1, by go_num, by omega, ⟨by have := HK.out; omega⟩, ⟨HST.out.1⟩, ⟨HST.out.2⟩⟩
  ·obtain rfl : i = t.length := by omega
   have dlt : decide (t.length < t.length) = false := decide_eq_false (Nat.lt_irrefl _)
   clear hlt
   go_wp2
   go_loopg [28] t.length (fun gk vi wr => ∃ i : Nat, vi = .int .i64 (i : Int) ∧ i ≤ t.length ∧ Aside0 (gk + i = t.length) ∧ Aside0 (Forest w wr t t.length i))
   case atStart => exact ⟨0, rfl, Nat.zero_le _, ⟨rfl⟩, HFo⟩
   case round =>
    clear dlt HFo HS HK
    obtain ⟨i, rfl, hil, HK, HFo⟩ := hrel
    by_cases hlt : i < t.length
    ·have HBL := Am HFo.out.bel
     obtain ⟨adX, eX, hx0, hx1, hx2, hx3, hx4, hx5⟩ := at_T34 HR0.out (i : Int) (by omega) (by omega)
     cases eX
     replace hx0 := (HBL.out.cell (blt w _ hx0)).trans hx0
     replace hx1 := (HBL.out.cell (blt w _ hx1)).trans hx1
     replace hx2 := (HBL.out.cell (blt w _ hx2)).trans hx2
     replace hx3 := (HBL.out.cell (blt w _ hx3)).trans hx3
     replace hx4 := (HBL.out.cell (blt w _ hx4)).trans hx4
     replace hx5 := (HBL.out.cell (blt w _ hx5)).trans hx5
     simp only [Int.toNat_natCast] at hx0 hx1 hx2 hx3 hx4 hx5
     have dlt : decide (i < t.length) = true := decide_eq_true hlt
     have hBl : w.heap.size < wr.heap.size := rowIs_lt HFo.out.ptrs
     by_cases hL : 0 ≤ (rd_T34 t i).f4
     ·have dL : decide (0 ≤ (rd_T34 t i).f4) = true := decide_eq_true hL
      obtain ⟨hL2, hR1, hR2⟩ : (rd_T34 t i).f4 < t.length ∧ 0 ≤ (rd_T34 t i).f5 ∧ (rd_T34 t i).f5 < t.length := HC.out i hlt hL
      have HEL := Am (show (t.getD i z34).f4 = (rd_T34 t i).f4 from rfl)
      have HER := Am (show (t.getD i z34).f5 = (rd_T34 t i).f5 from rfl)
      have hpI : wr.cell? ⟨w.heap.size, i, none⟩ = some (.pointer (some ⟨w.heap.size + 2 + 2 * i, 0, none⟩)) := (rowIs_cell HFo.out.ptrs (i) (by omega)).trans (by rw [if_pos (by omega)]; rfl)
      have hpL : wr.cell? ⟨w.heap.size, (rd_T34 t i).f4.toNat, none⟩ = some (.pointer (some ⟨w.heap.size + 2 + 2 * (rd_T34 t i).f4.toNat, 0, none⟩)) := (rowIs_cell HFo.out.ptrs ((rd_T34 t i).f4.toNat) (by omega)).trans (by rw [if_pos (by omega)]; rfl)
      have hpR : wr.cell? ⟨w.heap.size, (rd_T34 t i).f5.toNat, none⟩ = some (.pointer (some ⟨w.heap.size + 2 + 2 * (rd_T34 t i).f5.toNat, 0, none⟩)) := (rowIs_cell HFo.out.ptrs ((rd_T34 t i).f5.toNat) (by omega)).trans (by rw [if_pos (by omega)]; rfl)
      have hnI := HFo.out.nodes i hlt
      have hIl : w.heap.size + 2 + 2 * i < wr.heap.size := (Array.getElem?_eq_some_iff.1 hnI).1
      have hlk := fun o => forest_alloc (forest_link HFo.out hL) o
      have HLK := Am hlk
      have HNI := Am hnI
      clear hlk hnI
      go_wp2_with (fail)
      have hbd : Below wr.heap.size wr (wr.alloc (.cells #[.int .i64 (rd_T34 t i).f0, .int .i64 (rd_T34 t i).f1, .int .i64 (rd_T34 t i).f2, .int .i64 (rd_T34 t i).f3, .int .i64 (rd_T34 t i).f4, .int .i64 (rd_T34 t i).f5] 50)).drew := (((Below.refl _ _).alloc (Nat.le_refl _) _).drew)
      have HBD := Am hbd
      clear hbd
      have hf7 := frz_of HNI.out 7
      have hf8 := frz_of HNI.out 8
      have ho7 : wr.cell? ⟨w.heap.size + 2 + 2 * i, 7, none⟩ = some (.pointer none) := (cell_of HNI.out 7).trans (by simp [ndCells])
      have ho8 : wr.cell? ⟨w.heap.size + 2 + 2 * i, 8, none⟩ = some (.pointer none) := (cell_of HNI.out 8).trans (by simp [ndCells])
      have hsa : (wr.alloc (.cells #[.int .i64 (rd_T34 t i).f0, .int .i64 (rd_T34 t i).f1, .int .i64 (rd_T34 t i).f2, .int .i64 (rd_T34 t i).f3, .int .i64 (rd_T34 t i).f4, .int .i64 (rd_T34 t i).f5] 50)).drew.cell? ⟨w.heap.size, i, none⟩ = some (.pointer (some ⟨w.heap.size + 2 + 2 * i, 0, none⟩)) := cell_al _ hpI
      have hsb : (wr.alloc (.cells #[.int .i64 (rd_T34 t i).f0, .int .i64 (rd_T34 t i).f1, .int .i64 (rd_T34 t i).f2, .int .i64 (rd_T34 t i).f3, .int .i64 (rd_T34 t i).f4, .int .i64 (rd_T34 t i).f5] 50)).drew.cell? ⟨w.heap.size, (rd_T34 t i).f4.toNat, none⟩ = some (.pointer (some ⟨w.heap.size + 2 + 2 * (rd_T34 t i).f4.toNat, 0, none⟩)) := cell_al _ hpL
      have hsc : (wr.alloc (.cells #[.int .i64 (rd_T34 t i).f0, .int .i64 (rd_T34 t i).f1, .int .i64 (rd_T34 t i).f2, .int .i64 (rd_T34 t i).f3, .int .i64 (rd_T34 t i).f4, .int .i64 (rd_T34 t i).f5] 50)).drew.cell? ⟨w.heap.size, (rd_T34 t i).f5.toNat, none⟩ = some (.pointer (some ⟨w.heap.size + 2 + 2 * (rd_T34 t i).f5.toNat, 0, none⟩)) := cell_al _ hpR
      have hsd : (wr.alloc (.cells #[.int .i64 (rd_T34 t i).f0, .int .i64 (rd_T34 t i).f1, .int .i64 (rd_T34 t i).f2, .int .i64 (rd_T34 t i).f3, .int .i64 (rd_T34 t i).f4, .int .i64 (rd_T34 t i).f5] 50)).drew.cell? ⟨wr.heap.size, 4, none⟩ = some (.int .i64 (rd_T34 t i).f4) := World.cell?_alloc_at _ _ _ _ rfl
      have hse : (wr.alloc (.cells #[.int .i64 (rd_T34 t i).f0, .int .i64 (rd_T34 t i).f1, .int .i64 (rd_T34 t i).f2, .int .i64 (rd_T34 t i).f3, .int .i64 (rd_T34 t i).f4, .int .i64 (rd_T34 t i).f5] 50)).drew.cell? ⟨wr.heap.size, 5, none⟩ = some (.int .i64 (rd_T34 t i).f5) := World.cell?_alloc_at _ _ _ _ rfl
      skip
      refine sT 24 [20, 23] (S := fun w' => w'.cell? ⟨w.heap.size, i, none⟩ = some (.pointer (some ⟨w.heap.size + 2 + 2 * i, 0, none⟩)) ∧ w'.cell? ⟨w.heap.size, (rd_T34 t i).f4.toNat, none⟩ = some (.pointer (some ⟨w.heap.size + 2 + 2 * (rd_T34 t i).f4.toNat, 0, none⟩)) ∧ w'.cell? ⟨w.heap.size, (rd_T34 t i).f5.toNat, none⟩ = some (.pointer (some ⟨w.heap.size + 2 + 2 * (rd_T34 t i).f5.toNat, 0, none⟩)) ∧ w'.cell? ⟨wr.heap.size, 4, none⟩ = some (.int .i64 (rd_T34 t i).f4) ∧ w'.cell? ⟨wr.heap.size, 5, none⟩ = some (.int .i64 (rd_T34 t i).f5)) ⟨hsa, hsb, hsc, hsd, hse⟩ fun hHeld => ?_
      refine pu 0 36 ?_
      refine pu 1 37 ?_
      refine pu 2 38 ?_
      refine pu 4 40 ?_
      refine pu 5 41 ?_
      refine pu 6 42 ?_
      refine pu 8 44 ?_
      refine pu 9 45 ?_
      refine pu 13 49 ?_
      refine pu 14 50 ?_
      refine ta 3 39 hHeld ?_
      refine ta 7 43 hHeld ?_
      refine ta 10 46 hHeld ?_
      refine pu 11 47 ?_
      refine ta 12 48 hHeld ?_
      refine ta 15 51 hHeld ?_
      refine pu 16 52 ?_
      refine ta 17 53 hHeld ?_
      refine pu 18 54 ?_
      refine pu 19 55 ?_
      refine last_ (i := 20) (N := none) #[true, true, true, true, true, true, true, true, true, true, true, true, true, true, true, true, true, true, true, true, true, false, false, false] rfl rfl (by kernel_rfl) (by decide) (fun K hK => ?_)
      refine skip_ (w1 := ?_) (by rfl) rfl ?_ ?_
      rotate_left
      ·go_simp
       rfl
      refine hK.out _ _ ?_
      clear hK K
      refine pu 21 56 ?_
      refine pu 22 57 ?_
      refine last_ (i := 23) (N := none) #[true, true, true, true, true, true, true, true, true, true, true, true, true, true, true, true, true, true, true, true, true, true, true, true] rfl rfl (by kernel_rfl) (by decide) (fun K hK => ?_)
      refine skip_ (w1 := ?_) (by rfl) rfl ?_ ?_
      rotate_left
      ·go_simp
       rfl
      refine hK.out _ _ ?_
      clear hK K
      refine done_ (by kernel_rfl) ?_
      go_wp2
      go_roundg (gk - 1)
      case measure => have := HK.out; omega
      case rel => exact ⟨i + 1, by go_num, by omega, ⟨by have := HK.out; omega⟩, ⟨HLK.out _⟩⟩
     ·have dL : decide (0 ≤ (rd_T34 t i).f4) = false := decide_eq_false hL
      have hsk := forest_skip HFo.out hL (.cells (ndL' (rd_T34 t i)).toArray 50)
      have HSK := Am hsk
      clear hsk
      go_wp2
      go_roundg (gk - 1)
      case measure => have := HK.out; omega
      case rel => exact ⟨i + 1, by go_num, by omega, ⟨by have := HK.out; omega⟩, ⟨HSK.out⟩⟩
    ·obtain rfl : i = t.length := by omega
     have dlt : decide (t.length < t.length) = false := decide_eq_false (Nat.lt_irrefl _)
     clear hlt
     go_wp2
     go_ret
     exact HF.out _ HFo.out
section
attribute [local go_sem] max2_int min2_int max_two min_two max_three min_three max_four min_four
def childB (i all : Int) : Bool := decide (1 ≤ i) && decide (i < all)
theorem child_yes (i all : Int) (g : Nat) (w : World) (hc : w.cell? ⟨g, 0, none⟩ = some (.int .i64 all)) (h0 : 1 ≤ i) (h1 : i < all) :
  Calls Tryd.prog 53 #[.int .i64 i, .pointer (some ⟨g, 0, none⟩)] w fun e w' => e = .returned (.bool true) ∧ w' = w := by
 have d0 : decide (1 ≤ i) = true := decide_eq_true h0
 have d1 : decide (i < all) = true := decide_eq_true h1
 go_enter Tryd.func53, Tryd.ntmps53
 go_wp2
 go_ret
 exact ⟨rfl, rfl⟩
theorem child_no1 (i all : Int) (g : Nat) (w : World) (hc : w.cell? ⟨g, 0, none⟩ = some (.int .i64 all)) (h0 : ¬ 1 ≤ i) :
  Calls Tryd.prog 53 #[.int .i64 i, .pointer (some ⟨g, 0, none⟩)] w fun e w' => e = .returned (.bool false) ∧ w' = w := by
 have d0 : decide (1 ≤ i) = false := decide_eq_false h0
 go_enter Tryd.func53, Tryd.ntmps53
 go_wp2
 go_ret
 exact ⟨rfl, rfl⟩
theorem child_no2 (i all : Int) (g : Nat) (w : World) (hc : w.cell? ⟨g, 0, none⟩ = some (.int .i64 all)) (h0 : 1 ≤ i) (h1 : ¬ i < all) :
  Calls Tryd.prog 53 #[.int .i64 i, .pointer (some ⟨g, 0, none⟩)] w fun e w' => e = .returned (.bool false) ∧ w' = w := by
 have d0 : decide (1 ≤ i) = true := decide_eq_true h0
 have d1 : decide (i < all) = false := decide_eq_false h1
 go_enter Tryd.func53, Tryd.ntmps53
 go_wp2
 go_ret
 exact ⟨rfl, rfl⟩
theorem child_any (i all : Int) (g : Nat) (w : World) (hc : w.cell? ⟨g, 0, none⟩ = some (.int .i64 all)) :
  Calls Tryd.prog 53 #[.int .i64 i, .pointer (some ⟨g, 0, none⟩)] w fun e w' => e = .returned (.bool (childB i all)) ∧ w' = w := by
 unfold childB
 by_cases h0 : 1 ≤ i
 ·by_cases h1 : i < all
  ·simp only [h0, h1, decide_true, Bool.and_self]; exact child_yes i all g w hc h0 h1
  ·simp only [h0, h1, decide_true, decide_false, Bool.and_false]; exact child_no2 i all g w hc h0 h1
 ·simp only [h0, decide_false, Bool.false_and]; exact child_no1 i all g w hc h0
theorem bcell {W w1 : World} (hb : Below W.heap.size W w1) : (∀ b o, b < W.heap.size → w1.cell? ⟨b, o, none⟩ = W.cell? ⟨b, o, none⟩) ∧ (∀ b o, b < W.heap.size → w1.frozen? ⟨b, o, none⟩ = W.frozen? ⟨b, o, none⟩) :=
 ⟨fun b o h => hb.cell (p := ⟨b, o, none⟩) h, fun b o h => hb.frozen (p := ⟨b, o, none⟩) h⟩
def formedB (a0 a1 a2 a3 a4 a5 all : Int) : Bool :=
 if a2 < 0 ∨ 1000000 < a2 ∨ (a1 ≠ 0 ∧ a1 ≠ 1) then false
 else if a1 = 1 ∧ (a0 ≠ 0 ∨ a3 ≠ 0) then false
 else if a4 = -1 ∧ a5 = -1 then true
 else decide (a3 = 0) && childB a4 all && childB a5 all && decide (a4 ≠ a5)
theorem formed_e1 (a0 a1 a2 a3 a4 a5 all : Int) (w : World) (h : a2 < 0 ∨ 1000000 < a2 ∨ (a1 ≠ 0 ∧ a1 ≠ 1)) :
  Calls Tryd.prog 51 #[.agg #[.int .i64 a0, .int .i64 a1, .int .i64 a2, .int .i64 a3, .int .i64 a4, .int .i64 a5], .int .i64 all] w (RB w (.bool false)) := by
 have hu34 := Tryd.underlying50
 by_cases h0 : a2 < 0
 ·clear h
  have d0 : decide (a2 < 0) = true := decide_eq_true h0
  clear h0
  go_enter Tryd.func51, Tryd.ntmps51
  go_wp2
  go_ret
  exact ⟨rfl, ((Below.refl _ _).alloc (Nat.le_refl _) _).alloc (by simp) _⟩
 ·have d0 : decide (a2 < 0) = false := decide_eq_false h0
  by_cases h1 : 1000000 < a2
  ·clear h
   have d1 : decide (1000000 < a2) = true := decide_eq_true h1
   clear h0 h1
   go_enter Tryd.func51, Tryd.ntmps51
   go_wp2
   go_ret
   exact ⟨rfl, ((Below.refl _ _).alloc (Nat.le_refl _) _).alloc (by simp) _⟩
  ·have d1 : decide (1000000 < a2) = false := decide_eq_false h1
   have d2 : (a1 != 0) = true := by rw [bne_iff_ne]; omega
   have d3 : (a1 != 1) = true := by rw [bne_iff_ne]; omega
   clear h0 h1 h
   go_enter Tryd.func51, Tryd.ntmps51
   go_wp2
   go_ret
   exact ⟨rfl, ((Below.refl _ _).alloc (Nat.le_refl _) _).alloc (by simp) _⟩
theorem formed_e2 (a0 a1 a2 a3 a4 a5 all : Int) (w : World) (h0 : 0 ≤ a2) (h1 : a2 ≤ 1000000) (h2 : a1 = 1) (h3 : a0 ≠ 0 ∨ a3 ≠ 0) :
  Calls Tryd.prog 51 #[.agg #[.int .i64 a0, .int .i64 a1, .int .i64 a2, .int .i64 a3, .int .i64 a4, .int .i64 a5], .int .i64 all] w (RB w (.bool false)) := by
 have hu34 := Tryd.underlying50
 have d0 : decide (a2 < 0) = false := decide_eq_false (by omega)
 have d1 : decide (1000000 < a2) = false := decide_eq_false (by omega)
 subst h2
 clear h0 h1
 by_cases h4 : a0 = 0
 ·have d4 : (a0 != 0) = false := by simp [h4]
  have d5 : (a3 != 0) = true := by rw [bne_iff_ne]; omega
  clear h4 h3
  go_enter Tryd.func51, Tryd.ntmps51
  go_wp2
  go_ret
  exact ⟨rfl, ((Below.refl _ _).alloc (Nat.le_refl _) _).alloc (by simp) _⟩
 ·have d4 : (a0 != 0) = true := by rw [bne_iff_ne]; omega
  clear h4 h3
  go_enter Tryd.func51, Tryd.ntmps51
  go_wp2
  go_ret
  exact ⟨rfl, ((Below.refl _ _).alloc (Nat.le_refl _) _).alloc (by simp) _⟩
theorem formed_rest (a0 a1 a2 a3 a4 a5 all : Int) (b : Bool) (w : World) (h0 : 0 ≤ a2) (h1 : a2 ≤ 1000000)
  (h4 : table_isLeaf.f a0 a1 a2 a3 a4 a5 = some b)
  (h2 : (a1 = 1 ∧ a0 = 0 ∧ a3 = 0) ∨ a1 = 0) :
  Calls Tryd.prog 51 #[.agg #[.int .i64 a0, .int .i64 a1, .int .i64 a2, .int .i64 a3, .int .i64 a4, .int .i64 a5], .int .i64 all] w fun e w' => e = .returned (.bool (b || (decide (a3 = 0) && childB a4 all && childB a5 all && decide (a4 ≠ a5)))) ∧ Below w.heap.size w w' := by
 have hu34 := Tryd.underlying50
 have d0 : decide (a2 < 0) = false := decide_eq_false (by omega)
 have d1 : decide (1000000 < a2) = false := decide_eq_false (by omega)
 clear h0 h1
 have H4 := Am h4
 clear h4
 cases b with
 | true =>
  rw [Bool.true_or]
  rcases h2 with ⟨rfl, rfl, rfl⟩ | rfl
  all_goals
   go_enter Tryd.func51, Tryd.ntmps51
   go_wp2_with (fail)
   refine (table_isLeaf.calls _ _ _ _ _ _ _ _ H4.out).mono ?_
   rintro e w' ⟨rfl, hb⟩
   go_wp2
   go_ret
   exact ⟨rfl, (((Below.refl _ _).alloc (Nat.le_refl _) _).alloc (by simp) _).trans (hb.mono (by simp; omega))⟩
 | false =>
  rw [Bool.false_or]
  rcases h2 with ⟨rfl, rfl, rfl⟩ | rfl
  ·have e5 : decide ((0:Int) = 0) = true := rfl
   rw [e5, Bool.true_and]
   clear e5
   cases h6 : childB a4 all with
   | false =>
    have h6' := Am h6
    clear h6
    rw [Bool.false_and, Bool.false_and]
    go_enter Tryd.func51, Tryd.ntmps51
    go_wp2_with (fail)
    refine (table_isLeaf.calls _ _ _ _ _ _ _ _ H4.out).mono ?_
    rintro e w' ⟨rfl, hb⟩
    obtain ⟨hc, hf⟩ := bcell hb
    have hz : w.heap.size + 2 ≤ w'.heap.size := by have := hb.size; simpa using this
    have hc0 : w'.cell? ⟨w.heap.size + 1, 0, none⟩ = some (.int .i64 all) := (hc _ _ (by simp)).trans (World.cell?_alloc_at _ _ _ _ (by simp))
    have hfin : Below w.heap.size w w' := (((Below.refl _ _).alloc (Nat.le_refl _) _).alloc (by simp) _).trans (hb.mono (by simp; omega))
    have HF := Am hfin
    clear hb hfin
    go_wp2_with (fail)
    refine (child_any _ all (w.heap.size + 1) _ hc0).mono ?_
    rw [h6'.out]
    rintro e w1 ⟨rfl, rfl⟩
    go_wp2
    go_ret
    exact ⟨rfl, HF.out⟩
   | true =>
    have h6' := Am h6
    clear h6
    rw [Bool.true_and]
    cases h7 : childB a5 all with
    | false =>
     have h7' := Am h7
     clear h7
     rw [Bool.false_and]
     go_enter Tryd.func51, Tryd.ntmps51
     go_wp2_with (fail)
     refine (table_isLeaf.calls _ _ _ _ _ _ _ _ H4.out).mono ?_
     rintro e w' ⟨rfl, hb⟩
     obtain ⟨hc, hf⟩ := bcell hb
     have hz : w.heap.size + 2 ≤ w'.heap.size := by have := hb.size; simpa using this
     have hc0 : w'.cell? ⟨w.heap.size + 1, 0, none⟩ = some (.int .i64 all) := (hc _ _ (by simp)).trans (World.cell?_alloc_at _ _ _ _ (by simp))
     have hfin : Below w.heap.size w w' := (((Below.refl _ _).alloc (Nat.le_refl _) _).alloc (by simp) _).trans (hb.mono (by simp; omega))
     have HF := Am hfin
     clear hb hfin
     go_wp2_with (fail)
     refine (child_any _ all (w.heap.size + 1) _ hc0).mono ?_
     rw [h6'.out]
     rintro e w1 ⟨rfl, rfl⟩
     go_wp2_with (fail)
     refine (child_any _ all (w.heap.size + 1) _ hc0).mono ?_
     rw [h7'.out]
     rintro e w1 ⟨rfl, rfl⟩
     go_wp2
     go_ret
     exact ⟨rfl, HF.out⟩
    | true =>
     have h7' := Am h7
     clear h7
     rw [Bool.true_and]
     by_cases h8 : a4 = a5
     ·have d8 : (a4 != a5) = false := by simp [h8]
      have e8 : decide (a4 ≠ a5) = false := decide_eq_false (by simp [h8])
      rw [e8]
      clear e8 h8
      go_enter Tryd.func51, Tryd.ntmps51
      go_wp2_with (fail)
      refine (table_isLeaf.calls _ _ _ _ _ _ _ _ H4.out).mono ?_
      rintro e w' ⟨rfl, hb⟩
      obtain ⟨hc, hf⟩ := bcell hb
      have hz : w.heap.size + 2 ≤ w'.heap.size := by have := hb.size; simpa using this
      have hc0 : w'.cell? ⟨w.heap.size + 1, 0, none⟩ = some (.int .i64 all) := (hc _ _ (by simp)).trans (World.cell?_alloc_at _ _ _ _ (by simp))
      have hfin : Below w.heap.size w w' := (((Below.refl _ _).alloc (Nat.le_refl _) _).alloc (by simp) _).trans (hb.mono (by simp; omega))
      have HF := Am hfin
      clear hb hfin
      go_wp2_with (fail)
      refine (child_any _ all (w.heap.size + 1) _ hc0).mono ?_
      rw [h6'.out]
      rintro e w1 ⟨rfl, rfl⟩
      go_wp2_with (fail)
      refine (child_any _ all (w.heap.size + 1) _ hc0).mono ?_
      rw [h7'.out]
      rintro e w1 ⟨rfl, rfl⟩
      go_wp2
      go_ret
      exact ⟨rfl, HF.out⟩
     ·have d8 : (a4 != a5) = true := by simp [h8]
      have e8 : decide (a4 ≠ a5) = true := decide_eq_true h8
      rw [e8]
      clear e8 h8
      go_enter Tryd.func51, Tryd.ntmps51
      go_wp2_with (fail)
      refine (table_isLeaf.calls _ _ _ _ _ _ _ _ H4.out).mono ?_
      rintro e w' ⟨rfl, hb⟩
      obtain ⟨hc, hf⟩ := bcell hb
      have hz : w.heap.size + 2 ≤ w'.heap.size := by have := hb.size; simpa using this
      have hc0 : w'.cell? ⟨w.heap.size + 1, 0, none⟩ = some (.int .i64 all) := (hc _ _ (by simp)).trans (World.cell?_alloc_at _ _ _ _ (by simp))
      have hfin : Below w.heap.size w w' := (((Below.refl _ _).alloc (Nat.le_refl _) _).alloc (by simp) _).trans (hb.mono (by simp; omega))
      have HF := Am hfin
      clear hb hfin
      go_wp2_with (fail)
      refine (child_any _ all (w.heap.size + 1) _ hc0).mono ?_
      rw [h6'.out]
      rintro e w1 ⟨rfl, rfl⟩
      go_wp2_with (fail)
      refine (child_any _ all (w.heap.size + 1) _ hc0).mono ?_
      rw [h7'.out]
      rintro e w1 ⟨rfl, rfl⟩
      go_wp2
      go_ret
      exact ⟨rfl, HF.out⟩
  ·by_cases h5 : a3 = 0
   ·have d5 : (a3 == 0) = true := by simp [h5]
    have e5 : decide (a3 = 0) = true := decide_eq_true h5
    rw [e5, Bool.true_and]
    clear e5 h5
    cases h6 : childB a4 all with
    | false =>
     have h6' := Am h6
     clear h6
     rw [Bool.false_and, Bool.false_and]
     go_enter Tryd.func51, Tryd.ntmps51
     go_wp2_with (fail)
     refine (table_isLeaf.calls _ _ _ _ _ _ _ _ H4.out).mono ?_
     rintro e w' ⟨rfl, hb⟩
     obtain ⟨hc, hf⟩ := bcell hb
     have hz : w.heap.size + 2 ≤ w'.heap.size := by have := hb.size; simpa using this
     have hc0 : w'.cell? ⟨w.heap.size + 1, 0, none⟩ = some (.int .i64 all) := (hc _ _ (by simp)).trans (World.cell?_alloc_at _ _ _ _ (by simp))
     have hfin : Below w.heap.size w w' := (((Below.refl _ _).alloc (Nat.le_refl _) _).alloc (by simp) _).trans (hb.mono (by simp; omega))
     have HF := Am hfin
     clear hb hfin
     go_wp2_with (fail)
     refine (child_any _ all (w.heap.size + 1) _ hc0).mono ?_
     rw [h6'.out]
     rintro e w1 ⟨rfl, rfl⟩
     go_wp2
     go_ret
     exact ⟨rfl, HF.out⟩
    | true =>
     have h6' := Am h6
     clear h6
     rw [Bool.true_and]
     cases h7 : childB a5 all with
     | false =>
      have h7' := Am h7
      clear h7
      rw [Bool.false_and]
      go_enter Tryd.func51, Tryd.ntmps51
      go_wp2_with (fail)
      refine (table_isLeaf.calls _ _ _ _ _ _ _ _ H4.out).mono ?_
      rintro e w' ⟨rfl, hb⟩
      obtain ⟨hc, hf⟩ := bcell hb
      have hz : w.heap.size + 2 ≤ w'.heap.size := by have := hb.size; simpa using this
      have hc0 : w'.cell? ⟨w.heap.size + 1, 0, none⟩ = some (.int .i64 all) := (hc _ _ (by simp)).trans (World.cell?_alloc_at _ _ _ _ (by simp))
      have hfin : Below w.heap.size w w' := (((Below.refl _ _).alloc (Nat.le_refl _) _).alloc (by simp) _).trans (hb.mono (by simp; omega))
      have HF := Am hfin
      clear hb hfin
      go_wp2_with (fail)
      refine (child_any _ all (w.heap.size + 1) _ hc0).mono ?_
      rw [h6'.out]
      rintro e w1 ⟨rfl, rfl⟩
      go_wp2_with (fail)
      refine (child_any _ all (w.heap.size + 1) _ hc0).mono ?_
      rw [h7'.out]
      rintro e w1 ⟨rfl, rfl⟩
      go_wp2
      go_ret
      exact ⟨rfl, HF.out⟩
     | true =>
      have h7' := Am h7
      clear h7
      rw [Bool.true_and]
      by_cases h8 : a4 = a5
      ·have d8 : (a4 != a5) = false := by simp [h8]
       have e8 : decide (a4 ≠ a5) = false := decide_eq_false (by simp [h8])
       rw [e8]
       clear e8 h8
       go_enter Tryd.func51, Tryd.ntmps51
       go_wp2_with (fail)
       refine (table_isLeaf.calls _ _ _ _ _ _ _ _ H4.out).mono ?_
       rintro e w' ⟨rfl, hb⟩
       obtain ⟨hc, hf⟩ := bcell hb
       have hz : w.heap.size + 2 ≤ w'.heap.size := by have := hb.size; simpa using this
       have hc0 : w'.cell? ⟨w.heap.size + 1, 0, none⟩ = some (.int .i64 all) := (hc _ _ (by simp)).trans (World.cell?_alloc_at _ _ _ _ (by simp))
       have hfin : Below w.heap.size w w' := (((Below.refl _ _).alloc (Nat.le_refl _) _).alloc (by simp) _).trans (hb.mono (by simp; omega))
       have HF := Am hfin
       clear hb hfin
       go_wp2_with (fail)
       refine (child_any _ all (w.heap.size + 1) _ hc0).mono ?_
       rw [h6'.out]
       rintro e w1 ⟨rfl, rfl⟩
       go_wp2_with (fail)
       refine (child_any _ all (w.heap.size + 1) _ hc0).mono ?_
       rw [h7'.out]
       rintro e w1 ⟨rfl, rfl⟩
       go_wp2
       go_ret
       exact ⟨rfl, HF.out⟩
      ·have d8 : (a4 != a5) = true := by simp [h8]
       have e8 : decide (a4 ≠ a5) = true := decide_eq_true h8
       rw [e8]
       clear e8 h8
       go_enter Tryd.func51, Tryd.ntmps51
       go_wp2_with (fail)
       refine (table_isLeaf.calls _ _ _ _ _ _ _ _ H4.out).mono ?_
       rintro e w' ⟨rfl, hb⟩
       obtain ⟨hc, hf⟩ := bcell hb
       have hz : w.heap.size + 2 ≤ w'.heap.size := by have := hb.size; simpa using this
       have hc0 : w'.cell? ⟨w.heap.size + 1, 0, none⟩ = some (.int .i64 all) := (hc _ _ (by simp)).trans (World.cell?_alloc_at _ _ _ _ (by simp))
       have hfin : Below w.heap.size w w' := (((Below.refl _ _).alloc (Nat.le_refl _) _).alloc (by simp) _).trans (hb.mono (by simp; omega))
       have HF := Am hfin
       clear hb hfin
       go_wp2_with (fail)
       refine (child_any _ all (w.heap.size + 1) _ hc0).mono ?_
       rw [h6'.out]
       rintro e w1 ⟨rfl, rfl⟩
       go_wp2_with (fail)
       refine (child_any _ all (w.heap.size + 1) _ hc0).mono ?_
       rw [h7'.out]
       rintro e w1 ⟨rfl, rfl⟩
       go_wp2
       go_ret
       exact ⟨rfl, HF.out⟩
   ·have d5 : (a3 == 0) = false := by simp [h5]
    have e5 : decide (a3 = 0) = false := decide_eq_false h5
    rw [e5, Bool.false_and, Bool.false_and, Bool.false_and]
    clear e5 h5
    go_enter Tryd.func51, Tryd.ntmps51
    go_wp2_with (fail)
    refine (table_isLeaf.calls _ _ _ _ _ _ _ _ H4.out).mono ?_
    rintro e w' ⟨rfl, hb⟩
    obtain ⟨hc, hf⟩ := bcell hb
    have hz : w.heap.size + 2 ≤ w'.heap.size := by have := hb.size; simpa using this
    have hc0 : w'.cell? ⟨w.heap.size + 1, 0, none⟩ = some (.int .i64 all) := (hc _ _ (by simp)).trans (World.cell?_alloc_at _ _ _ _ (by simp))
    have hfin : Below w.heap.size w w' := (((Below.refl _ _).alloc (Nat.le_refl _) _).alloc (by simp) _).trans (hb.mono (by simp; omega))
    have HF := Am hfin
    clear hb hfin
    go_wp2
    go_ret
    exact ⟨rfl, HF.out⟩
def table_formed.f (a0_0 a0_1 a0_2 a0_3 a0_4 a0_5 a1 : Int) : Option Bool := some (formedB a0_0 a0_1 a0_2 a0_3 a0_4 a0_5 a1)
theorem table_formed.calls (a0_0 a0_1 a0_2 a0_3 a0_4 a0_5 a1 : Int) (r : Bool) (w : World) (h : table_formed.f a0_0 a0_1 a0_2 a0_3 a0_4 a0_5 a1 = some r) :
  Calls Tryd.prog 51 #[.agg #[.int .i64 a0_0, .int .i64 a0_1, .int .i64 a0_2, .int .i64 a0_3, .int .i64 a0_4, .int .i64 a0_5], .int .i64 a1] w (RB w (.bool r)) := by
 obtain rfl := Option.some.inj h
 by_cases h1 : a0_2 < 0 ∨ 1000000 < a0_2 ∨ (a0_1 ≠ 0 ∧ a0_1 ≠ 1)
 ·rw [show formedB a0_0 a0_1 a0_2 a0_3 a0_4 a0_5 a1 = false from by rw [formedB, if_pos h1]]
  exact formed_e1 _ _ _ _ _ _ _ _ h1
 ·by_cases h2 : a0_1 = 1 ∧ (a0_0 ≠ 0 ∨ a0_3 ≠ 0)
  ·rw [show formedB a0_0 a0_1 a0_2 a0_3 a0_4 a0_5 a1 = false from by rw [formedB, if_neg h1, if_pos h2]]
   exact formed_e2 _ _ _ _ _ _ _ _ (by omega) (by omega) h2.1 h2.2
  ·have e : formedB a0_0 a0_1 a0_2 a0_3 a0_4 a0_5 a1 = (decide (a0_4 = -1 ∧ a0_5 = -1) || (decide (a0_3 = 0) && childB a0_4 a1 && childB a0_5 a1 && decide (a0_4 ≠ a0_5))) := by
    rw [formedB, if_neg h1, if_neg h2]
    split <;> simp [*]
   rw [e]
   refine formed_rest _ _ _ _ _ _ _ _ _ (by omega) (by omega) ?_ (by omega)
   unfold table_isLeaf.f
   split
   ·rename_i h4; simp [h4]
    by_cases h5 : a0_5 = -1 <;> simp [h5]
   ·rename_i h4; simp [h4]
def table_Check.l0 : Nat → List (S34) → List (S34) → Int → Int → Option (Int)
 | 0, _, _, _, _ => none
 | k + 1, x0, x13, x14, x15 => if x15 < x14 then (if 0 ≤ x15 then (if x15 < (x13.length : Int) then ((table_formed.f ((rd_T34 x13 x15).f0) ((rd_T34 x13 x15).f1) ((rd_T34 x13 x15).f2) ((rd_T34 x13 x15).f3) ((rd_T34 x13 x15).f4) ((rd_T34 x13 x15).f5) (x0.length : Int)).bind fun t131 => (if t131 = true then (table_Check.l0 k x0 x13 x14 (wrap64 (x15 + 1))) else (some 3))) else (none)) else (none)) else ((table_order.f k x0 0).bind fun t132 => (if (t132.length : Int) = (x0.length : Int) then (some 0) else (some 3)))
def table_Check.f (k : Nat) (l0 : List (S34)) : Option (Int) := if (l0.length : Int) > 100000 then (some 2) else (if (l0.length : Int) = 0 then (some 3) else (table_Check.l0 k l0 l0 (l0.length : Int) 0))
theorem table_Check.calls (k : Nat) (A0 : Option Addr) (c0 : Nat) (l0 : List (S34)) (r : Int) (w : World) (hr0 : Kd.C k34 w A0 l0.length l0) (hc0 : l0.length ≤ c0) (h : table_Check.f k l0 = some r) :
  Calls Tryd.prog 47 #[.slice A0 l0.length c0] w (RB w (.int .i64 r)) := by
 have hu34 := Tryd.underlying50
 have HR0 := Am hr0
 have HC0 := Am hc0
 clear hr0 hc0
 have HB := Am (Below.refl w.heap.size w)
 have H : (if (l0.length : Int) > 100000 then (some 2) else (if (l0.length : Int) = 0 then (some 3) else (table_Check.l0 k l0 l0 (l0.length : Int) 0))) = some r := h
 clear h
 by_cases c2 : (l0.length : Int) > 100000
 ·rw [if_pos c2] at H
  have c2b0 : decide (100000 < (l0.length : Int)) = true := decide_eq_true c2
  have c2b1 : decide (100000 < l0.length) = true := decide_eq_true (by omega)
  clear c2
  obtain rfl := Option.some.inj H
  go_enter Tryd.func47, Tryd.ntmps47
  go_wp2
  go_ret
  exact ⟨er, bq⟩
 ·rw [if_neg c2] at H
  have c2b0 : decide (100000 < (l0.length : Int)) = false := decide_eq_false c2
  have c2b1 : decide (100000 < l0.length) = false := decide_eq_false (by omega)
  clear c2
  by_cases c3 : (l0.length : Int) = 0
  ·rw [if_pos c3] at H
   obtain ⟨c3b0, c3b1⟩ := eq2 c3
   clear c3
   obtain rfl := Option.some.inj H
   go_enter Tryd.func47, Tryd.ntmps47
   go_wp2
   go_ret
   exact ⟨er, bq⟩
  ·rw [if_neg c3] at H
   obtain ⟨c3b0, c3b1⟩ := ne2 c3
   have c3b2 : ¬ (l0 = []) := fun h_ => c3 (by rw [h_]; rfl)
   have H' := Am H
   clear H
   go_enter Tryd.func47, Tryd.ntmps47
   go_wp2
   go_loopg [15] k (fun kq v15 w' => ∃ (x15_1 : Int), v15 = .int .i64 x15_1 ∧ Aside0 (table_Check.l0 kq l0 l0 (l0.length : Int) x15_1 = some r) ∧ Aside0 (kq ≤ k) ∧ Aside0 (Below w.heap.size w w'))
   case atStart => exact ⟨(0), (by first | rfl | (simp; done) | (simp [*]; done)), H', ⟨Nat.le_refl _⟩, ⟨bq⟩⟩
   case round =>
    clear H'
    clear c2b0 c2b1 c3 c3b0 c3b1 c3b2
    try clear p2
    obtain ⟨x15_1, rfl, HA, HK1, HB⟩ := hrel
    cases gk with
    | zero => exact absurd HA.out (by simp [table_Check.l0])
    | succ k1 =>
     have H := HA.out
     clear HA
     simp only [table_Check.l0] at H
     by_cases c4 : x15_1 < (l0.length : Int)
     ·rw [if_pos c4] at H
      have c4b0 := decide_eq_true c4
      clear c4
      obtain ⟨c5, H⟩ := gd H
      have c5b0 := decide_eq_true c5
      clear c5
      obtain ⟨c6, H⟩ := gd H
      have c6b0 := decide_eq_true c6
      clear c6
      obtain ⟨t131, A7, H⟩ := bo H
      by_cases c8 : t131 = true
      ·subst c8
       rw [if_pos rfl] at H
       have H' := Am H
       clear H
       obtain ⟨ad129, e129, hx129_0, hx129_1, hx129_2, hx129_3, hx129_4, hx129_5, p129, q129⟩ := t6d HB.out HR0.out x15_1
       cases e129
       go_wp2_with (first | ((with_reducible refine gs 4 rfl ?_); refine bE 4 (cs := #[.int .i64 0, .int .i64 0, .int .i64 0, .int .i64 0, .int .i64 0, .int .i64 0]) (t := 50) ?_; intro gb130 hg w9 hbox hb; obtain ⟨n0_, BK130, GW130, GE130⟩ := bx hg hbox hb; clear HB; have HB := n0_; clear n0_ hb hbox hg; obtain ⟨z10_0, z10_1, z10_2, z10_3, z10_4, z10_5, f10_0, f10_1, f10_2, f10_3, f10_4, f10_5⟩ := cf6 BK130.out) | ((with_reducible refine gc 51 rfl ?_); refine goesL_ (some 22) rfl rfl Tryd.func51 (by kernel_rfl) rfl #[.agg #[.int .i64 ((rd_T34 l0 x15_1).f0), .int .i64 ((rd_T34 l0 x15_1).f1), .int .i64 ((rd_T34 l0 x15_1).f2), .int .i64 ((rd_T34 l0 x15_1).f3), .int .i64 ((rd_T34 l0 x15_1).f4), .int .i64 ((rd_T34 l0 x15_1).f5)], .int .i64 (l0.length : Int)] rfl ar ?_; (with_reducible refine (table_formed.calls _ _ _ _ _ _ (l0.length : Int) true _ A7.out).mono ?_); rintro e w11 ⟨rfl, hb⟩; refine ⟨_, rfl, ?_⟩; have n0_ := Am (blk_below (g := gb130) (o := .cells #[.int .i64 ((rd_T34 l0 x15_1).f0), .int .i64 ((rd_T34 l0 x15_1).f1), .int .i64 ((rd_T34 l0 x15_1).f2), .int .i64 ((rd_T34 l0 x15_1).f3), .int .i64 ((rd_T34 l0 x15_1).f4), .int .i64 ((rd_T34 l0 x15_1).f5)] 50 (0, 0)) (bp6 BK130.out) hb); have n1_ := Am (below_step bs hb); clear BK130; clear HB; have BK130 := n0_; have HB := n1_; clear n0_ n1_; (try clear hb)))
       go_roundg k1
       case measure => have := HK1.out; omega
       case rel => exact ⟨(wrap64 (x15_1 + 1)), (by first | rfl | (simp; done) | (simp [*]; done)), H', ⟨by have := HK1.out; omega⟩, ⟨bs⟩⟩
      ·replace c8 := Bool.eq_false_iff.mpr c8
       subst c8
       rw [if_neg nf] at H
       obtain rfl := Option.some.inj H
       obtain ⟨ad129, e129, hx129_0, hx129_1, hx129_2, hx129_3, hx129_4, hx129_5, p129, q129⟩ := t6d HB.out HR0.out x15_1
       cases e129
       go_wp2_with (first | ((with_reducible refine gs 4 rfl ?_); refine bE 4 (cs := #[.int .i64 0, .int .i64 0, .int .i64 0, .int .i64 0, .int .i64 0, .int .i64 0]) (t := 50) ?_; intro gb130 hg w12 hbox hb; obtain ⟨n0_, BK130, GW130, GE130⟩ := bx hg hbox hb; clear HB; have HB := n0_; clear n0_ hb hbox hg; obtain ⟨z13_0, z13_1, z13_2, z13_3, z13_4, z13_5, f13_0, f13_1, f13_2, f13_3, f13_4, f13_5⟩ := cf6 BK130.out) | ((with_reducible refine gc 51 rfl ?_); refine goesL_ (some 22) rfl rfl Tryd.func51 (by kernel_rfl) rfl #[.agg #[.int .i64 ((rd_T34 l0 x15_1).f0), .int .i64 ((rd_T34 l0 x15_1).f1), .int .i64 ((rd_T34 l0 x15_1).f2), .int .i64 ((rd_T34 l0 x15_1).f3), .int .i64 ((rd_T34 l0 x15_1).f4), .int .i64 ((rd_T34 l0 x15_1).f5)], .int .i64 (l0.length : Int)] rfl ar ?_; (with_reducible refine (table_formed.calls _ _ _ _ _ _ (l0.length : Int) false _ A7.out).mono ?_); rintro e w14 ⟨rfl, hb⟩; refine ⟨_, rfl, ?_⟩; have n0_ := Am (blk_below (g := gb130) (o := .cells #[.int .i64 ((rd_T34 l0 x15_1).f0), .int .i64 ((rd_T34 l0 x15_1).f1), .int .i64 ((rd_T34 l0 x15_1).f2), .int .i64 ((rd_T34 l0 x15_1).f3), .int .i64 ((rd_T34 l0 x15_1).f4), .int .i64 ((rd_T34 l0 x15_1).f5)] 50 (0, 0)) (bp6 BK130.out) hb); have n1_ := Am (below_step bs hb); clear BK130; clear HB; have BK130 := n0_; have HB := n1_; clear n0_ n1_; (try clear hb)))
       go_ret
       exact ⟨er, bs⟩
     ·rw [if_neg c4] at H
      have c4b0 := decide_eq_false c4
      clear c4
      obtain ⟨t132, A15, H⟩ := bo H
      by_cases c16 : (t132.length : Int) = (l0.length : Int)
      ·rw [if_pos c16] at H
       obtain ⟨c16b0, c16b1⟩ := eq2 c16
       have c16b2 : (t132.length == l0.length) = true := by first | simpa using c16 | (simp at c16 ⊢; omega)
       clear c16
       obtain rfl := Option.some.inj H
       go_wp2_with (first | ((with_reducible refine gc 50 rfl ?_); refine goesL_ (some 26) rfl rfl Tryd.func50 (by kernel_rfl) rfl #[.slice A0 l0.length c0, .int .i64 0] rfl ar ?_; (with_reducible refine (table_order.calls k1 _ _ l0 0 t132 _ ?side1 ?side2 A15.out).mono ?_); (case side1 => exact kc (Kd.C_below HR0.out HB.out)); (case side2 => exact HC0.out); rintro e w17 ⟨v133, rfl, ho0, hb⟩; refine ⟨_, rfl, ?_⟩; replace HO134 := Am (Kd.R_lower ho0 (below_size bq)); replace HB := Am (below_step bq hb); (try clear hb); (try clear hb2); (try clear hk); (try clear hi); (try clear ho0); obtain ⟨Ao18, co18, eo18⟩ := Kd.R_slice HO134.out; subst eo18))
       go_ret
       exact ⟨er, bq⟩
      ·rw [if_neg c16] at H
       obtain ⟨c16b0, c16b1⟩ := ne2 c16
       have c16b2 : (t132.length == l0.length) = false := by first | simpa using c16 | (simp at c16 ⊢; omega)
       obtain rfl := Option.some.inj H
       go_wp2_with (first | ((with_reducible refine gc 50 rfl ?_); refine goesL_ (some 26) rfl rfl Tryd.func50 (by kernel_rfl) rfl #[.slice A0 l0.length c0, .int .i64 0] rfl ar ?_; (with_reducible refine (table_order.calls k1 _ _ l0 0 t132 _ ?side1 ?side2 A15.out).mono ?_); (case side1 => exact kc (Kd.C_below HR0.out HB.out)); (case side2 => exact HC0.out); rintro e w19 ⟨v133, rfl, ho0, hb⟩; refine ⟨_, rfl, ?_⟩; replace HO134 := Am (Kd.R_lower ho0 (below_size bq)); replace HB := Am (below_step bq hb); (try clear hb); (try clear hb2); (try clear hk); (try clear hi); (try clear ho0); obtain ⟨Ao20, co20, eo20⟩ := Kd.R_slice HO134.out; subst eo20))
       go_ret
       exact ⟨er, bq⟩
def table_sentinel.f  : Option (Int × Int × Int × Int × Int × Int) := some (0, 1, 1, 0, (-1), (-1))
theorem table_sentinel.calls  (r1 : Int) (r2 : Int) (r3 : Int) (r4 : Int) (r5 : Int) (r6 : Int) (w : World) (h : table_sentinel.f  = some (r1, r2, r3, r4, r5, r6)) :
  Calls Tryd.prog 49 #[] w (RB w (.agg #[.int .i64 r1, .int .i64 r2, .int .i64 r3, .int .i64 r4, .int .i64 r5, .int .i64 r6])) := by
 have hu34 := Tryd.underlying50
 have HB := Am (Below.refl w.heap.size w)
 have H : (some (0, 1, 1, 0, (-1), (-1))) = some (r1, r2, r3, r4, r5, r6) := h
 clear h
 simp only [Option.some.injEq, Prod.mk.injEq] at H
 obtain ⟨rfl, rfl, rfl, rfl, rfl, rfl⟩ := H
 go_enter Tryd.func49, Tryd.ntmps49
 go_wp2_with (first | ((with_reducible refine gs 0 rfl ?_); refine bE 0 (cs := #[.int .i64 0, .int .i64 0, .int .i64 0, .int .i64 0, .int .i64 0, .int .i64 0]) (t := 50) ?_; intro gb135 hg w1 hbox hb; obtain ⟨n0_, BK135, GW135, GE135⟩ := bx hg hbox hb; clear HB; have HB := n0_; clear n0_ hb hbox hg; obtain ⟨z2_0, z2_1, z2_2, z2_3, z2_4, z2_5, f2_0, f2_1, f2_2, f2_3, f2_4, f2_5⟩ := cf6 BK135.out))
 refine bodyPost_ret (results_cell_row rfl _ _ gb135 50 #[.int .i64 0, .int .i64 1, .int .i64 1, .int .i64 0, .int .i64 (-1), .int .i64 (-1)] (0, 0) _ rfl (bp6 BK135.out) Tryd.underlying50 rfl (by kernel_rfl)) rfl ?_
 exact ⟨er, bs⟩
end
section
attribute [local go_sem] max2_int min2_int max_two min_two max_three min_three max_four min_four
attribute [local go_sem high] eqA34
def table_crowned.f (l0 : List (S34)) (a1_0 : Int) (a1_1 : Int) (a1_2 : Int) (a1_3 : Int) (a1_4 : Int) (a1_5 : Int) : Option (Bool) := (table_isLeaf.f a1_0 a1_1 a1_2 a1_3 a1_4 a1_5).bind fun t137 => (if t137 = true then (some false) else (if a1_1 = 1 then (if a1_2 = 1 then (if 0 ≤ a1_5 then (if a1_5 < (l0.length : Int) then ((table_sentinel.f).bind fun bt139 => (some (((rd_T34 l0 a1_5).f0) == bt139.1 && (((rd_T34 l0 a1_5).f1) == bt139.2.1 && (((rd_T34 l0 a1_5).f2) == bt139.2.2.1 && (((rd_T34 l0 a1_5).f3) == bt139.2.2.2.1 && (((rd_T34 l0 a1_5).f4) == bt139.2.2.2.2.1 && (((rd_T34 l0 a1_5).f5) == bt139.2.2.2.2.2)))))))) else (none)) else (none)) else (some false)) else (some false)))
def table_crowned.T1 : Bool × List (List Nat × List Nat) := (true, [([], []), ([0], [0]), ([1], [1]), ([2, 1], [2]), ([3], [3]), ([4, 3], [3, 4]), ([5, 3], [3, 5]), ([3, 6], [3, 6]), ([7, 3], [7]), ([8], [8]), ([9, 8], [8, 9]), ([10, 8], [8, 10]), ([8, 11], [8, 11]), ([12, 8], [12]), ([13], [13]), ([13], [13]), ([15, 13], [13, 15]), ([14, 16, 13], [13, 14, 16]), ([17, 13], [13, 17]), ([13, 13], [13]), ([18, 19, 13], [13, 18, 19]), ([13, 20], [13, 20]), ([21, 19, 0, 1, 2, 3, 4, 5, 6, 7, 8, 9, 10, 11, 12, 13, 14, 15, 16, 17, 18, 19, 20, 21], [21])])
def table_crowned.B1 : List Nat := [0, 1, 3, 7, 15, 31, 63, 127, 255, 511, 1023, 2047, 4095, 8191, 16383, 16383, 49151, 131071, 262143, 16383, 1048575, 2097151, 4194303]
theorem table_crowned.tab1 : rtab .any (opsOf Tryd.f48 1) = table_crowned.T1 := by kernel_rfl
theorem table_crowned.bits1 : waitsOk table_crowned.T1.2 table_crowned.B1 = true := by kernel_rfl
theorem table_crowned.calls (A0 : Option Addr) (c0 : Nat) (l0 : List (S34)) (a1_0 : Int) (a1_1 : Int) (a1_2 : Int) (a1_3 : Int) (a1_4 : Int) (a1_5 : Int) (r : Bool) (w : World) (hr0 : Kd.C k34 w A0 l0.length l0) (hc0 : l0.length ≤ c0) (h : table_crowned.f l0 a1_0 a1_1 a1_2 a1_3 a1_4 a1_5 = some r) :
  Calls Tryd.prog 48 #[.slice A0 l0.length c0, .agg #[.int .i64 a1_0, .int .i64 a1_1, .int .i64 a1_2, .int .i64 a1_3, .int .i64 a1_4, .int .i64 a1_5]] w (RB w (.bool r)) := by
 have hu34 := Tryd.underlying50
 have HR0 := Am hr0
 have HC0 := Am hc0
 clear hr0 hc0
 have HB := Am (Below.refl w.heap.size w)
 have H : ((table_isLeaf.f a1_0 a1_1 a1_2 a1_3 a1_4 a1_5).bind fun t137 => (if t137 = true then (some false) else (if a1_1 = 1 then (if a1_2 = 1 then (if 0 ≤ a1_5 then (if a1_5 < (l0.length : Int) then ((table_sentinel.f).bind fun bt139 => (some (((rd_T34 l0 a1_5).f0) == bt139.1 && (((rd_T34 l0 a1_5).f1) == bt139.2.1 && (((rd_T34 l0 a1_5).f2) == bt139.2.2.1 && (((rd_T34 l0 a1_5).f3) == bt139.2.2.2.1 && (((rd_T34 l0 a1_5).f4) == bt139.2.2.2.2.1 && (((rd_T34 l0 a1_5).f5) == bt139.2.2.2.2.2)))))))) else (none)) else (none)) else (some false)) else (some false)))) = some r := h
 clear h
 obtain ⟨t137, A3, H⟩ := bo H
 by_cases c4 : t137 = true
 ·subst c4
  rw [if_pos rfl] at H
  obtain rfl := Option.some.inj H
  go_enter Tryd.func48, Tryd.ntmps48
  try go_wp2_with (first | ((with_reducible refine gs 3 rfl ?_); refine bE 3 (cs := #[.int .i64 a1_0, .int .i64 a1_1, .int .i64 a1_2, .int .i64 a1_3, .int .i64 a1_4, .int .i64 a1_5]) (t := 50) ?_; intro gb136 hg w5 hbox hb; obtain ⟨n0_, BK136, GW136, GE136⟩ := bx hg hbox hb; clear HB; have HB := n0_; clear n0_ hb hbox hg))
  replace BK136 := Am (blk_drew BK136.out)
  replace HB := Am (bd HB.out)
  refine sT 23 [] (S := fun w' => w'.cell? ⟨gb136, 0, none⟩ = some (.int .i64 a1_0) ∧ w'.cell? ⟨gb136, 1, none⟩ = some (.int .i64 a1_1) ∧ w'.cell? ⟨gb136, 2, none⟩ = some (.int .i64 a1_2) ∧ w'.cell? ⟨gb136, 3, none⟩ = some (.int .i64 a1_3) ∧ w'.cell? ⟨gb136, 4, none⟩ = some (.int .i64 a1_4) ∧ w'.cell? ⟨gb136, 5, none⟩ = some (.int .i64 a1_5)) (cz6 BK136.out) fun hHeld => ?_; refine with_tabW table_crowned.tab1 table_crowned.bits1 (fun HT_ HW_ => ?_)
  generalize w5.drew = w6 at BK136 HB hHeld ⊢
  refine taT HT_.out HW_.out 0 5 hHeld ?_
  refine onT HT_.out 1 6 fun K hK => ?_
  refine goes_ Tryd.func52 (by kernel_rfl) rfl #[.agg #[.int .i64 a1_0, .int .i64 a1_1, .int .i64 a1_2, .int .i64 a1_3, .int .i64 a1_4, .int .i64 a1_5]] (by rfl) rfl rfl ar ?_
  with_reducible refine (table_isLeaf.calls a1_0 a1_1 a1_2 a1_3 a1_4 a1_5 true _ A3.out).mono ?_
  rintro e w7 ⟨rfl, hb⟩
  refine ⟨_, rfl, ?_⟩
  replace BK136 := Am (blk_below (bk BK136.out) hb)
  replace HB := Am (below_step bs hb)
  (try clear hb)
  refine hK.out _ _ (cz6 BK136.out) (fun hHeld => ?_)
  clear hK K
  refine nm 6 ?_
  refine puT HT_.out 2 7 ?_
  refine puT HT_.out 3 8 ?_
  refine pure_ (i := 4) (N := some 9) (v := undef) (a' := ?_) #[true, true, true, true, true, false, false, false, false, false, false, false, false, false, false, false, false, false, false, false, false, false, false] rfl rfl (any_of HT_.out (by kernel_rfl)) (fun _ _ _ h => h) (Or.inr ⟨by rfl, rfl⟩) ?_ ?_
  rotate_left
  ·simp only [Act.put, sI, sZ, sS, i64_w, i32_w]
   rfl
  refine pure_ (i := 5) (N := some 10) (v := undef) (a' := ?_) #[true, true, true, true, true, true, false, false, false, false, false, false, false, false, false, false, false, false, false, false, false, false, false] rfl rfl (any_of HT_.out (by kernel_rfl)) (fun _ _ _ h => h) (Or.inr ⟨by rfl, rfl⟩) ?_ ?_
  rotate_left
  ·simp only [Act.put, sI, sZ, sS, i64_w, i32_w]
   rfl
  refine pure_ (i := 6) (N := some 11) (v := undef) (a' := ?_) #[true, true, true, true, true, true, true, false, false, false, false, false, false, false, false, false, false, false, false, false, false, false, false] rfl rfl (any_of HT_.out (by kernel_rfl)) (fun _ _ _ h => h) (Or.inr ⟨by rfl, rfl⟩) ?_ ?_
  rotate_left
  ·simp only [Act.put, sI, sZ, sS, i64_w, i32_w]
   rfl
  refine puT HT_.out 7 12 ?_
  refine puT HT_.out 8 13 ?_
  refine pure_ (i := 9) (N := some 14) (v := undef) (a' := ?_) #[true, true, true, true, true, true, true, true, true, true, false, false, false, false, false, false, false, false, false, false, false, false, false] rfl rfl (any_of HT_.out (by kernel_rfl)) (fun _ _ _ h => h) (Or.inr ⟨by rfl, rfl⟩) ?_ ?_
  rotate_left
  ·simp only [Act.put, sI, sZ, sS, i64_w, i32_w]
   rfl
  refine pure_ (i := 10) (N := some 15) (v := undef) (a' := ?_) #[true, true, true, true, true, true, true, true, true, true, true, false, false, false, false, false, false, false, false, false, false, false, false] rfl rfl (any_of HT_.out (by kernel_rfl)) (fun _ _ _ h => h) (Or.inr ⟨by rfl, rfl⟩) ?_ ?_
  rotate_left
  ·simp only [Act.put, sI, sZ, sS, i64_w, i32_w]
   rfl
  refine pure_ (i := 11) (N := some 16) (v := undef) (a' := ?_) #[true, true, true, true, true, true, true, true, true, true, true, true, false, false, false, false, false, false, false, false, false, false, false] rfl rfl (any_of HT_.out (by kernel_rfl)) (fun _ _ _ h => h) (Or.inr ⟨by rfl, rfl⟩) ?_ ?_
  rotate_left
  ·simp only [Act.put, sI, sZ, sS, i64_w, i32_w]
   rfl
  refine puT HT_.out 12 17 ?_
  refine puT HT_.out 13 18 ?_
  refine pure_ (i := 14) (N := some 19) (v := undef) (a' := ?_) #[true, true, true, true, true, true, true, true, true, true, true, true, true, true, true, false, false, false, false, false, false, false, false] rfl rfl (any_of HT_.out (by kernel_rfl)) (fun _ _ _ h => h) (Or.inr ⟨by rfl, rfl⟩) ?_ ?_
  rotate_left
  ·simp only [Act.put, sI, sZ, sS, i64_w, i32_w]
   rfl
  refine pure_ (i := 15) (N := some 20) (v := undef) (a' := ?_) #[true, true, true, true, true, true, true, true, true, true, true, true, true, true, true, true, false, false, false, false, false, false, false] rfl rfl (any_of HT_.out (by kernel_rfl)) (fun _ _ _ h => h) (Or.inr ⟨by rfl, rfl⟩) ?_ ?_
  rotate_left
  ·simp only [Act.put, sI, sZ, sS, i64_w, i32_w]
   rfl
  refine pure_ (i := 16) (N := some 21) (v := undef) (a' := ?_) #[true, true, true, true, true, true, true, true, true, true, true, true, true, true, true, true, true, false, false, false, false, false, false] rfl rfl (any_of HT_.out (by kernel_rfl)) (fun _ _ _ h => h) (Or.inr ⟨by rfl, rfl⟩) ?_ ?_
  rotate_left
  ·simp only [Act.put, sI, sZ, sS, i64_w, i32_w]
   rfl
  refine pure_ (i := 17) (N := some 22) (v := undef) (a' := ?_) #[true, true, true, true, true, true, true, true, true, true, true, true, true, true, true, true, true, true, false, false, false, false, false] rfl rfl (any_of HT_.out (by kernel_rfl)) (fun _ _ _ h => h) (Or.inr ⟨by rfl, rfl⟩) ?_ ?_
  rotate_left
  ·simp only [Act.put, sI, sZ, sS, i64_w, i32_w]
   rfl
  refine pure_ (i := 18) (N := some 23) (v := undef) (a' := ?_) #[true, true, true, true, true, true, true, true, true, true, true, true, true, true, true, true, true, true, true, false, false, false, false] rfl rfl (any_of HT_.out (by kernel_rfl)) (fun _ _ _ h => h) (Or.inr ⟨by rfl, rfl⟩) ?_ ?_
  rotate_left
  ·simp only [Act.put, sI, sZ, sS, i64_w, i32_w]
   rfl
  refine pure_ (i := 19) (N := some 24) (v := undef) (a' := ?_) #[true, true, true, true, true, true, true, true, true, true, true, true, true, true, true, true, true, true, true, true, false, false, false] rfl rfl (any_of HT_.out (by kernel_rfl)) (fun _ _ _ h => h) (Or.inr ⟨by rfl, rfl⟩) ?_ ?_
  rotate_left
  ·simp only [Act.put, sI, sZ, sS, i64_w, i32_w]
   rfl
  refine pure_ (i := 20) (N := some 25) (v := undef) (a' := ?_) #[true, true, true, true, true, true, true, true, true, true, true, true, true, true, true, true, true, true, true, true, true, false, false] rfl rfl (any_of HT_.out (by kernel_rfl)) (fun _ _ _ h => h) (Or.inr ⟨by rfl, rfl⟩) ?_ ?_
  rotate_left
  ·simp only [Act.put, sI, sZ, sS, i64_w, i32_w]
   rfl
  refine puT HT_.out 21 26 ?_
  refine puT HT_.out 22 4 ?_
  refine done_ (done_of HT_.out (by kernel_rfl)) ?_
  try go_wp2
  go_ret
  exact ⟨er, bs⟩
 ·replace c4 := Bool.eq_false_iff.mpr c4
  subst c4
  rw [if_neg nf] at H
  by_cases c8 : a1_1 = 1
  ·rw [if_pos c8] at H
   obtain ⟨c8b0, c8b1⟩ := eq2 c8
   clear c8
   by_cases c9 : a1_2 = 1
   ·rw [if_pos c9] at H
    obtain ⟨c9b0, c9b1⟩ := eq2 c9
    clear c9
    obtain ⟨c10, H⟩ := gd H
    have c10b0 := decide_eq_true c10
    clear c10
    obtain ⟨c11, H⟩ := gd H
    have c11b0 := decide_eq_true c11
    clear c11
    obtain ⟨⟨t139, t140, t141, t142, t143, t144⟩, A12, H⟩ := bo H
    dsimp only at H
    obtain rfl := Option.some.inj H
    go_enter Tryd.func48, Tryd.ntmps48
    try go_wp2_with (first | ((with_reducible refine gs 3 rfl ?_); refine bE 3 (cs := #[.int .i64 a1_0, .int .i64 a1_1, .int .i64 a1_2, .int .i64 a1_3, .int .i64 a1_4, .int .i64 a1_5]) (t := 50) ?_; intro gb136 hg w13 hbox hb; obtain ⟨n0_, BK136, GW136, GE136⟩ := bx hg hbox hb; clear HB; have HB := n0_; clear n0_ hb hbox hg))
    replace BK136 := Am (blk_drew BK136.out)
    replace HB := Am (bd HB.out)
    have p138 : 0 ≤ (a1_5 : Int) := da
    have q138 : a1_5 < (l0.length : Int) := da
    obtain ⟨ad138, e138, hx138_0, hx138_1, hx138_2, hx138_3, hx138_4, hx138_5⟩ := at_T34 HR0.out a1_5 p138 q138
    have hw138_5 := hx138_5
    have hw138_4 := hx138_4
    have hw138_3 := hx138_3
    have hw138_2 := hx138_2
    have hw138_1 := hx138_1
    have hw138_0 := hx138_0
    cases e138
    replace hx138_0 := (HB.out.cell (blt w _ hx138_0)).trans hx138_0
    replace hx138_1 := (HB.out.cell (blt w _ hx138_1)).trans hx138_1
    replace hx138_2 := (HB.out.cell (blt w _ hx138_2)).trans hx138_2
    replace hx138_3 := (HB.out.cell (blt w _ hx138_3)).trans hx138_3
    replace hx138_4 := (HB.out.cell (blt w _ hx138_4)).trans hx138_4
    replace hx138_5 := (HB.out.cell (blt w _ hx138_5)).trans hx138_5
    replace p138 := eq_true p138
    replace q138 := eq_true q138
    refine sT 23 [] (S := fun w' => w'.cell? ⟨gb136, 0, none⟩ = some (.int .i64 a1_0) ∧ w'.cell? ⟨gb136, 1, none⟩ = some (.int .i64 a1_1) ∧ w'.cell? ⟨gb136, 2, none⟩ = some (.int .i64 a1_2) ∧ w'.cell? ⟨gb136, 3, none⟩ = some (.int .i64 a1_3) ∧ w'.cell? ⟨gb136, 4, none⟩ = some (.int .i64 a1_4) ∧ w'.cell? ⟨gb136, 5, none⟩ = some (.int .i64 a1_5) ∧ w'.cell? (ad138.add ((a1_5).toNat * 6)) = some (.int .i64 ((rd_T34 l0 a1_5).f0)) ∧ w'.cell? ⟨(ad138.add ((a1_5).toNat * 6)).block, (ad138.add ((a1_5).toNat * 6)).off + 1, none⟩ = some (.int .i64 ((rd_T34 l0 a1_5).f1)) ∧ w'.cell? ⟨(ad138.add ((a1_5).toNat * 6)).block, (ad138.add ((a1_5).toNat * 6)).off + 2, none⟩ = some (.int .i64 ((rd_T34 l0 a1_5).f2)) ∧ w'.cell? ⟨(ad138.add ((a1_5).toNat * 6)).block, (ad138.add ((a1_5).toNat * 6)).off + 3, none⟩ = some (.int .i64 ((rd_T34 l0 a1_5).f3)) ∧ w'.cell? ⟨(ad138.add ((a1_5).toNat * 6)).block, (ad138.add ((a1_5).toNat * 6)).off + 4, none⟩ = some (.int .i64 ((rd_T34 l0 a1_5).f4)) ∧ w'.cell? ⟨(ad138.add ((a1_5).toNat * 6)).block, (ad138.add ((a1_5).toNat * 6)).off + 5, none⟩ = some (.int .i64 ((rd_T34 l0 a1_5).f5))) ⟨(blk_cell BK136.out 0).trans rfl, (blk_cell BK136.out 1).trans rfl, (blk_cell BK136.out 2).trans rfl, (blk_cell BK136.out 3).trans rfl, (blk_cell BK136.out 4).trans rfl, (blk_cell BK136.out 5).trans rfl, ((HB.out.cell (blt w _ hw138_0)).trans hw138_0), ((HB.out.cell (blt w _ hw138_1)).trans hw138_1), ((HB.out.cell (blt w _ hw138_2)).trans hw138_2), ((HB.out.cell (blt w _ hw138_3)).trans hw138_3), ((HB.out.cell (blt w _ hw138_4)).trans hw138_4), ((HB.out.cell (blt w _ hw138_5)).trans hw138_5)⟩ fun hHeld => ?_; refine with_tabW table_crowned.tab1 table_crowned.bits1 (fun HT_ HW_ => ?_)
    generalize w13.drew = w14 at BK136 HB hx138_0 hx138_1 hx138_2 hx138_3 hx138_4 hx138_5 hHeld ⊢
    refine taT HT_.out HW_.out 0 5 hHeld ?_
    refine onT HT_.out 1 6 fun K hK => ?_
    refine goes_ Tryd.func52 (by kernel_rfl) rfl #[.agg #[.int .i64 a1_0, .int .i64 a1_1, .int .i64 a1_2, .int .i64 a1_3, .int .i64 a1_4, .int .i64 a1_5]] (by rfl) rfl rfl ar ?_
    with_reducible refine (table_isLeaf.calls a1_0 a1_1 a1_2 a1_3 a1_4 a1_5 false _ A3.out).mono ?_
    rintro e w15 ⟨rfl, hb⟩
    refine ⟨_, rfl, ?_⟩
    replace BK136 := Am (blk_below (bk BK136.out) hb)
    replace HB := Am (below_step bs hb)
    (try clear hb)
    refine hK.out _ _ ⟨(blk_cell BK136.out 0).trans rfl, (blk_cell BK136.out 1).trans rfl, (blk_cell BK136.out 2).trans rfl, (blk_cell BK136.out 3).trans rfl, (blk_cell BK136.out 4).trans rfl, (blk_cell BK136.out 5).trans rfl, ((HB.out.cell (blt w _ hw138_0)).trans hw138_0), ((HB.out.cell (blt w _ hw138_1)).trans hw138_1), ((HB.out.cell (blt w _ hw138_2)).trans hw138_2), ((HB.out.cell (blt w _ hw138_3)).trans hw138_3), ((HB.out.cell (blt w _ hw138_4)).trans hw138_4), ((HB.out.cell (blt w _ hw138_5)).trans hw138_5)⟩ (fun hHeld => ?_)
    clear hK K
    refine nm 6 ?_
    refine puT HT_.out 2 7 ?_
    refine puT HT_.out 3 8 ?_
    refine puT HT_.out 4 9 ?_
    refine taT HT_.out HW_.out 5 10 hHeld ?_
    refine puT HT_.out 6 11 ?_
    refine puT HT_.out 7 12 ?_
    refine puT HT_.out 8 13 ?_
    refine puT HT_.out 9 14 ?_
    refine taT HT_.out HW_.out 10 15 hHeld ?_
    refine puT HT_.out 11 16 ?_
    refine puT HT_.out 12 17 ?_
    refine puT HT_.out 13 18 ?_
    refine puT HT_.out 14 19 ?_
    refine puT HT_.out 15 20 ?_
    refine taT HT_.out HW_.out 16 21 hHeld ?_
    refine puT HT_.out 17 22 ?_
    refine taT HT_.out HW_.out 18 23 hHeld ?_
    refine onT HT_.out 19 24 fun K hK => ?_
    refine goes_ Tryd.func49 (by kernel_rfl) rfl #[] (by rfl) rfl rfl ar ?_
    with_reducible refine (table_sentinel.calls  t139 t140 t141 t142 t143 t144 _ A12.out).mono ?_
    rintro e w16 ⟨rfl, hb⟩
    refine ⟨_, rfl, ?_⟩
    replace BK136 := Am (blk_below (bk BK136.out) hb)
    replace HB := Am (below_step bs hb)
    (try clear hb)
    refine hK.out _ _ ⟨(blk_cell BK136.out 0).trans rfl, (blk_cell BK136.out 1).trans rfl, (blk_cell BK136.out 2).trans rfl, (blk_cell BK136.out 3).trans rfl, (blk_cell BK136.out 4).trans rfl, (blk_cell BK136.out 5).trans rfl, ((HB.out.cell (blt w _ hw138_0)).trans hw138_0), ((HB.out.cell (blt w _ hw138_1)).trans hw138_1), ((HB.out.cell (blt w _ hw138_2)).trans hw138_2), ((HB.out.cell (blt w _ hw138_3)).trans hw138_3), ((HB.out.cell (blt w _ hw138_4)).trans hw138_4), ((HB.out.cell (blt w _ hw138_5)).trans hw138_5)⟩ (fun hHeld => ?_)
    clear hK K
    refine nm 24 ?_
    refine puT HT_.out 20 25 ?_
    refine puT HT_.out 21 26 ?_
    refine puT HT_.out 22 4 ?_
    refine done_ (done_of HT_.out (by kernel_rfl)) ?_
    try go_wp2
    go_ret
    exact ⟨er, bs⟩
   ·rw [if_neg c9] at H
    obtain ⟨c9b0, c9b1⟩ := ne2 c9
    obtain rfl := Option.some.inj H
    go_enter Tryd.func48, Tryd.ntmps48
    try go_wp2_with (first | ((with_reducible refine gs 3 rfl ?_); refine bE 3 (cs := #[.int .i64 a1_0, .int .i64 a1_1, .int .i64 a1_2, .int .i64 a1_3, .int .i64 a1_4, .int .i64 a1_5]) (t := 50) ?_; intro gb136 hg w17 hbox hb; obtain ⟨n0_, BK136, GW136, GE136⟩ := bx hg hbox hb; clear HB; have HB := n0_; clear n0_ hb hbox hg))
    replace BK136 := Am (blk_drew BK136.out)
    replace HB := Am (bd HB.out)
    refine sT 23 [] (S := fun w' => w'.cell? ⟨gb136, 0, none⟩ = some (.int .i64 a1_0) ∧ w'.cell? ⟨gb136, 1, none⟩ = some (.int .i64 a1_1) ∧ w'.cell? ⟨gb136, 2, none⟩ = some (.int .i64 a1_2) ∧ w'.cell? ⟨gb136, 3, none⟩ = some (.int .i64 a1_3) ∧ w'.cell? ⟨gb136, 4, none⟩ = some (.int .i64 a1_4) ∧ w'.cell? ⟨gb136, 5, none⟩ = some (.int .i64 a1_5)) (cz6 BK136.out) fun hHeld => ?_; refine with_tabW table_crowned.tab1 table_crowned.bits1 (fun HT_ HW_ => ?_)
    generalize w17.drew = w18 at BK136 HB hHeld ⊢
    refine taT HT_.out HW_.out 0 5 hHeld ?_
    refine onT HT_.out 1 6 fun K hK => ?_
    refine goes_ Tryd.func52 (by kernel_rfl) rfl #[.agg #[.int .i64 a1_0, .int .i64 a1_1, .int .i64 a1_2, .int .i64 a1_3, .int .i64 a1_4, .int .i64 a1_5]] (by rfl) rfl rfl ar ?_
    with_reducible refine (table_isLeaf.calls a1_0 a1_1 a1_2 a1_3 a1_4 a1_5 false _ A3.out).mono ?_
    rintro e w19 ⟨rfl, hb⟩
    refine ⟨_, rfl, ?_⟩
    replace BK136 := Am (blk_below (bk BK136.out) hb)
    replace HB := Am (below_step bs hb)
    (try clear hb)
    refine hK.out _ _ (cz6 BK136.out) (fun hHeld => ?_)
    clear hK K
    refine nm 6 ?_
    refine puT HT_.out 2 7 ?_
    refine puT HT_.out 3 8 ?_
    refine puT HT_.out 4 9 ?_
    refine taT HT_.out HW_.out 5 10 hHeld ?_
    refine puT HT_.out 6 11 ?_
    refine puT HT_.out 7 12 ?_
    refine puT HT_.out 8 13 ?_
    refine puT HT_.out 9 14 ?_
    refine taT HT_.out HW_.out 10 15 hHeld ?_
    refine puT HT_.out 11 16 ?_
    refine puT HT_.out 12 17 ?_
    refine puT HT_.out 13 18 ?_
    refine pure_ (i := 14) (N := some 19) (v := undef) (a' := ?_) #[true, true, true, true, true, true, true, true, true, true, true, true, true, true, true, false, false, false, false, false, false, false, false] rfl rfl (any_of HT_.out (by kernel_rfl)) (fun _ _ _ h => h) (Or.inr ⟨by rfl, rfl⟩) ?_ ?_
    rotate_left
    ·simp only [Act.put, sI, sZ, sS, i64_w, i32_w]
     rfl
    refine pure_ (i := 15) (N := some 20) (v := undef) (a' := ?_) #[true, true, true, true, true, true, true, true, true, true, true, true, true, true, true, true, false, false, false, false, false, false, false] rfl rfl (any_of HT_.out (by kernel_rfl)) (fun _ _ _ h => h) (Or.inr ⟨by rfl, rfl⟩) ?_ ?_
    rotate_left
    ·simp only [Act.put, sI, sZ, sS, i64_w, i32_w]
     rfl
    refine pure_ (i := 16) (N := some 21) (v := undef) (a' := ?_) #[true, true, true, true, true, true, true, true, true, true, true, true, true, true, true, true, true, false, false, false, false, false, false] rfl rfl (any_of HT_.out (by kernel_rfl)) (fun _ _ _ h => h) (Or.inr ⟨by rfl, rfl⟩) ?_ ?_
    rotate_left
    ·simp only [Act.put, sI, sZ, sS, i64_w, i32_w]
     rfl
    refine pure_ (i := 17) (N := some 22) (v := undef) (a' := ?_) #[true, true, true, true, true, true, true, true, true, true, true, true, true, true, true, true, true, true, false, false, false, false, false] rfl rfl (any_of HT_.out (by kernel_rfl)) (fun _ _ _ h => h) (Or.inr ⟨by rfl, rfl⟩) ?_ ?_
    rotate_left
    ·simp only [Act.put, sI, sZ, sS, i64_w, i32_w]
     rfl
    refine pure_ (i := 18) (N := some 23) (v := undef) (a' := ?_) #[true, true, true, true, true, true, true, true, true, true, true, true, true, true, true, true, true, true, true, false, false, false, false] rfl rfl (any_of HT_.out (by kernel_rfl)) (fun _ _ _ h => h) (Or.inr ⟨by rfl, rfl⟩) ?_ ?_
    rotate_left
    ·simp only [Act.put, sI, sZ, sS, i64_w, i32_w]
     rfl
    refine pure_ (i := 19) (N := some 24) (v := undef) (a' := ?_) #[true, true, true, true, true, true, true, true, true, true, true, true, true, true, true, true, true, true, true, true, false, false, false] rfl rfl (any_of HT_.out (by kernel_rfl)) (fun _ _ _ h => h) (Or.inr ⟨by rfl, rfl⟩) ?_ ?_
    rotate_left
    ·simp only [Act.put, sI, sZ, sS, i64_w, i32_w]
     rfl
    refine pure_ (i := 20) (N := some 25) (v := undef) (a' := ?_) #[true, true, true, true, true, true, true, true, true, true, true, true, true, true, true, true, true, true, true, true, true, false, false] rfl rfl (any_of HT_.out (by kernel_rfl)) (fun _ _ _ h => h) (Or.inr ⟨by rfl, rfl⟩) ?_ ?_
    rotate_left
    ·simp only [Act.put, sI, sZ, sS, i64_w, i32_w]
     rfl
    refine puT HT_.out 21 26 ?_
    refine puT HT_.out 22 4 ?_
    refine done_ (done_of HT_.out (by kernel_rfl)) ?_
    try go_wp2
    go_ret
    exact ⟨er, bs⟩
  ·rw [if_neg c8] at H
   obtain ⟨c8b0, c8b1⟩ := ne2 c8
   obtain rfl := Option.some.inj H
   go_enter Tryd.func48, Tryd.ntmps48
   try go_wp2_with (first | ((with_reducible refine gs 3 rfl ?_); refine bE 3 (cs := #[.int .i64 a1_0, .int .i64 a1_1, .int .i64 a1_2, .int .i64 a1_3, .int .i64 a1_4, .int .i64 a1_5]) (t := 50) ?_; intro gb136 hg w20 hbox hb; obtain ⟨n0_, BK136, GW136, GE136⟩ := bx hg hbox hb; clear HB; have HB := n0_; clear n0_ hb hbox hg))
   replace BK136 := Am (blk_drew BK136.out)
   replace HB := Am (bd HB.out)
   refine sT 23 [] (S := fun w' => w'.cell? ⟨gb136, 0, none⟩ = some (.int .i64 a1_0) ∧ w'.cell? ⟨gb136, 1, none⟩ = some (.int .i64 a1_1) ∧ w'.cell? ⟨gb136, 2, none⟩ = some (.int .i64 a1_2) ∧ w'.cell? ⟨gb136, 3, none⟩ = some (.int .i64 a1_3) ∧ w'.cell? ⟨gb136, 4, none⟩ = some (.int .i64 a1_4) ∧ w'.cell? ⟨gb136, 5, none⟩ = some (.int .i64 a1_5)) (cz6 BK136.out) fun hHeld => ?_; refine with_tabW table_crowned.tab1 table_crowned.bits1 (fun HT_ HW_ => ?_)
   generalize w20.drew = w21 at BK136 HB hHeld ⊢
   refine taT HT_.out HW_.out 0 5 hHeld ?_
   refine onT HT_.out 1 6 fun K hK => ?_
   refine goes_ Tryd.func52 (by kernel_rfl) rfl #[.agg #[.int .i64 a1_0, .int .i64 a1_1, .int .i64 a1_2, .int .i64 a1_3, .int .i64 a1_4, .int .i64 a1_5]] (by rfl) rfl rfl ar ?_
   with_reducible refine (table_isLeaf.calls a1_0 a1_1 a1_2 a1_3 a1_4 a1_5 false _ A3.out).mono ?_
   rintro e w22 ⟨rfl, hb⟩
   refine ⟨_, rfl, ?_⟩
   replace BK136 := Am (blk_below (bk BK136.out) hb)
   replace HB := Am (below_step bs hb)
   (try clear hb)
   refine hK.out _ _ (cz6 BK136.out) (fun hHeld => ?_)
   clear hK K
   refine nm 6 ?_
   refine puT HT_.out 2 7 ?_
   refine puT HT_.out 3 8 ?_
   refine puT HT_.out 4 9 ?_
   refine taT HT_.out HW_.out 5 10 hHeld ?_
   refine puT HT_.out 6 11 ?_
   refine puT HT_.out 7 12 ?_
   refine puT HT_.out 8 13 ?_
   refine pure_ (i := 9) (N := some 14) (v := undef) (a' := ?_) #[true, true, true, true, true, true, true, true, true, true, false, false, false, false, false, false, false, false, false, false, false, false, false] rfl rfl (any_of HT_.out (by kernel_rfl)) (fun _ _ _ h => h) (Or.inr ⟨by rfl, rfl⟩) ?_ ?_
   rotate_left
   ·simp only [Act.put, sI, sZ, sS, i64_w, i32_w]
    rfl
   refine pure_ (i := 10) (N := some 15) (v := undef) (a' := ?_) #[true, true, true, true, true, true, true, true, true, true, true, false, false, false, false, false, false, false, false, false, false, false, false] rfl rfl (any_of HT_.out (by kernel_rfl)) (fun _ _ _ h => h) (Or.inr ⟨by rfl, rfl⟩) ?_ ?_
   rotate_left
   ·simp only [Act.put, sI, sZ, sS, i64_w, i32_w]
    rfl
   refine pure_ (i := 11) (N := some 16) (v := undef) (a' := ?_) #[true, true, true, true, true, true, true, true, true, true, true, true, false, false, false, false, false, false, false, false, false, false, false] rfl rfl (any_of HT_.out (by kernel_rfl)) (fun _ _ _ h => h) (Or.inr ⟨by rfl, rfl⟩) ?_ ?_
   rotate_left
   ·simp only [Act.put, sI, sZ, sS, i64_w, i32_w]
    rfl
   refine puT HT_.out 12 17 ?_
   refine puT HT_.out 13 18 ?_
   refine pure_ (i := 14) (N := some 19) (v := undef) (a' := ?_) #[true, true, true, true, true, true, true, true, true, true, true, true, true, true, true, false, false, false, false, false, false, false, false] rfl rfl (any_of HT_.out (by kernel_rfl)) (fun _ _ _ h => h) (Or.inr ⟨by rfl, rfl⟩) ?_ ?_
   rotate_left
   ·simp only [Act.put, sI, sZ, sS, i64_w, i32_w]
    rfl
   refine pure_ (i := 15) (N := some 20) (v := undef) (a' := ?_) #[true, true, true, true, true, true, true, true, true, true, true, true, true, true, true, true, false, false, false, false, false, false, false] rfl rfl (any_of HT_.out (by kernel_rfl)) (fun _ _ _ h => h) (Or.inr ⟨by rfl, rfl⟩) ?_ ?_
   rotate_left
   ·simp only [Act.put, sI, sZ, sS, i64_w, i32_w]
    rfl
   refine pure_ (i := 16) (N := some 21) (v := undef) (a' := ?_) #[true, true, true, true, true, true, true, true, true, true, true, true, true, true, true, true, true, false, false, false, false, false, false] rfl rfl (any_of HT_.out (by kernel_rfl)) (fun _ _ _ h => h) (Or.inr ⟨by rfl, rfl⟩) ?_ ?_
   rotate_left
   ·simp only [Act.put, sI, sZ, sS, i64_w, i32_w]
    rfl
   refine pure_ (i := 17) (N := some 22) (v := undef) (a' := ?_) #[true, true, true, true, true, true, true, true, true, true, true, true, true, true, true, true, true, true, false, false, false, false, false] rfl rfl (any_of HT_.out (by kernel_rfl)) (fun _ _ _ h => h) (Or.inr ⟨by rfl, rfl⟩) ?_ ?_
   rotate_left
   ·simp only [Act.put, sI, sZ, sS, i64_w, i32_w]
    rfl
   refine pure_ (i := 18) (N := some 23) (v := undef) (a' := ?_) #[true, true, true, true, true, true, true, true, true, true, true, true, true, true, true, true, true, true, true, false, false, false, false] rfl rfl (any_of HT_.out (by kernel_rfl)) (fun _ _ _ h => h) (Or.inr ⟨by rfl, rfl⟩) ?_ ?_
   rotate_left
   ·simp only [Act.put, sI, sZ, sS, i64_w, i32_w]
    rfl
   refine pure_ (i := 19) (N := some 24) (v := undef) (a' := ?_) #[true, true, true, true, true, true, true, true, true, true, true, true, true, true, true, true, true, true, true, true, false, false, false] rfl rfl (any_of HT_.out (by kernel_rfl)) (fun _ _ _ h => h) (Or.inr ⟨by rfl, rfl⟩) ?_ ?_
   rotate_left
   ·simp only [Act.put, sI, sZ, sS, i64_w, i32_w]
    rfl
   refine pure_ (i := 20) (N := some 25) (v := undef) (a' := ?_) #[true, true, true, true, true, true, true, true, true, true, true, true, true, true, true, true, true, true, true, true, true, false, false] rfl rfl (any_of HT_.out (by kernel_rfl)) (fun _ _ _ h => h) (Or.inr ⟨by rfl, rfl⟩) ?_ ?_
   rotate_left
   ·simp only [Act.put, sI, sZ, sS, i64_w, i32_w]
    rfl
   refine puT HT_.out 21 26 ?_
   refine puT HT_.out 22 4 ?_
   refine done_ (done_of HT_.out (by kernel_rfl)) ?_
   try go_wp2
   go_ret
   exact ⟨er, bs⟩
end
section
attribute [local go_sem] max2_int min2_int max_two min_two max_three min_three max_four min_four
attribute [local go_sem high] eqA34
def table_Root.l0 : Nat → List (S34) → List Int → Int → Int → Int → Int → Int → Int → Int → Int → Option (Int × Int)
 | 0, _, _, _, _, _, _, _, _, _, _ => none
 | k + 1, x0, x36, x37, x38, x151000, x151001, x151002, x151003, x151004, x151005 => if x38 < x37 then (if 0 ≤ x38 then (if x38 < (x36.length : Int) then (if 0 ≤ (rd x36 x38) then (if (rd x36 x38) < (x0.length : Int) then (if ((rd_T34 x0 (rd x36 x38)).f1) = 0 then (table_Root.l0 k x0 x36 x37 (wrap64 (x38 + 1)) x151000 x151001 x151002 x151003 x151004 x151005) else (some (0, 3))) else (none)) else (none)) else (none)) else (none)) else (some (x151004, 0))
def table_Root.f (k : Nat) (l0 : List (S34)) : Option (Int × Int) := (table_Check.f k l0).bind fun t145 => (if t145 = 0 then (if 0 < (l0.length : Int) then ((table_crowned.f l0 ((rd_T34 l0 0).f0) ((rd_T34 l0 0).f1) ((rd_T34 l0 0).f2) ((rd_T34 l0 0).f3) ((rd_T34 l0 0).f4) ((rd_T34 l0 0).f5)).bind fun t147 => (if t147 = true then (if 0 ≤ ((rd_T34 l0 0).f4) then (if ((rd_T34 l0 0).f4) < (l0.length : Int) then ((table_sentinel.f).bind fun bt151 => (if (((rd_T34 l0 ((rd_T34 l0 0).f4)).f0) == bt151.1 && (((rd_T34 l0 ((rd_T34 l0 0).f4)).f1) == bt151.2.1 && (((rd_T34 l0 ((rd_T34 l0 0).f4)).f2) == bt151.2.2.1 && (((rd_T34 l0 ((rd_T34 l0 0).f4)).f3) == bt151.2.2.2.1 && (((rd_T34 l0 ((rd_T34 l0 0).f4)).f4) == bt151.2.2.2.2.1 && (((rd_T34 l0 ((rd_T34 l0 0).f4)).f5) == bt151.2.2.2.2.2)))))) = true then (some (0, 4)) else ((table_crowned.f l0 ((rd_T34 l0 ((rd_T34 l0 0).f4)).f0) ((rd_T34 l0 ((rd_T34 l0 0).f4)).f1) ((rd_T34 l0 ((rd_T34 l0 0).f4)).f2) ((rd_T34 l0 ((rd_T34 l0 0).f4)).f3) ((rd_T34 l0 ((rd_T34 l0 0).f4)).f4) ((rd_T34 l0 ((rd_T34 l0 0).f4)).f5)).bind fun t157 => (if t157 = true then ((table_order.f k l0 ((rd_T34 l0 ((rd_T34 l0 0).f4)).f4)).bind fun t158 => (table_Root.l0 k l0 t158 (t158.length : Int) 0 ((rd_T34 l0 ((rd_T34 l0 0).f4)).f0) ((rd_T34 l0 ((rd_T34 l0 0).f4)).f1) ((rd_T34 l0 ((rd_T34 l0 0).f4)).f2) ((rd_T34 l0 ((rd_T34 l0 0).f4)).f3) ((rd_T34 l0 ((rd_T34 l0 0).f4)).f4) ((rd_T34 l0 ((rd_T34 l0 0).f4)).f5))) else (some (0, 3)))))) else (none)) else (none)) else (some (0, 3)))) else (none)) else (some (0, t145)))
theorem table_Root.calls (k : Nat) (A0 : Option Addr) (c0 : Nat) (l0 : List (S34)) (r1 : Int) (r2 : Int) (w : World) (hr0 : Kd.C k34 w A0 l0.length l0) (hc0 : l0.length ≤ c0) (h : table_Root.f k l0 = some (r1, r2)) :
  Calls Tryd.prog 44 #[.slice A0 l0.length c0] w (RB w (.tuple #[.int .i64 r1, .int .i64 r2])) := by
 have hu34 := Tryd.underlying50
 have HR0 := Am hr0
 have HC0 := Am hc0
 clear hr0 hc0
 have HB := Am (Below.refl w.heap.size w)
 have H : ((table_Check.f k l0).bind fun t145 => (if t145 = 0 then (if 0 < (l0.length : Int) then ((table_crowned.f l0 ((rd_T34 l0 0).f0) ((rd_T34 l0 0).f1) ((rd_T34 l0 0).f2) ((rd_T34 l0 0).f3) ((rd_T34 l0 0).f4) ((rd_T34 l0 0).f5)).bind fun t147 => (if t147 = true then (if 0 ≤ ((rd_T34 l0 0).f4) then (if ((rd_T34 l0 0).f4) < (l0.length : Int) then ((table_sentinel.f).bind fun bt151 => (if (((rd_T34 l0 ((rd_T34 l0 0).f4)).f0) == bt151.1 && (((rd_T34 l0 ((rd_T34 l0 0).f4)).f1) == bt151.2.1 && (((rd_T34 l0 ((rd_T34 l0 0).f4)).f2) == bt151.2.2.1 && (((rd_T34 l0 ((rd_T34 l0 0).f4)).f3) == bt151.2.2.2.1 && (((rd_T34 l0 ((rd_T34 l0 0).f4)).f4) == bt151.2.2.2.2.1 && (((rd_T34 l0 ((rd_T34 l0 0).f4)).f5) == bt151.2.2.2.2.2)))))) = true then (some (0, 4)) else ((table_crowned.f l0 ((rd_T34 l0 ((rd_T34 l0 0).f4)).f0) ((rd_T34 l0 ((rd_T34 l0 0).f4)).f1) ((rd_T34 l0 ((rd_T34 l0 0).f4)).f2) ((rd_T34 l0 ((rd_T34 l0 0).f4)).f3) ((rd_T34 l0 ((rd_T34 l0 0).f4)).f4) ((rd_T34 l0 ((rd_T34 l0 0).f4)).f5)).bind fun t157 => (if t157 = true then ((table_order.f k l0 ((rd_T34 l0 ((rd_T34 l0 0).f4)).f4)).bind fun t158 => (table_Root.l0 k l0 t158 (t158.length : Int) 0 ((rd_T34 l0 ((rd_T34 l0 0).f4)).f0) ((rd_T34 l0 ((rd_T34 l0 0).f4)).f1) ((rd_T34 l0 ((rd_T34 l0 0).f4)).f2) ((rd_T34 l0 ((rd_T34 l0 0).f4)).f3) ((rd_T34 l0 ((rd_T34 l0 0).f4)).f4) ((rd_T34 l0 ((rd_T34 l0 0).f4)).f5))) else (some (0, 3)))))) else (none)) else (none)) else (some (0, 3)))) else (none)) else (some (0, t145)))) = some (r1, r2) := h
 clear h
 obtain ⟨t145, A2, H⟩ := bo H
 by_cases c3 : t145 = 0
 ·rw [if_pos c3] at H
  obtain ⟨c3b0, c3b1⟩ := eq2 c3
  clear c3
  obtain ⟨c4, H⟩ := gd H
  have c4b0 := decide_eq_true c4
  have c4b1 : decide (0 < l0.length) = true := decide_eq_true (by omega)
  clear c4
  obtain ⟨t147, A5, H⟩ := bo H
  by_cases c6 : t147 = true
  ·subst c6
   rw [if_pos rfl] at H
   obtain ⟨c7, H⟩ := gd H
   have c7b0 := decide_eq_true c7
   clear c7
   obtain ⟨c8, H⟩ := gd H
   have c8b0 := decide_eq_true c8
   clear c8
   obtain ⟨⟨t151, t152, t153, t154, t155, t156⟩, A9, H⟩ := bo H
   dsimp only at H
   by_cases c10 : (((rd_T34 l0 ((rd_T34 l0 0).f4)).f0) == t151 && (((rd_T34 l0 ((rd_T34 l0 0).f4)).f1) == t152 && (((rd_T34 l0 ((rd_T34 l0 0).f4)).f2) == t153 && (((rd_T34 l0 ((rd_T34 l0 0).f4)).f3) == t154 && (((rd_T34 l0 ((rd_T34 l0 0).f4)).f4) == t155 && (((rd_T34 l0 ((rd_T34 l0 0).f4)).f5) == t156)))))) = true
   ·rw [if_pos c10] at H
    have c10b0 : (((rd_T34 l0 ((rd_T34 l0 0).f4)).f0) == t151 && (((rd_T34 l0 ((rd_T34 l0 0).f4)).f1) == t152 && (((rd_T34 l0 ((rd_T34 l0 0).f4)).f2) == t153 && (((rd_T34 l0 ((rd_T34 l0 0).f4)).f3) == t154 && (((rd_T34 l0 ((rd_T34 l0 0).f4)).f4) == t155 && (((rd_T34 l0 ((rd_T34 l0 0).f4)).f5) == t156)))))) = true := c10
    (try (have c10b1 : decide (((rd_T34 l0 ((rd_T34 l0 0).f4)).f0) = t151 && (((rd_T34 l0 ((rd_T34 l0 0).f4)).f1) == t152 && (((rd_T34 l0 ((rd_T34 l0 0).f4)).f2) == t153 && (((rd_T34 l0 ((rd_T34 l0 0).f4)).f3) == t154 && (((rd_T34 l0 ((rd_T34 l0 0).f4)).f4) == t155 && (((rd_T34 l0 ((rd_T34 l0 0).f4)).f5) == t156)))))) = true := by simpa using c10))
    (try (have c10b2 : (((rd_T34 l0 ((rd_T34 l0 0).f4)).f0) == t151 && (((rd_T34 l0 ((rd_T34 l0 0).f4)).f1) == t152 && (((rd_T34 l0 ((rd_T34 l0 0).f4)).f2) == t153 && (((rd_T34 l0 ((rd_T34 l0 0).f4)).f3) == t154 && (((rd_T34 l0 ((rd_T34 l0 0).f4)).f4) == t155 && (((rd_T34 l0 ((rd_T34 l0 0).f4)).f5) == t156)))))) = true := by simpa using c10))
    clear c10
    simp only [Option.some.injEq, Prod.mk.injEq] at H
    obtain ⟨rfl, rfl⟩ := H
    go_enter Tryd.func44, Tryd.ntmps44
    try go_wp2_with (first | ((with_reducible refine gc 47 rfl ?_); refine goesL_ (some 9) rfl rfl Tryd.func47 (by kernel_rfl) rfl #[.slice A0 l0.length c0] rfl ar ?_; (with_reducible refine (table_Check.calls k _ _ l0 t145 _ ?side1 ?side2 A2.out).mono ?_); (case side1 => exact kc HR0.out); (case side2 => exact HC0.out); rintro e w11 ⟨rfl, hb⟩; refine ⟨_, rfl, ?_⟩; replace HB := Am (below_step bq hb); (try clear hb); have p146 : 0 ≤ (0 : Int) := (by omega); have q146 : 0 < (l0.length : Int) := da; obtain ⟨ad146, e146, hx146_0, hx146_1, hx146_2, hx146_3, hx146_4, hx146_5⟩ := t6 HB.out HR0.out 0 p146 q146; cases e146; have qi146 : (0 < l0.length) = True := eq_true (by omega); (try simp only [show ((0 : Int)).toNat = 0 from rfl, show 0 * 6 = 0 from rfl, Addr.add_zero'] at hx146_0 hx146_1 hx146_2 hx146_3 hx146_4 hx146_5); replace p146 := eq_true p146; replace q146 := eq_true q146) | ((with_reducible refine gc 48 rfl ?_); refine goesL_ (some 17) rfl rfl Tryd.func48 (by kernel_rfl) rfl #[.slice (some ad146) l0.length c0, .agg #[.int .i64 ((rd_T34 l0 0).f0), .int .i64 ((rd_T34 l0 0).f1), .int .i64 ((rd_T34 l0 0).f2), .int .i64 ((rd_T34 l0 0).f3), .int .i64 ((rd_T34 l0 0).f4), .int .i64 ((rd_T34 l0 0).f5)]] rfl ar ?_; (with_reducible refine (table_crowned.calls _ _ l0 _ _ _ _ _ _ true _ ?side1 ?side2 A5.out).mono ?_); (case side1 => exact kc (Kd.C_below HR0.out HB.out)); (case side2 => exact HC0.out); rintro e w12 ⟨rfl, hb⟩; refine ⟨_, rfl, ?_⟩; replace HB := Am (below_step bq hb); (try clear hb); have p148 : 0 ≤ (0 : Int) := (by omega); have q148 : 0 < (l0.length : Int) := da; obtain ⟨ad148, e148, hx148_0, hx148_1, hx148_2, hx148_3, hx148_4, hx148_5⟩ := t6 HB.out HR0.out 0 p148 q148; obtain rfl : ad146 = ad148 := (by injection e148); have qi148 : (0 < l0.length) = True := eq_true (by omega); (try simp only [show ((0 : Int)).toNat = 0 from rfl, show 0 * 6 = 0 from rfl, Addr.add_zero'] at hx148_0 hx148_1 hx148_2 hx148_3 hx148_4 hx148_5); replace p148 := eq_true p148; replace q148 := eq_true q148; obtain ⟨ad149, e149, hx149_0, hx149_1, hx149_2, hx149_3, hx149_4, hx149_5, p149, q149⟩ := t6d HB.out HR0.out ((rd_T34 l0 0).f4); obtain rfl : ad146 = ad149 := (by injection e149)) | ((with_reducible refine gs 5 rfl ?_); refine bE 5 (cs := #[.int .i64 0, .int .i64 0, .int .i64 0, .int .i64 0, .int .i64 0, .int .i64 0]) (t := 50) ?_; intro gb150 hg w13 hbox hb; obtain ⟨n0_, BK150, GW150, GE150⟩ := bx hg hbox hb; clear HB; have HB := n0_; clear n0_ hb hbox hg; obtain ⟨z14_0, z14_1, z14_2, z14_3, z14_4, z14_5, f14_0, f14_1, f14_2, f14_3, f14_4, f14_5⟩ := cf6 BK150.out))
    have n0_ : Aside0 (((((((w13.setCell ⟨gb150, 0, none⟩ (.int .i64 ((rd_T34 l0 ((rd_T34 l0 0).f4)).f0))).setCell ⟨gb150, 1, none⟩ (.int .i64 ((rd_T34 l0 ((rd_T34 l0 0).f4)).f1))).setCell ⟨gb150, 2, none⟩ (.int .i64 ((rd_T34 l0 ((rd_T34 l0 0).f4)).f2))).setCell ⟨gb150, 3, none⟩ (.int .i64 ((rd_T34 l0 ((rd_T34 l0 0).f4)).f3))).setCell ⟨gb150, 4, none⟩ (.int .i64 ((rd_T34 l0 ((rd_T34 l0 0).f4)).f4))).setCell ⟨gb150, 5, none⟩ (.int .i64 ((rd_T34 l0 ((rd_T34 l0 0).f4)).f5))).heap[gb150]? = some (.cells #[.int .i64 ((rd_T34 l0 ((rd_T34 l0 0).f4)).f0), .int .i64 ((rd_T34 l0 ((rd_T34 l0 0).f4)).f1), .int .i64 ((rd_T34 l0 ((rd_T34 l0 0).f4)).f2), .int .i64 ((rd_T34 l0 ((rd_T34 l0 0).f4)).f3), .int .i64 ((rd_T34 l0 ((rd_T34 l0 0).f4)).f4), .int .i64 ((rd_T34 l0 ((rd_T34 l0 0).f4)).f5)] 50 (0, 0))) := ⟨bp6 BK150.out⟩
    have n1_ : Aside0 (Below w.heap.size w ((((((w13.setCell ⟨gb150, 0, none⟩ (.int .i64 ((rd_T34 l0 ((rd_T34 l0 0).f4)).f0))).setCell ⟨gb150, 1, none⟩ (.int .i64 ((rd_T34 l0 ((rd_T34 l0 0).f4)).f1))).setCell ⟨gb150, 2, none⟩ (.int .i64 ((rd_T34 l0 ((rd_T34 l0 0).f4)).f2))).setCell ⟨gb150, 3, none⟩ (.int .i64 ((rd_T34 l0 ((rd_T34 l0 0).f4)).f3))).setCell ⟨gb150, 4, none⟩ (.int .i64 ((rd_T34 l0 ((rd_T34 l0 0).f4)).f4))).setCell ⟨gb150, 5, none⟩ (.int .i64 ((rd_T34 l0 ((rd_T34 l0 0).f4)).f5)))) := ⟨bs⟩
    (try clear BK150)
    (try clear HB)
    generalize ((((((w13.setCell ⟨gb150, 0, none⟩ (.int .i64 ((rd_T34 l0 ((rd_T34 l0 0).f4)).f0))).setCell ⟨gb150, 1, none⟩ (.int .i64 ((rd_T34 l0 ((rd_T34 l0 0).f4)).f1))).setCell ⟨gb150, 2, none⟩ (.int .i64 ((rd_T34 l0 ((rd_T34 l0 0).f4)).f2))).setCell ⟨gb150, 3, none⟩ (.int .i64 ((rd_T34 l0 ((rd_T34 l0 0).f4)).f3))).setCell ⟨gb150, 4, none⟩ (.int .i64 ((rd_T34 l0 ((rd_T34 l0 0).f4)).f4))).setCell ⟨gb150, 5, none⟩ (.int .i64 ((rd_T34 l0 ((rd_T34 l0 0).f4)).f5))) = w15 at n0_ n1_ ⊢
    have BK150 := n0_
    have HB := n1_
    clear n0_ n1_
    replace BK150 := Am (blk_drew BK150.out)
    replace HB := Am (bd HB.out)
    refine sT 3 [] (S := fun w' => w'.cell? ⟨gb150, 0, none⟩ = some (.int .i64 ((rd_T34 l0 ((rd_T34 l0 0).f4)).f0)) ∧ w'.cell? ⟨gb150, 1, none⟩ = some (.int .i64 ((rd_T34 l0 ((rd_T34 l0 0).f4)).f1)) ∧ w'.cell? ⟨gb150, 2, none⟩ = some (.int .i64 ((rd_T34 l0 ((rd_T34 l0 0).f4)).f2)) ∧ w'.cell? ⟨gb150, 3, none⟩ = some (.int .i64 ((rd_T34 l0 ((rd_T34 l0 0).f4)).f3)) ∧ w'.cell? ⟨gb150, 4, none⟩ = some (.int .i64 ((rd_T34 l0 ((rd_T34 l0 0).f4)).f4)) ∧ w'.cell? ⟨gb150, 5, none⟩ = some (.int .i64 ((rd_T34 l0 ((rd_T34 l0 0).f4)).f5))) (cz6 BK150.out) fun hHeld => ?_
    generalize w15.drew = w16 at BK150 HB hHeld ⊢
    refine ta 0 26 hHeld ?_
    refine on 1 27 fun K hK => ?_
    refine goes_ Tryd.func49 (by kernel_rfl) rfl #[] (by rfl) rfl rfl ar ?_
    with_reducible refine (table_sentinel.calls  t151 t152 t153 t154 t155 t156 _ A9.out).mono ?_
    rintro e w17 ⟨rfl, hb⟩
    refine ⟨_, rfl, ?_⟩
    replace BK150 := Am (blk_below (bk BK150.out) hb)
    replace HB := Am (below_step bs hb)
    (try clear hb)
    refine hK.out _ _ (cz6 BK150.out) (fun hHeld => ?_)
    clear hK K
    refine nm 27 ?_
    refine pu 2 28 ?_
    refine done_ (by kernel_rfl) ?_
    try go_wp2
    go_ret2
    exact ⟨er, bs⟩
   ·rw [if_neg c10] at H
    have c10b0 : (((rd_T34 l0 ((rd_T34 l0 0).f4)).f0) == t151 && (((rd_T34 l0 ((rd_T34 l0 0).f4)).f1) == t152 && (((rd_T34 l0 ((rd_T34 l0 0).f4)).f2) == t153 && (((rd_T34 l0 ((rd_T34 l0 0).f4)).f3) == t154 && (((rd_T34 l0 ((rd_T34 l0 0).f4)).f4) == t155 && (((rd_T34 l0 ((rd_T34 l0 0).f4)).f5) == t156)))))) = false := by simpa using c10
    (try (have c10b1 : decide (((rd_T34 l0 ((rd_T34 l0 0).f4)).f0) = t151 && (((rd_T34 l0 ((rd_T34 l0 0).f4)).f1) == t152 && (((rd_T34 l0 ((rd_T34 l0 0).f4)).f2) == t153 && (((rd_T34 l0 ((rd_T34 l0 0).f4)).f3) == t154 && (((rd_T34 l0 ((rd_T34 l0 0).f4)).f4) == t155 && (((rd_T34 l0 ((rd_T34 l0 0).f4)).f5) == t156)))))) = false := by simpa using c10))
    (try (have c10b2 : (((rd_T34 l0 ((rd_T34 l0 0).f4)).f0) == t151 && (((rd_T34 l0 ((rd_T34 l0 0).f4)).f1) == t152 && (((rd_T34 l0 ((rd_T34 l0 0).f4)).f2) == t153 && (((rd_T34 l0 ((rd_T34 l0 0).f4)).f3) == t154 && (((rd_T34 l0 ((rd_T34 l0 0).f4)).f4) == t155 && (((rd_T34 l0 ((rd_T34 l0 0).f4)).f5) == t156)))))) = false := by simpa using c10))
    (try (have c10b3 : ¬ (((rd_T34 l0 ((rd_T34 l0 0).f4)).f0) = t151 && (((rd_T34 l0 ((rd_T34 l0 0).f4)).f1) == t152 && (((rd_T34 l0 ((rd_T34 l0 0).f4)).f2) == t153 && (((rd_T34 l0 ((rd_T34 l0 0).f4)).f3) == t154 && (((rd_T34 l0 ((rd_T34 l0 0).f4)).f4) == t155 && (((rd_T34 l0 ((rd_T34 l0 0).f4)).f5) == t156)))))) := by simpa using c10))
    clear c10
    obtain ⟨t157, A18, H⟩ := bo H
    by_cases c19 : t157 = true
    ·subst c19
     rw [if_pos rfl] at H
     obtain ⟨t158, A20, H⟩ := bo H
     have H' := Am H
     clear H
     go_enter Tryd.func44, Tryd.ntmps44
     try go_wp2_with (first | ((with_reducible refine gc 47 rfl ?_); refine goesL_ (some 9) rfl rfl Tryd.func47 (by kernel_rfl) rfl #[.slice A0 l0.length c0] rfl ar ?_; (with_reducible refine (table_Check.calls k _ _ l0 t145 _ ?side1 ?side2 A2.out).mono ?_); (case side1 => exact kc HR0.out); (case side2 => exact HC0.out); rintro e w21 ⟨rfl, hb⟩; refine ⟨_, rfl, ?_⟩; replace HB := Am (below_step bq hb); (try clear hb); have p146 : 0 ≤ (0 : Int) := (by omega); have q146 : 0 < (l0.length : Int) := da; obtain ⟨ad146, e146, hx146_0, hx146_1, hx146_2, hx146_3, hx146_4, hx146_5⟩ := t6 HB.out HR0.out 0 p146 q146; cases e146; have qi146 : (0 < l0.length) = True := eq_true (by omega); (try simp only [show ((0 : Int)).toNat = 0 from rfl, show 0 * 6 = 0 from rfl, Addr.add_zero'] at hx146_0 hx146_1 hx146_2 hx146_3 hx146_4 hx146_5); replace p146 := eq_true p146; replace q146 := eq_true q146) | ((with_reducible refine gc 48 rfl ?_); refine goesL_ (some 17) rfl rfl Tryd.func48 (by kernel_rfl) rfl #[.slice (some ad146) l0.length c0, .agg #[.int .i64 ((rd_T34 l0 0).f0), .int .i64 ((rd_T34 l0 0).f1), .int .i64 ((rd_T34 l0 0).f2), .int .i64 ((rd_T34 l0 0).f3), .int .i64 ((rd_T34 l0 0).f4), .int .i64 ((rd_T34 l0 0).f5)]] rfl ar ?_; (with_reducible refine (table_crowned.calls _ _ l0 _ _ _ _ _ _ true _ ?side1 ?side2 A5.out).mono ?_); (case side1 => exact kc (Kd.C_below HR0.out HB.out)); (case side2 => exact HC0.out); rintro e w22 ⟨rfl, hb⟩; refine ⟨_, rfl, ?_⟩; replace HB := Am (below_step bq hb); (try clear hb); have p148 : 0 ≤ (0 : Int) := (by omega); have q148 : 0 < (l0.length : Int) := da; obtain ⟨ad148, e148, hx148_0, hx148_1, hx148_2, hx148_3, hx148_4, hx148_5⟩ := t6 HB.out HR0.out 0 p148 q148; obtain rfl : ad146 = ad148 := (by injection e148); have qi148 : (0 < l0.length) = True := eq_true (by omega); (try simp only [show ((0 : Int)).toNat = 0 from rfl, show 0 * 6 = 0 from rfl, Addr.add_zero'] at hx148_0 hx148_1 hx148_2 hx148_3 hx148_4 hx148_5); replace p148 := eq_true p148; replace q148 := eq_true q148; obtain ⟨ad149, e149, hx149_0, hx149_1, hx149_2, hx149_3, hx149_4, hx149_5, p149, q149⟩ := t6d HB.out HR0.out ((rd_T34 l0 0).f4); obtain rfl : ad146 = ad149 := (by injection e149)) | ((with_reducible refine gs 5 rfl ?_); refine bE 5 (cs := #[.int .i64 0, .int .i64 0, .int .i64 0, .int .i64 0, .int .i64 0, .int .i64 0]) (t := 50) ?_; intro gb150 hg w23 hbox hb; obtain ⟨n0_, BK150, GW150, GE150⟩ := bx hg hbox hb; clear HB; have HB := n0_; clear n0_ hb hbox hg; obtain ⟨z24_0, z24_1, z24_2, z24_3, z24_4, z24_5, f24_0, f24_1, f24_2, f24_3, f24_4, f24_5⟩ := cf6 BK150.out))
     have n0_ : Aside0 (((((((w23.setCell ⟨gb150, 0, none⟩ (.int .i64 ((rd_T34 l0 ((rd_T34 l0 0).f4)).f0))).setCell ⟨gb150, 1, none⟩ (.int .i64 ((rd_T34 l0 ((rd_T34 l0 0).f4)).f1))).setCell ⟨gb150, 2, none⟩ (.int .i64 ((rd_T34 l0 ((rd_T34 l0 0).f4)).f2))).setCell ⟨gb150, 3, none⟩ (.int .i64 ((rd_T34 l0 ((rd_T34 l0 0).f4)).f3))).setCell ⟨gb150, 4, none⟩ (.int .i64 ((rd_T34 l0 ((rd_T34 l0 0).f4)).f4))).setCell ⟨gb150, 5, none⟩ (.int .i64 ((rd_T34 l0 ((rd_T34 l0 0).f4)).f5))).heap[gb150]? = some (.cells #[.int .i64 ((rd_T34 l0 ((rd_T34 l0 0).f4)).f0), .int .i64 ((rd_T34 l0 ((rd_T34 l0 0).f4)).f1), .int .i64 ((rd_T34 l0 ((rd_T34 l0 0).f4)).f2), .int .i64 ((rd_T34 l0 ((rd_T34 l0 0).f4)).f3), .int .i64 ((rd_T34 l0 ((rd_T34 l0 0).f4)).f4), .int .i64 ((rd_T34 l0 ((rd_T34 l0 0).f4)).f5)] 50 (0, 0))) := ⟨bp6 BK150.out⟩
     have n1_ : Aside0 (Below w.heap.size w ((((((w23.setCell ⟨gb150, 0, none⟩ (.int .i64 ((rd_T34 l0 ((rd_T34 l0 0).f4)).f0))).setCell ⟨gb150, 1, none⟩ (.int .i64 ((rd_T34 l0 ((rd_T34 l0 0).f4)).f1))).setCell ⟨gb150, 2, none⟩ (.int .i64 ((rd_T34 l0 ((rd_T34 l0 0).f4)).f2))).setCell ⟨gb150, 3, none⟩ (.int .i64 ((rd_T34 l0 ((rd_T34 l0 0).f4)).f3))).setCell ⟨gb150, 4, none⟩ (.int .i64 ((rd_T34 l0 ((rd_T34 l0 0).f4)).f4))).setCell ⟨gb150, 5, none⟩ (.int .i64 ((rd_T34 l0 ((rd_T34 l0 0).f4)).f5)))) := ⟨bs⟩
     (try clear BK150)
     (try clear HB)
     generalize ((((((w23.setCell ⟨gb150, 0, none⟩ (.int .i64 ((rd_T34 l0 ((rd_T34 l0 0).f4)).f0))).setCell ⟨gb150, 1, none⟩ (.int .i64 ((rd_T34 l0 ((rd_T34 l0 0).f4)).f1))).setCell ⟨gb150, 2, none⟩ (.int .i64 ((rd_T34 l0 ((rd_T34 l0 0).f4)).f2))).setCell ⟨gb150, 3, none⟩ (.int .i64 ((rd_T34 l0 ((rd_T34 l0 0).f4)).f3))).setCell ⟨gb150, 4, none⟩ (.int .i64 ((rd_T34 l0 ((rd_T34 l0 0).f4)).f4))).setCell ⟨gb150, 5, none⟩ (.int .i64 ((rd_T34 l0 ((rd_T34 l0 0).f4)).f5))) = w25 at n0_ n1_ ⊢
     have BK150 := n0_
     have HB := n1_
     clear n0_ n1_
     replace BK150 := Am (blk_drew BK150.out)
     replace HB := Am (bd HB.out)
     refine sT 3 [] (S := fun w' => w'.cell? ⟨gb150, 0, none⟩ = some (.int .i64 ((rd_T34 l0 ((rd_T34 l0 0).f4)).f0)) ∧ w'.cell? ⟨gb150, 1, none⟩ = some (.int .i64 ((rd_T34 l0 ((rd_T34 l0 0).f4)).f1)) ∧ w'.cell? ⟨gb150, 2, none⟩ = some (.int .i64 ((rd_T34 l0 ((rd_T34 l0 0).f4)).f2)) ∧ w'.cell? ⟨gb150, 3, none⟩ = some (.int .i64 ((rd_T34 l0 ((rd_T34 l0 0).f4)).f3)) ∧ w'.cell? ⟨gb150, 4, none⟩ = some (.int .i64 ((rd_T34 l0 ((rd_T34 l0 0).f4)).f4)) ∧ w'.cell? ⟨gb150, 5, none⟩ = some (.int .i64 ((rd_T34 l0 ((rd_T34 l0 0).f4)).f5))) (cz6 BK150.out) fun hHeld => ?_
     generalize w25.drew = w26 at BK150 HB hHeld ⊢
     refine ta 0 26 hHeld ?_
     refine on 1 27 fun K hK => ?_
     refine goes_ Tryd.func49 (by kernel_rfl) rfl #[] (by rfl) rfl rfl ar ?_
     with_reducible refine (table_sentinel.calls  t151 t152 t153 t154 t155 t156 _ A9.out).mono ?_
     rintro e w27 ⟨rfl, hb⟩
     refine ⟨_, rfl, ?_⟩
     replace BK150 := Am (blk_below (bk BK150.out) hb)
     replace HB := Am (below_step bs hb)
     (try clear hb)
     refine hK.out _ _ (cz6 BK150.out) (fun hHeld => ?_)
     clear hK K
     refine nm 27 ?_
     refine pu 2 28 ?_
     refine done_ (by kernel_rfl) ?_
     obtain ⟨z28_0, z28_1, z28_2, z28_3, z28_4, z28_5, f28_0, f28_1, f28_2, f28_3, f28_4, f28_5⟩ := cf6 BK150.out
     try go_wp2_with (first | ((with_reducible refine gc 48 rfl ?_); refine goesL_ (some 31) rfl rfl Tryd.func48 (by kernel_rfl) rfl #[.slice (some ad146) l0.length c0, .agg #[.int .i64 ((rd_T34 l0 ((rd_T34 l0 0).f4)).f0), .int .i64 ((rd_T34 l0 ((rd_T34 l0 0).f4)).f1), .int .i64 ((rd_T34 l0 ((rd_T34 l0 0).f4)).f2), .int .i64 ((rd_T34 l0 ((rd_T34 l0 0).f4)).f3), .int .i64 ((rd_T34 l0 ((rd_T34 l0 0).f4)).f4), .int .i64 ((rd_T34 l0 ((rd_T34 l0 0).f4)).f5)]] rfl ar ?_; (with_reducible refine (table_crowned.calls _ _ l0 _ _ _ _ _ _ true _ ?side1 ?side2 A18.out).mono ?_); (case side1 => exact kc (Kd.C_below HR0.out HB.out)); (case side2 => exact HC0.out); rintro e w29 ⟨rfl, hb⟩; refine ⟨_, rfl, ?_⟩; replace BK150 := Am (blk_below (bk BK150.out) hb); replace HB := Am (below_step bs hb); (try clear hb); obtain ⟨z30_0, z30_1, z30_2, z30_3, z30_4, z30_5, f30_0, f30_1, f30_2, f30_3, f30_4, f30_5⟩ := cf6 BK150.out) | ((with_reducible refine gc 50 rfl ?_); refine goesL_ (some 36) rfl rfl Tryd.func50 (by kernel_rfl) rfl #[.slice (some ad146) l0.length c0, .int .i64 ((rd_T34 l0 ((rd_T34 l0 0).f4)).f4)] rfl ar ?_; (with_reducible refine (table_order.calls k _ _ l0 ((rd_T34 l0 ((rd_T34 l0 0).f4)).f4) t158 _ ?side1 ?side2 A20.out).mono ?_); (case side1 => exact kc (Kd.C_below HR0.out HB.out)); (case side2 => exact HC0.out); rintro e w31 ⟨v159, rfl, ho0, hb⟩; refine ⟨_, rfl, ?_⟩; replace HO160 := Am (Kd.R_lower ho0 (below_size bs)); replace BK150 := Am (blk_below (bk BK150.out) hb); replace HB := Am (below_step bs hb); (try clear hb); (try clear hb2); (try clear hk); (try clear hi); (try clear ho0); obtain ⟨Ao32, co32, eo32⟩ := Kd.R_slice HO160.out; subst eo32))
     go_loopg [38] k (fun kq v38 w' => ∃ (x38_1 : Int), v38 = .int .i64 x38_1 ∧ Aside0 (table_Root.l0 kq l0 t158 (t158.length : Int) x38_1 ((rd_T34 l0 ((rd_T34 l0 0).f4)).f0) ((rd_T34 l0 ((rd_T34 l0 0).f4)).f1) ((rd_T34 l0 ((rd_T34 l0 0).f4)).f2) ((rd_T34 l0 ((rd_T34 l0 0).f4)).f3) ((rd_T34 l0 ((rd_T34 l0 0).f4)).f4) ((rd_T34 l0 ((rd_T34 l0 0).f4)).f5) = some (r1, r2)) ∧ Aside0 (kq ≤ k) ∧ Aside0 (Kd.R (Kd.int .i64) 3 w' w.heap.size (fun _ => True) (.slice Ao32 t158.length co32) t158) ∧ Aside0 (w'.heap[gb150]? = some (.cells #[.int .i64 ((rd_T34 l0 ((rd_T34 l0 0).f4)).f0), .int .i64 ((rd_T34 l0 ((rd_T34 l0 0).f4)).f1), .int .i64 ((rd_T34 l0 ((rd_T34 l0 0).f4)).f2), .int .i64 ((rd_T34 l0 ((rd_T34 l0 0).f4)).f3), .int .i64 ((rd_T34 l0 ((rd_T34 l0 0).f4)).f4), .int .i64 ((rd_T34 l0 ((rd_T34 l0 0).f4)).f5)] 50 (0, 0))) ∧ Aside0 (Below w.heap.size w w'))
     case atStart => exact ⟨(0), (by first | rfl | (simp; done) | (simp [*]; done)), H', ⟨Nat.le_refl _⟩, ⟨kr HO160.out⟩, ⟨bk BK150.out⟩, ⟨bs⟩⟩
     case round =>
      clear H'
      clear c3b0 c3b1 c4b0 c4b1 c7b0 c8b0 c10b0 z28_0 z28_1 z28_2 z28_3 z28_4 z28_5 f28_0 f28_1 f28_2 f28_3 f28_4 f28_5
      try clear c1
      try clear p1
      try clear q1
      try clear hx1
      try clear qi1
      try clear p2
      try clear c10b1
      try clear c10b2
      try clear c12
      try clear p14
      try clear q14
      try clear hx14
      try clear qi14
      try clear z14_0
      try clear z14_1
      try clear z14_2
      try clear z14_3
      try clear z14_4
      try clear z14_5
      try clear z24_0
      try clear z24_1
      try clear z24_2
      try clear z24_3
      try clear z24_4
      try clear z24_5
      try clear z30_0
      try clear z30_1
      try clear z30_2
      try clear z30_3
      try clear z30_4
      try clear z30_5
      try clear f14_0
      try clear f14_1
      try clear f14_2
      try clear f14_3
      try clear f14_4
      try clear f14_5
      try clear f24_0
      try clear f24_1
      try clear f24_2
      try clear f24_3
      try clear f24_4
      try clear f24_5
      try clear f30_0
      try clear f30_1
      try clear f30_2
      try clear f30_3
      try clear f30_4
      try clear f30_5
      try clear hx146_0
      try clear hx146_1
      try clear hx146_2
      try clear hx146_3
      try clear hx146_4
      try clear hx146_5
      try clear hx148_0
      try clear hx148_1
      try clear hx148_2
      try clear hx148_3
      try clear hx148_4
      try clear hx148_5
      try clear hx149_0
      try clear hx149_1
      try clear hx149_2
      try clear hx149_3
      try clear hx149_4
      try clear hx149_5
      try clear p146
      try clear p148
      try clear p149
      try clear q146
      try clear q148
      try clear q149
      obtain ⟨x38_1, rfl, HA, HK1, HO_36, BK150, HB⟩ := hrel
      cases gk with
      | zero => exact absurd HA.out (by simp [table_Root.l0])
      | succ k1 =>
       have H := HA.out
       clear HA
       simp only [table_Root.l0] at H
       by_cases c33 : x38_1 < (t158.length : Int)
       ·rw [if_pos c33] at H
        have c33b0 := decide_eq_true c33
        clear c33
        obtain ⟨c34, H⟩ := gd H
        have c34b0 := decide_eq_true c34
        clear c34
        obtain ⟨c35, H⟩ := gd H
        have c35b0 := decide_eq_true c35
        clear c35
        obtain ⟨c36, H⟩ := gd H
        have c36b0 := decide_eq_true c36
        clear c36
        obtain ⟨c37, H⟩ := gd H
        have c37b0 := decide_eq_true c37
        clear c37
        by_cases c38 : ((rd_T34 l0 (rd t158 x38_1)).f1) = 0
        ·rw [if_pos c38] at H
         obtain ⟨c38b0, c38b1⟩ := eq2 c38
         clear c38
         have H' := Am H
         clear H
         have p161 : 0 ≤ (x38_1 : Int) := da
         have q161 : x38_1 < (t158.length : Int) := da
         obtain ⟨ad161, e161, hx161_0⟩ := Kd.at_int (Kd.R_reads' HO_36.out).2.2 x38_1 p161 q161
         cases e161
         replace p161 := eq_true p161
         replace q161 := eq_true q161
         obtain ⟨ad162, e162, hx162_0, hx162_1, hx162_2, hx162_3, hx162_4, hx162_5, p162, q162⟩ := t6d HB.out HR0.out (rd t158 x38_1)
         obtain rfl : ad146 = ad162 := (by injection e162)
         go_wp2
         go_roundg k1
         case measure => have := HK1.out; omega
         case rel => exact ⟨(wrap64 (x38_1 + 1)), (by first | rfl | (simp; done) | (simp [*]; done)), H', ⟨by have := HK1.out; omega⟩, ⟨kr HO_36.out⟩, ⟨bk BK150.out⟩, ⟨bs⟩⟩
        ·rw [if_neg c38] at H
         obtain ⟨c38b0, c38b1⟩ := ne2 c38
         simp only [Option.some.injEq, Prod.mk.injEq] at H
         obtain ⟨rfl, rfl⟩ := H
         have p161 : 0 ≤ (x38_1 : Int) := da
         have q161 : x38_1 < (t158.length : Int) := da
         obtain ⟨ad161, e161, hx161_0⟩ := Kd.at_int (Kd.R_reads' HO_36.out).2.2 x38_1 p161 q161
         cases e161
         replace p161 := eq_true p161
         replace q161 := eq_true q161
         obtain ⟨ad162, e162, hx162_0, hx162_1, hx162_2, hx162_3, hx162_4, hx162_5, p162, q162⟩ := t6d HB.out HR0.out (rd t158 x38_1)
         obtain rfl : ad146 = ad162 := (by injection e162)
         go_wp2
         go_ret2
         exact ⟨er, bs⟩
       ·rw [if_neg c33] at H
        have c33b0 := decide_eq_false c33
        clear c33
        simp only [Option.some.injEq, Prod.mk.injEq] at H
        obtain ⟨rfl, rfl⟩ := H
        obtain ⟨z39_0, z39_1, z39_2, z39_3, z39_4, z39_5, f39_0, f39_1, f39_2, f39_3, f39_4, f39_5⟩ := cf6 BK150.out
        go_wp2
        go_ret2
        exact ⟨er, bs⟩
    ·replace c19 := Bool.eq_false_iff.mpr c19
     subst c19
     rw [if_neg nf] at H
     simp only [Option.some.injEq, Prod.mk.injEq] at H
     obtain ⟨rfl, rfl⟩ := H
     go_enter Tryd.func44, Tryd.ntmps44
     try go_wp2_with (first | ((with_reducible refine gc 47 rfl ?_); refine goesL_ (some 9) rfl rfl Tryd.func47 (by kernel_rfl) rfl #[.slice A0 l0.length c0] rfl ar ?_; (with_reducible refine (table_Check.calls k _ _ l0 t145 _ ?side1 ?side2 A2.out).mono ?_); (case side1 => exact kc HR0.out); (case side2 => exact HC0.out); rintro e w40 ⟨rfl, hb⟩; refine ⟨_, rfl, ?_⟩; replace HB := Am (below_step bq hb); (try clear hb); have p146 : 0 ≤ (0 : Int) := (by omega); have q146 : 0 < (l0.length : Int) := da; obtain ⟨ad146, e146, hx146_0, hx146_1, hx146_2, hx146_3, hx146_4, hx146_5⟩ := t6 HB.out HR0.out 0 p146 q146; cases e146; have qi146 : (0 < l0.length) = True := eq_true (by omega); (try simp only [show ((0 : Int)).toNat = 0 from rfl, show 0 * 6 = 0 from rfl, Addr.add_zero'] at hx146_0 hx146_1 hx146_2 hx146_3 hx146_4 hx146_5); replace p146 := eq_true p146; replace q146 := eq_true q146) | ((with_reducible refine gc 48 rfl ?_); refine goesL_ (some 17) rfl rfl Tryd.func48 (by kernel_rfl) rfl #[.slice (some ad146) l0.length c0, .agg #[.int .i64 ((rd_T34 l0 0).f0), .int .i64 ((rd_T34 l0 0).f1), .int .i64 ((rd_T34 l0 0).f2), .int .i64 ((rd_T34 l0 0).f3), .int .i64 ((rd_T34 l0 0).f4), .int .i64 ((rd_T34 l0 0).f5)]] rfl ar ?_; (with_reducible refine (table_crowned.calls _ _ l0 _ _ _ _ _ _ true _ ?side1 ?side2 A5.out).mono ?_); (case side1 => exact kc (Kd.C_below HR0.out HB.out)); (case side2 => exact HC0.out); rintro e w41 ⟨rfl, hb⟩; refine ⟨_, rfl, ?_⟩; replace HB := Am (below_step bq hb); (try clear hb); have p148 : 0 ≤ (0 : Int) := (by omega); have q148 : 0 < (l0.length : Int) := da; obtain ⟨ad148, e148, hx148_0, hx148_1, hx148_2, hx148_3, hx148_4, hx148_5⟩ := t6 HB.out HR0.out 0 p148 q148; obtain rfl : ad146 = ad148 := (by injection e148); have qi148 : (0 < l0.length) = True := eq_true (by omega); (try simp only [show ((0 : Int)).toNat = 0 from rfl, show 0 * 6 = 0 from rfl, Addr.add_zero'] at hx148_0 hx148_1 hx148_2 hx148_3 hx148_4 hx148_5); replace p148 := eq_true p148; replace q148 := eq_true q148; obtain ⟨ad149, e149, hx149_0, hx149_1, hx149_2, hx149_3, hx149_4, hx149_5, p149, q149⟩ := t6d HB.out HR0.out ((rd_T34 l0 0).f4); obtain rfl : ad146 = ad149 := (by injection e149)) | ((with_reducible refine gs 5 rfl ?_); refine bE 5 (cs := #[.int .i64 0, .int .i64 0, .int .i64 0, .int .i64 0, .int .i64 0, .int .i64 0]) (t := 50) ?_; intro gb150 hg w42 hbox hb; obtain ⟨n0_, BK150, GW150, GE150⟩ := bx hg hbox hb; clear HB; have HB := n0_; clear n0_ hb hbox hg; obtain ⟨z43_0, z43_1, z43_2, z43_3, z43_4, z43_5, f43_0, f43_1, f43_2, f43_3, f43_4, f43_5⟩ := cf6 BK150.out))
     have n0_ : Aside0 (((((((w42.setCell ⟨gb150, 0, none⟩ (.int .i64 ((rd_T34 l0 ((rd_T34 l0 0).f4)).f0))).setCell ⟨gb150, 1, none⟩ (.int .i64 ((rd_T34 l0 ((rd_T34 l0 0).f4)).f1))).setCell ⟨gb150, 2, none⟩ (.int .i64 ((rd_T34 l0 ((rd_T34 l0 0).f4)).f2))).setCell ⟨gb150, 3, none⟩ (.int .i64 ((rd_T34 l0 ((rd_T34 l0 0).f4)).f3))).setCell ⟨gb150, 4, none⟩ (.int .i64 ((rd_T34 l0 ((rd_T34 l0 0).f4)).f4))).setCell ⟨gb150, 5, none⟩ (.int .i64 ((rd_T34 l0 ((rd_T34 l0 0).f4)).f5))).heap[gb150]? = some (.cells #[.int .i64 ((rd_T34 l0 ((rd_T34 l0 0).f4)).f0), .int .i64 ((rd_T34 l0 ((rd_T34 l0 0).f4)).f1), .int .i64 ((rd_T34 l0 ((rd_T34 l0 0).f4)).f2), .int .i64 ((rd_T34 l0 ((rd_T34 l0 0).f4)).f3), .int .i64 ((rd_T34 l0 ((rd_T34 l0 0).f4)).f4), .int .i64 ((rd_T34 l0 ((rd_T34 l0 0).f4)).f5)] 50 (0, 0))) := ⟨bp6 BK150.out⟩
     have n1_ : Aside0 (Below w.heap.size w ((((((w42.setCell ⟨gb150, 0, none⟩ (.int .i64 ((rd_T34 l0 ((rd_T34 l0 0).f4)).f0))).setCell ⟨gb150, 1, none⟩ (.int .i64 ((rd_T34 l0 ((rd_T34 l0 0).f4)).f1))).setCell ⟨gb150, 2, none⟩ (.int .i64 ((rd_T34 l0 ((rd_T34 l0 0).f4)).f2))).setCell ⟨gb150, 3, none⟩ (.int .i64 ((rd_T34 l0 ((rd_T34 l0 0).f4)).f3))).setCell ⟨gb150, 4, none⟩ (.int .i64 ((rd_T34 l0 ((rd_T34 l0 0).f4)).f4))).setCell ⟨gb150, 5, none⟩ (.int .i64 ((rd_T34 l0 ((rd_T34 l0 0).f4)).f5)))) := ⟨bs⟩
     (try clear BK150)
     (try clear HB)
     generalize ((((((w42.setCell ⟨gb150, 0, none⟩ (.int .i64 ((rd_T34 l0 ((rd_T34 l0 0).f4)).f0))).setCell ⟨gb150, 1, none⟩ (.int .i64 ((rd_T34 l0 ((rd_T34 l0 0).f4)).f1))).setCell ⟨gb150, 2, none⟩ (.int .i64 ((rd_T34 l0 ((rd_T34 l0 0).f4)).f2))).setCell ⟨gb150, 3, none⟩ (.int .i64 ((rd_T34 l0 ((rd_T34 l0 0).f4)).f3))).setCell ⟨gb150, 4, none⟩ (.int .i64 ((rd_T34 l0 ((rd_T34 l0 0).f4)).f4))).setCell ⟨gb150, 5, none⟩ (.int .i64 ((rd_T34 l0 ((rd_T34 l0 0).f4)).f5))) = w44 at n0_ n1_ ⊢
     have BK150 := n0_
     have HB := n1_
     clear n0_ n1_
     replace BK150 := Am (blk_drew BK150.out)
     replace HB := Am (bd HB.out)
     refine sT 3 [] (S := fun w' => w'.cell? ⟨gb150, 0, none⟩ = some (.int .i64 ((rd_T34 l0 ((rd_T34 l0 0).f4)).f0)) ∧ w'.cell? ⟨gb150, 1, none⟩ = some (.int .i64 ((rd_T34 l0 ((rd_T34 l0 0).f4)).f1)) ∧ w'.cell? ⟨gb150, 2, none⟩ = some (.int .i64 ((rd_T34 l0 ((rd_T34 l0 0).f4)).f2)) ∧ w'.cell? ⟨gb150, 3, none⟩ = some (.int .i64 ((rd_T34 l0 ((rd_T34 l0 0).f4)).f3)) ∧ w'.cell? ⟨gb150, 4, none⟩ = some (.int .i64 ((rd_T34 l0 ((rd_T34 l0 0).f4)).f4)) ∧ w'.cell? ⟨gb150, 5, none⟩ = some (.int .i64 ((rd_T34 l0 ((rd_T34 l0 0).f4)).f5))) (cz6 BK150.out) fun hHeld => ?_
     generalize w44.drew = w45 at BK150 HB hHeld ⊢
     refine ta 0 26 hHeld ?_
     refine on 1 27 fun K hK => ?_
     refine goes_ Tryd.func49 (by kernel_rfl) rfl #[] (by rfl) rfl rfl ar ?_
     with_reducible refine (table_sentinel.calls  t151 t152 t153 t154 t155 t156 _ A9.out).mono ?_
     rintro e w46 ⟨rfl, hb⟩
     refine ⟨_, rfl, ?_⟩
     replace BK150 := Am (blk_below (bk BK150.out) hb)
     replace HB := Am (below_step bs hb)
     (try clear hb)
     refine hK.out _ _ (cz6 BK150.out) (fun hHeld => ?_)
     clear hK K
     refine nm 27 ?_
     refine pu 2 28 ?_
     refine done_ (by kernel_rfl) ?_
     obtain ⟨z47_0, z47_1, z47_2, z47_3, z47_4, z47_5, f47_0, f47_1, f47_2, f47_3, f47_4, f47_5⟩ := cf6 BK150.out
     try go_wp2_with (first | ((with_reducible refine gc 48 rfl ?_); refine goesL_ (some 31) rfl rfl Tryd.func48 (by kernel_rfl) rfl #[.slice (some ad146) l0.length c0, .agg #[.int .i64 ((rd_T34 l0 ((rd_T34 l0 0).f4)).f0), .int .i64 ((rd_T34 l0 ((rd_T34 l0 0).f4)).f1), .int .i64 ((rd_T34 l0 ((rd_T34 l0 0).f4)).f2), .int .i64 ((rd_T34 l0 ((rd_T34 l0 0).f4)).f3), .int .i64 ((rd_T34 l0 ((rd_T34 l0 0).f4)).f4), .int .i64 ((rd_T34 l0 ((rd_T34 l0 0).f4)).f5)]] rfl ar ?_; (with_reducible refine (table_crowned.calls _ _ l0 _ _ _ _ _ _ false _ ?side1 ?side2 A18.out).mono ?_); (case side1 => exact kc (Kd.C_below HR0.out HB.out)); (case side2 => exact HC0.out); rintro e w48 ⟨rfl, hb⟩; refine ⟨_, rfl, ?_⟩; replace BK150 := Am (blk_below (bk BK150.out) hb); replace HB := Am (below_step bs hb); (try clear hb)))
     go_ret2
     exact ⟨er, bs⟩
  ·replace c6 := Bool.eq_false_iff.mpr c6
   subst c6
   rw [if_neg nf] at H
   simp only [Option.some.injEq, Prod.mk.injEq] at H
   obtain ⟨rfl, rfl⟩ := H
   go_enter Tryd.func44, Tryd.ntmps44
   go_wp2_with (first | ((with_reducible refine gc 47 rfl ?_); refine goesL_ (some 9) rfl rfl Tryd.func47 (by kernel_rfl) rfl #[.slice A0 l0.length c0] rfl ar ?_; (with_reducible refine (table_Check.calls k _ _ l0 t145 _ ?side1 ?side2 A2.out).mono ?_); (case side1 => exact kc HR0.out); (case side2 => exact HC0.out); rintro e w49 ⟨rfl, hb⟩; refine ⟨_, rfl, ?_⟩; replace HB := Am (below_step bq hb); (try clear hb); have p146 : 0 ≤ (0 : Int) := (by omega); have q146 : 0 < (l0.length : Int) := da; obtain ⟨ad146, e146, hx146_0, hx146_1, hx146_2, hx146_3, hx146_4, hx146_5⟩ := t6 HB.out HR0.out 0 p146 q146; cases e146; have qi146 : (0 < l0.length) = True := eq_true (by omega); (try simp only [show ((0 : Int)).toNat = 0 from rfl, show 0 * 6 = 0 from rfl, Addr.add_zero'] at hx146_0 hx146_1 hx146_2 hx146_3 hx146_4 hx146_5); replace p146 := eq_true p146; replace q146 := eq_true q146) | ((with_reducible refine gc 48 rfl ?_); refine goesL_ (some 17) rfl rfl Tryd.func48 (by kernel_rfl) rfl #[.slice (some ad146) l0.length c0, .agg #[.int .i64 ((rd_T34 l0 0).f0), .int .i64 ((rd_T34 l0 0).f1), .int .i64 ((rd_T34 l0 0).f2), .int .i64 ((rd_T34 l0 0).f3), .int .i64 ((rd_T34 l0 0).f4), .int .i64 ((rd_T34 l0 0).f5)]] rfl ar ?_; (with_reducible refine (table_crowned.calls _ _ l0 _ _ _ _ _ _ false _ ?side1 ?side2 A5.out).mono ?_); (case side1 => exact kc (Kd.C_below HR0.out HB.out)); (case side2 => exact HC0.out); rintro e w50 ⟨rfl, hb⟩; refine ⟨_, rfl, ?_⟩; replace HB := Am (below_step bq hb); (try clear hb)))
   go_ret2
   exact ⟨er, bq⟩
 ·rw [if_neg c3] at H
  obtain ⟨c3b0, c3b1⟩ := ne2 c3
  simp only [Option.some.injEq, Prod.mk.injEq] at H
  obtain ⟨rfl, rfl⟩ := H
  go_enter Tryd.func44, Tryd.ntmps44
  go_wp2_with (first | ((with_reducible refine gc 47 rfl ?_); refine goesL_ (some 9) rfl rfl Tryd.func47 (by kernel_rfl) rfl #[.slice A0 l0.length c0] rfl ar ?_; (with_reducible refine (table_Check.calls k _ _ l0 t145 _ ?side1 ?side2 A2.out).mono ?_); (case side1 => exact kc HR0.out); (case side2 => exact HC0.out); rintro e w51 ⟨rfl, hb⟩; refine ⟨_, rfl, ?_⟩; replace HB := Am (below_step bq hb); (try clear hb)))
  go_ret2
  exact ⟨er, bq⟩
end
end Go.Proofs.YtgleaefhflamnaaDoor.T
