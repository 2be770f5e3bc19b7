/- A part of the proof: see YtgleaefhflamnaaLawStepsLeaves. -/
import Derived.Laws.StructEq
import Derived.Test.YtgleaefhflamnaaProg
import Derived.Below
import Derived.Deep.Draws
import Derived.Deep.AppendLies
import Derived.Maps.AppendAt
import Derived.OwnWalk
import Derived.Laws.BytesArg
import Derived.Laws.MakeOwn
import Derived.Laws.OwnMore
import Derived.Deep.OwnRows
import Derived.Tactics
import Derived.Lib.ConvBytes
import Derived.Laws.Slices
import Derived.WalkKit
import Derived.KernelRfl
import Derived.RowKit3
import Derived.Deep.LoopGhost
import Derived.Deep.QuietTactic
import Derived.BigQuiet
import Derived.WideLaws
import Derived.Deep.DeepCutAuto
import Derived.Deep.CutBlock
import Derived.Deep.RegionHeld3
import Derived.Laws.Rows
import Derived.Lib.AppendStr
import Derived.ArgAppend
import Derived.Laws.IdiomCopy
import Derived.OrdersHeld
import Derived.Laws.BitsLemmas
import Derived.RowKit
import Derived.Deep.SlicePairs
import Derived.OpenShut
import Derived.WideShapes
import Derived.Test.YtgleaefhflamnaaZl0
set_option linter.unusedVariables false
set_option linter.unusedSimpArgs false
namespace Go.Proofs.YtgleaefhflamnaaW.PrintWords
open Go.RowKit
namespace Kd
section
variable {P : Program} {α : Type} {ops : Array Oper} {rest : List Oper} {o : Oper} {a : Act} {Q : Exit → Act → World → Prop}
theorem R_makecap (d : Kd α) {w0 W : World} (base e : Nat) (hgd : o.guard = none) {N : Tmp} (_hd : o.dst = some N) (t : TypeId) (x y : Operand) (ho : o.op = .makeSlice t x y) (n : Int) (hx : a.eval x = .int .i64 0) (hy : a.eval y = .int .i64 n)
  (ht : P.underlying t = some (.slice e)) (z : Value) (bytes : Nat) (hinfo : (P.info? e).map (fun i => (i.zero, i.size, i.bytes)) = some (some z, d.sz, bytes)) (hz : z.cells.size = d.sz) (hs0 : 0 < d.sz) (hb0 : 0 < bytes)
  (z0 : α) {ok okp : Nat → Prop} (_hzero : d.M W base okp z0 z.cells.toList) (_hok : ∀ k, okp k → ok k) (hfresh : ok W.heap.size) (h0 : 0 ≤ n) (hl : n.toNat * bytes ≤ 281474976710656) (HB : Below base w0 W) (hbase : base ≤ W.heap.size)
  (h : ∀ v1 w1, d.R e w1 base ok v1 [] → Below base w0 w1 → W.grownBy w1 none → (∃ b, v1.ownBlock = some b ∧ W.heap.size ≤ b) → wpList P ops Q rest (a.put o.dst v1) w1) : wpList P ops Q (o :: rest) a W := by
 obtain ⟨m, rfl⟩ := Int.eq_ofNat_of_zero_le h0
 simp only [Int.toNat_natCast] at hl
 obtain ⟨i0, hi, hzz⟩ := Option.map_eq_some_iff.1 hinfo
 simp only [Prod.mk.injEq] at hzz
 obtain ⟨hz0, hz1, hz2⟩ := hzz
 have hm : m ≤ 281474976710656 := Nat.le_trans (Nat.le_mul_of_pos_right _ hb0) hl
 have hr := run_make (P := P) W t e i0 z ht hi hz0 .i64 .i64 (0 : Int) (m : Int) (by omega) (by omega)
  (by
   have h3 : ((i0.bytes * m : Nat) : Int) ≤ 281474976710656 := by rw [hz2, Nat.mul_comm]; omega
   rwa [Int.natCast_mul] at h3) (by omega)
 simp only [Int.toNat_natCast] at hr
 have hrun : (execOp a.eval o).run P W = .ok (.value (.slice (some ⟨W.heap.size, 0, none⟩) 0 m)) (W.alloc (.cells (madeCells z.cells (m * i0.size)) e)) := by
  simp [execOp, ho, hx, hy, hr]
 refine event_run hgd hrun (h _ _ ⟨fun k hk => ?_, [], ?_, ?_⟩ (HB.alloc hbase _) (World.grownBy_alloc W _ none) ⟨W.heap.size, by simp [Value.ownBlock], Nat.le_refl _⟩)
 ·have : W.heap.size = k := by simpa [Value.ownBlock] using hk
  subst this
  exact hfresh
 ·refine ⟨by simp, .inr ⟨W.heap.size, m, madeCells z.cells (m * i0.size), rfl, hbase, heap_alloc_new W _, Nat.zero_le _, by simp only [maxLen]; omega, ?_, by simp⟩⟩
  rw [size_madeCells, hz1]
 ·exact ⟨by simp, fun j p hj => by simp at hj⟩
end
end Kd
end Go.Proofs.YtgleaefhflamnaaW.PrintWords
namespace Go.Proofs.YtgleaefhflamnaaW.PrintLast
open Go.Proofs.YtgleaefhflamnaaW.PrintWords (Aside0)
def needsOf (md : Region.Mode) (o : Oper) : List Nat := (o.after.toList.filter (fun e => Region.binds md e)).map (fun e => e.on)
def clashOf (md : Region.Mode) (ops : Array Oper) (i : Nat) (oi : Oper) : List Nat := (List.range ops.size).filter fun j => !(j == i) && match ops[j]? with
 | some oj => !(oj.after.any (fun e => Region.binds md e && e.on == i) || oi.apart ops oj)
 | none => false
/-- No select in it; for each operation: what must have come up before it, and what may not come up behind it if it is taken first. -/
def rtab (md : Region.Mode) (ops : Array Oper) : Bool × List (List Nat × List Nat) := (Region.noSelect ops, (List.range ops.size).map fun i => match ops[i]? with
 | some o => (needsOf md o, clashOf md ops i o)
 | none => ([], []))
def readyAt (T : List (List Nat × List Nat)) (l : List Bool) (i : Nat) : Bool := !l.getD i true && match T[i]? with
 | some r => r.1.all (fun j => l.getD j false)
 | none => false
def readyT (T : List (List Nat × List Nat)) (l : List Bool) : List Nat := (List.range T.length).filter (readyAt T l)
def freeT (T : List (List Nat × List Nat)) (l : List Bool) (i : Nat) : Bool := match T[i]? with
 | some r => r.2.all (fun j => l.getD j true)
 | none => false
def closedT (T : List (List Nat × List Nat)) (l : List Bool) : Bool := (List.range T.length).all fun j => !l.getD j false || match T[j]? with
 | some r => r.1.all (fun k => l.getD k false)
 | none => true
def reachT (T : List (List Nat × List Nat)) (i : Nat) : Nat → Nat → Bool
 | 0, _ => false
 | fuel + 1, d => match T[d]? with
  | some r => r.1.any fun j => j == i || reachT T i fuel j
  | none => false
def lastT (T : List (List Nat × List Nat)) (l : List Bool) (ds : List Nat) (i : Nat) : Bool := ds.all fun d => l.getD d true || reachT T i T.length d
section
variable {md : Region.Mode} {ops : Array Oper} {T : Bool × List (List Nat × List Nat)} {l l' li lj lk : Array Bool} {ds : List Nat} {i j k : Nat}
theorem gd (l : Array Bool) (j : Nat) (b : Bool) : l.getD j b = l.toList.getD j b := by simp [Array.getD_eq_getD_getElem?, List.getD_eq_getElem?_getD]
theorem needs_all (o : Oper) (p : Nat → Bool) : o.after.all (fun e => !Region.binds md e || p e.on) = (needsOf md o).all p := by
 unfold needsOf
 rw [← Array.all_toList]
 induction o.after.toList with
 | nil => rfl
 | cons e r ih =>
  rw [List.all_cons, ih, List.filter_cons]
  cases h : Region.binds md e <;> simp
theorem needs_any (o : Oper) (p : Nat → Bool) : o.after.any (fun e => Region.binds md e && p e.on) = (needsOf md o).any p := by
 unfold needsOf
 rw [← Array.any_toList]
 induction o.after.toList with
 | nil => rfl
 | cons e r ih =>
  rw [List.any_cons, ih, List.filter_cons]
  cases h : Region.binds md e <;> simp
theorem rtab_length : (rtab md ops).2.length = ops.size := by simp [rtab]
theorem rtab_some {o : Oper} (h : ops[i]? = some o) : (rtab md ops).2[i]? = some (needsOf md o, clashOf md ops i o) := by
 have hi := (Array.getElem?_eq_some_iff.1 h).1
 unfold rtab
 rw [List.getElem?_map, List.getElem?_range hi, Option.map_some, h]
theorem rtab_none (h : ops[i]? = none) : (rtab md ops).2[i]? = none := by
 have hi : ops.size ≤ i := Array.getElem?_eq_none_iff.1 h
 exact List.getElem?_eq_none (by rw [rtab_length]; exact hi)
theorem readyAt_eq : readyAt (rtab md ops).2 l.toList i = (!l.getD i true && ((ops[i]?).map (·.after.all fun e => !Region.binds md e || l.getD e.on false)).getD false) := by
 unfold readyAt
 rw [gd]
 cases h : ops[i]? with
 | none => rw [rtab_none h]; rfl
 | some o =>
  rw [rtab_some h]
  simp only [Option.map_some, Option.getD_some]
  rw [← needs_all]
  simp only [gd]
theorem ready_eq : Region.ready md ops l = readyT (rtab md ops).2 l.toList := by
 unfold Region.ready readyT
 rw [rtab_length]
 refine List.filter_congr (fun i _ => ?_)
 rw [readyAt_eq]
theorem free_eq : Region.free md ops l i = freeT (rtab md ops).2 l.toList i := by
 unfold Region.free freeT
 cases h : ops[i]? with
 | none => rw [rtab_none h]
 | some oi =>
  rw [rtab_some h]
  simp only [clashOf]
  rw [List.all_filter]
  congr 1
  funext j
  rw [gd]
  cases hj : ops[j]? with
  | none => cases (j == i) <;> cases (l.toList.getD j true) <;> simp
  | some oj =>
   cases (j == i) <;> cases (l.toList.getD j true) <;> cases (oj.after.any (fun e => Region.binds md e && e.on == i) || oi.apart ops oj) <;> simp_all
theorem closed_eq : Region.closedB md ops l = closedT (rtab md ops).2 l.toList := by
 unfold Region.closedB closedT
 rw [rtab_length]
 congr 1
 funext j
 rw [gd]
 cases h : ops[j]? with
 | none => rw [rtab_none h]
 | some o =>
  rw [rtab_some h]
  simp only
  rw [← needs_all]
  simp only [gd]
theorem reach_eq : ∀ (fuel d : Nat), Region.reachB md ops i fuel d = reachT (rtab md ops).2 i fuel d
 | 0, _ => rfl
 | fuel + 1, d => by
  unfold Region.reachB reachT
  cases h : ops[d]? with
  | none => rw [rtab_none h]
  | some o =>
   rw [rtab_some h]
   simp only
   rw [← needs_any]
   congr 1
   funext e
   rw [reach_eq fuel]
theorem last_eq : Region.lastB md ops l ds i = lastT (rtab md ops).2 l.toList ds i := by
 unfold Region.lastB lastT
 rw [rtab_length]
 congr 1
 funext d
 rw [gd, reach_eq]
theorem readyAt_mem (h : readyAt T.2 l.toList i = true) (hT : rtab md ops = T) : (Region.ready md ops l).contains i = true := by
 subst hT
 rw [ready_eq]
 unfold readyT
 rw [List.contains_iff_mem, List.mem_filter, List.mem_range]
 refine ⟨?_, h⟩
 unfold readyAt at h
 rw [Bool.and_eq_true] at h
 cases hq : (rtab md ops).2[i]? with
 | none => rw [hq] at h; simp at h
 | some r => exact (List.getElem?_eq_some_iff.1 hq).1
theorem set_of (h : (l.toList.set i true == l'.toList) = true) : (l.setIfInBounds i true == l') = true := by
 rw [beq_iff_eq] at h ⊢
 apply Array.ext'
 rw [Array.toList_setIfInBounds]
 exact h
def anyT (T : Bool × List (List Nat × List Nat)) (l l' : List Bool) (i : Nat) : Bool := T.1 && freeT T.2 l i && readyAt T.2 l i && (l.set i true == l')
/-- pure_'s condition out of the table. -/
theorem any_of (hT : rtab md ops = T) (h : anyT T l.toList l'.toList i = true) : anyB md ops l l' i = true := by
 simp only [anyT, Bool.and_eq_true] at h
 obtain ⟨⟨⟨h1, h2⟩, h3⟩, h4⟩ := h
 have h5 := readyAt_mem h3 hT
 have h6 := set_of h4
 subst hT
 simp only [anyB, Bool.and_eq_true]
 exact ⟨⟨⟨h1, by rw [free_eq]; exact h2⟩, h5⟩, h6⟩
def takeT (T : Bool × List (List Nat × List Nat)) (ds : List Nat) (l l' : List Bool) (i : Nat) : Bool := T.1 && freeT T.2 l i && readyAt T.2 l i && closedT T.2 l && lastT T.2 l ds i && (l.set i true == l')
/-- take_'s. -/
theorem take_of (hT : rtab md ops = T) (h : takeT T ds l.toList l'.toList i = true) : takeB md ops ds l l' i = true := by
 simp only [takeT, Bool.and_eq_true] at h
 obtain ⟨⟨⟨⟨⟨h1, h2⟩, h3⟩, h4⟩, h5⟩, h6⟩ := h
 have h7 := readyAt_mem h3 hT
 have h8 := set_of h6
 subst hT
 simp only [takeB, Bool.and_eq_true]
 exact ⟨⟨⟨⟨⟨h1, by rw [free_eq]; exact h2⟩, h7⟩, by rw [closed_eq]; exact h4⟩, by rw [last_eq]; exact h5⟩, h8⟩
/-- one_'s and last_'s. -/
theorem one_of (hT : rtab md ops = T) (h : (readyT T.2 l.toList == [i] && l.toList.set i true == l'.toList) = true) : readyB md ops l l' i = true := by
 simp only [Bool.and_eq_true] at h
 obtain ⟨h1, h2⟩ := h
 subst hT
 simp only [readyB, Bool.and_eq_true]
 exact ⟨by rw [ready_eq]; exact h1, set_of h2⟩
/-- done_'s. -/
theorem done_of (hT : rtab md ops = T) (h : (readyT T.2 l.toList == []) = true) : (Region.ready md ops l == []) = true := by
 subst hT
 rw [ready_eq]
 exact h
/-- What d waits for, as_ bits: told in the table (B), checked in one pass: each bit is a need of d, or a bit of an earlier need's. -/
def upM (B : List Nat) (d : Nat) : List Nat → Nat
 | [] => 0
 | n :: r => (2 ^ n ||| (if n < d then B.getD n 0 else 0)) ||| upM B d r
def waitsOk (T : List (List Nat × List Nat)) (B : List Nat) : Bool := (List.range T.length).all fun d => match T[d]? with
 | some r => (B.getD d 0 ||| upM B d r.1) == upM B d r.1
 | none => false
theorem upM_bit {B : List Nat} {d i : Nat} : ∀ {ns : List Nat}, (upM B d ns).testBit i = true → ∃ n ∈ ns, n = i ∨ (n < d ∧ (B.getD n 0).testBit i = true)
 | [], h => by simp [upM] at h
 | n :: r, h => by
  unfold upM at h
  rw [Nat.testBit_or, Nat.testBit_or, Bool.or_eq_true, Bool.or_eq_true] at h
  rcases h with (h | h) | h
  ·rw [Nat.testBit_two_pow] at h
   exact ⟨n, List.mem_cons_self, .inl (by simpa using h)⟩
  ·by_cases hn : n < d
   ·rw [if_pos hn] at h
    exact ⟨n, List.mem_cons_self, .inr ⟨hn, h⟩⟩
   ·rw [if_neg hn] at h
    simp at h
  ·obtain ⟨m, hm, h2⟩ := upM_bit h
   exact ⟨m, List.mem_cons_of_mem _ hm, h2⟩
theorem reach_bit {T : List (List Nat × List Nat)} {B : List Nat} (hB : waitsOk T B = true) : ∀ (fuel d : Nat), d < fuel → d < T.length → (B.getD d 0).testBit i = true → reachT T i fuel d = true
 | 0, d, h, _, _ => by omega
 | fuel + 1, d, h, hd, hb => by
  have h1 := List.all_eq_true.1 hB d (List.mem_range.2 hd)
  cases hr : T[d]? with
  | none => rw [hr] at h1; simp at h1
  | some r =>
   rw [hr] at h1
   simp only [beq_iff_eq] at h1
   have h2 : (upM B d r.1).testBit i = true := by rw [← h1, Nat.testBit_or, hb, Bool.true_or]
   obtain ⟨n, hn, h3⟩ := upM_bit h2
   unfold reachT
   rw [hr]
   simp only
   rw [List.any_eq_true]
   refine ⟨n, hn, ?_⟩
   rcases h3 with rfl | ⟨h4, h5⟩
   ·simp
   ·rw [reach_bit hB fuel n (by omega) (by omega) h5, Bool.or_true]
def lastW (T : List (List Nat × List Nat)) (B : List Nat) (l : List Bool) (ds : List Nat) (i : Nat) : Bool := ds.all fun d => l.getD d true || (decide (d < T.length) && (B.getD d 0).testBit i)
def takeW (T : Bool × List (List Nat × List Nat)) (B : List Nat) (ds : List Nat) (l l' : List Bool) (i : Nat) : Bool := T.1 && freeT T.2 l i && readyAt T.2 l i && closedT T.2 l && lastW T.2 B l ds i && (l.set i true == l')
/-- take_'s, by the bits. -/
theorem take_ofW {B : List Nat} (hT : rtab md ops = T) (hB : waitsOk T.2 B = true) (h : takeW T B ds l.toList l'.toList i = true) : takeB md ops ds l l' i = true := by
 refine take_of hT ?_
 simp only [takeW, takeT, Bool.and_eq_true] at h ⊢
 obtain ⟨⟨⟨⟨⟨h1, h2⟩, h3⟩, h4⟩, h5⟩, h6⟩ := h
 refine ⟨⟨⟨⟨⟨h1, h2⟩, h3⟩, h4⟩, ?_⟩, h6⟩
 unfold lastW at h5
 unfold lastT
 rw [List.all_eq_true] at h5 ⊢
 intro d hd
 have h7 := h5 d hd
 rw [Bool.or_eq_true, Bool.and_eq_true, decide_eq_true_eq] at h7
 rcases h7 with h7 | ⟨h8, h9⟩
 ·rw [h7, Bool.true_or]
 ·rw [reach_bit hB _ d h8 h8 h9, Bool.or_true]
theorem with_tabW {P : Program} {Q : Exit → Act → World → Prop} {S : World → Prop} {n : Nat} {a : Act} {w : World} {B : List Nat} (hT : rtab md ops = T) (hB : waitsOk T.2 B = true) (h : Aside0 (rtab md ops = T) → Aside0 (waitsOk T.2 B = true) → wpAnyLast P md ops Q S ds n l a w) : wpAnyLast P md ops Q S ds n l a w := h ⟨hT⟩ ⟨hB⟩
end
/-- The operations of a region, by its number. -/
def opsIn : Code → Nat → Option (Array Oper)
 | .region id ops _, k => if id == k then some ops else none
 | .seq a b, k => match opsIn a k with
  | some o => some o
  | none => opsIn b k
 | .cond _ a b, k => match opsIn a k with
  | some o => some o
  | none => opsIn b k
 | .block _ c, k => opsIn c k
 | .loop c, k => opsIn c k
 | .scope c, k => opsIn c k
 | .rangeFunc _ _ a b, k => match opsIn a k with
  | some o => some o
  | none => opsIn b k
 | _, _ => none
def opsOf (f : Func) (k : Nat) : Array Oper := ((f.body.bind fun c => opsIn c k)).getD #[]
end Go.Proofs.YtgleaefhflamnaaW.PrintLast
namespace Go.Proofs.YtgleaefhflamnaaW.PrintWords
open Go.RowKit
section
variable {P : Program} {d : Nat} {xs ys : Array Value} {f : Field} {fs : List Field} {a b : Value} {r s : Bool} {w : World}
/-- The last field that counts. -/
theorem eqf_last (hn : (f.name == "_") = false) (ha : (part f.type xs f.offset).run P w = .ok a w) (hb : (part f.type ys f.offset).run P w = .ok b w) (he : (Op.equalIn d f.type a b).run P w = .ok r w) : (Op.eqFields d xs ys [f]).run P w = .ok r w := by
 have hn' : f.name ≠ "_" := by simpa using hn
 simp only [Op.eqFields, if_pos hn', Sem.run_bind, ha, hb, he, Result.andThen_ok]
 cases r <;> simp
theorem eqf_cons (hn : (f.name == "_") = false) (ha : (part f.type xs f.offset).run P w = .ok a w) (hb : (part f.type ys f.offset).run P w = .ok b w) (he : (Op.equalIn d f.type a b).run P w = .ok r w) (hr : (Op.eqFields d xs ys fs).run P w = .ok s w) : (Op.eqFields d xs ys (f :: fs)).run P w = .ok (r && s) w := by
 have hn' : f.name ≠ "_" := by simpa using hn
 rw [Op.eqFields]
 simp only [if_pos hn', Sem.run_bind, ha, hb, he, Result.andThen_ok]
 cases r
 ·simp
 ·simpa using hr
theorem eqA_of {t : TypeId} {fs : Array Field} (hu : P.underlying t = some (.struct fs)) (hp : P.stoodInHeld t = false) (h : (Op.eqFields d xs ys fs.toList).run P w = .ok r w) : (Op.equalIn (d + 1) t (.agg xs) (.agg ys)).run P w = .ok r w := by
 have hf : P.fieldsOf t = fs := by simp [Program.fieldsOf, hu]
 rw [run_equalIn_struct (P := P) w d t xs ys (by rw [hf]; exact hu) hp, hf]
 exact h
end
end Go.Proofs.YtgleaefhflamnaaW.PrintWords
namespace Go.Proofs.YtgleaefhflamnaaW.PrintWords
/-- One cell an element. -/
theorem Reps.one {α : Type} {R : α → List Value → Prop} {ps : List α} {cs : List Value} {p : α} {v : Value} (hp : R p [v]) (h : Reps R 1 ps cs) : Reps R 1 (p :: ps) (v :: cs) := by
 refine ⟨by simp [h.1], fun j q hq => ?_⟩
 cases j with
 | zero =>
  simp only [List.getElem?_cons_zero, Option.some.injEq] at hq
  subst hq
  simpa using hp
 | succ j =>
  simp only [List.getElem?_cons_succ] at hq
  have h1 := h.2 j q hq
  simpa [Nat.mul_one] using h1
/-- More cells an element: told apart by the cells' list. -/
theorem Reps.front {α : Type} {R : α → List Value → Prop} {size : Nat} {ps : List α} {cs c all : List Value} {p : α} (hp : R p c) (hc : c.length = size) (h : Reps R size ps cs) (ha : c ++ cs = all) : Reps R size (p :: ps) all := by
 subst ha
 refine ⟨by rw [List.length_append, hc, h.1, List.length_cons, Nat.succ_mul, Nat.add_comm], fun j q hq => ?_⟩
 cases j with
 | zero =>
  simp only [List.getElem?_cons_zero, Option.some.injEq] at hq
  subst hq
  rw [Nat.zero_mul, List.drop_zero, List.take_append_of_le_length (by omega), List.take_of_length_le (by omega)]
  exact hp
 | succ j =>
  simp only [List.getElem?_cons_succ] at hq
  have h1 := h.2 j q hq
  rw [Nat.succ_mul, List.drop_append, List.drop_of_length_le (by rw [hc]; exact Nat.le_add_left _ _), List.nil_append, hc, Nat.add_sub_cancel]
  exact h1
theorem Reps.c2 {α : Type} {R : α → List Value → Prop} {ps : List α} {cs : List Value} {p : α} {va vb : Value} (hp : R p [va, vb]) (h : Reps R 2 ps cs) : Reps R 2 (p :: ps) (va :: vb :: cs) := Reps.front hp rfl h rfl
theorem Reps.c3 {α : Type} {R : α → List Value → Prop} {ps : List α} {cs : List Value} {p : α} {va vb vc : Value} (hp : R p [va, vb, vc]) (h : Reps R 3 ps cs) : Reps R 3 (p :: ps) (va :: vb :: vc :: cs) := Reps.front hp rfl h rfl
theorem Reps.c4 {α : Type} {R : α → List Value → Prop} {ps : List α} {cs : List Value} {p : α} {va vb vc vd : Value} (hp : R p [va, vb, vc, vd]) (h : Reps R 4 ps cs) : Reps R 4 (p :: ps) (va :: vb :: vc :: vd :: cs) := Reps.front hp rfl h rfl
theorem Reps.c5 {α : Type} {R : α → List Value → Prop} {ps : List α} {cs : List Value} {p : α} {va vb vc vd ve : Value} (hp : R p [va, vb, vc, vd, ve]) (h : Reps R 5 ps cs) : Reps R 5 (p :: ps) (va :: vb :: vc :: vd :: ve :: cs) := Reps.front hp rfl h rfl
theorem Reps.c6 {α : Type} {R : α → List Value → Prop} {ps : List α} {cs : List Value} {p : α} {va vb vc vd ve vf : Value} (hp : R p [va, vb, vc, vd, ve, vf]) (h : Reps R 6 ps cs) : Reps R 6 (p :: ps) (va :: vb :: vc :: vd :: ve :: vf :: cs) := Reps.front hp rfl h rfl
theorem Reps.c7 {α : Type} {R : α → List Value → Prop} {ps : List α} {cs : List Value} {p : α} {va vb vc vd ve vf vg : Value} (hp : R p [va, vb, vc, vd, ve, vf, vg]) (h : Reps R 7 ps cs) : Reps R 7 (p :: ps) (va :: vb :: vc :: vd :: ve :: vf :: vg :: cs) := Reps.front hp rfl h rfl
theorem Reps.c8 {α : Type} {R : α → List Value → Prop} {ps : List α} {cs : List Value} {p : α} {va vb vc vd ve vf vg vh : Value} (hp : R p [va, vb, vc, vd, ve, vf, vg, vh]) (h : Reps R 8 ps cs) : Reps R 8 (p :: ps) (va :: vb :: vc :: vd :: ve :: vf :: vg :: vh :: cs) := Reps.front hp rfl h rfl
theorem Reps.c9 {α : Type} {R : α → List Value → Prop} {ps : List α} {cs : List Value} {p : α} {va vb vc vd ve vf vg vh vi : Value} (hp : R p [va, vb, vc, vd, ve, vf, vg, vh, vi]) (h : Reps R 9 ps cs) : Reps R 9 (p :: ps) (va :: vb :: vc :: vd :: ve :: vf :: vg :: vh :: vi :: cs) := Reps.front hp rfl h rfl
theorem Reps.c10 {α : Type} {R : α → List Value → Prop} {ps : List α} {cs : List Value} {p : α} {va vb vc vd ve vf vg vh vi vj : Value} (hp : R p [va, vb, vc, vd, ve, vf, vg, vh, vi, vj]) (h : Reps R 10 ps cs) : Reps R 10 (p :: ps) (va :: vb :: vc :: vd :: ve :: vf :: vg :: vh :: vi :: vj :: cs) := Reps.front hp rfl h rfl
end Go.Proofs.YtgleaefhflamnaaW.PrintWords
namespace Go.Proofs.Ytgleaefhflamnaa.T
open Go.RowKit Go.Proofs.YtgleaefhflamnaaW.PrintWords Go.Proofs.YtgleaefhflamnaaW.PrintLast Go.Proofs.YtgleaefhflamnaaW.PrintMore
section
variable {P : Program} {md : Region.Mode} {ops : Array Oper} {Q : Exit → Act → World → Prop} {S : World → Prop} {ds : List Nat}
theorem pu (i : Nat) (d : Tmp) {oi : Oper} {v : Value} {fuel : Nat} {l : Array Bool} {a a' : Act} {w : World}
    (h : wpAnyLast P md ops Q S ds fuel (l.setIfInBounds i true) a' w)
    (hi : ops[i]? = some oi := by rfl) (hN : oi.dst = some d := by rfl) (hc : anyB md ops l (l.setIfInBounds i true) i = true := by kernel_rfl)
    (hw : Region.wanted oi (yielded ops a.tmps) = true := by rfl)
    (hy : ∀ w', (execOp a.eval oi).run P w' = .ok (.value v) w' := by intro w'; go_simp; with_reducible rfl)
    (hQ : ∀ c a w, Q (.panic c) (a.put oi.dst v) w → Q (.panic c) a w := by exact fun _ _ _ h => h)
    (ha : a.put (some d) v = a' := by simp only [Act.put, List.setIfInBounds_toArray, List.set_cons_zero, List.set_cons_succ, i64_w, i32_w]; rfl) :
    wpAnyLast P md ops Q S ds (fuel + 1) l a w := pure_ (l.setIfInBounds i true) hi hN hc hQ (Or.inl ⟨hw, hy⟩) ha h
theorem ta (i : Nat) (d : Tmp) {oi : Oper} {v : Value} {fuel : Nat} {l : Array Bool} {a a' : Act} {w : World} (hS : S w)
    (h : wpAnyLast P md ops Q S ds fuel (l.setIfInBounds i true) a' w)
    (hi : ops[i]? = some oi := by rfl) (hN : oi.dst = some d := by rfl) (hc : takeB md ops ds l (l.setIfInBounds i true) i = true := by kernel_rfl)
    (hw : Region.wanted oi (yielded ops a.tmps) = true := by rfl)
    (hy : ∀ w', S w' → (execOp a.eval oi).run P w' = .ok (.value v) w' := by intro w' hs; (try dsimp only at hs); go_simp; with_reducible rfl)
    (hQ : ∀ c a w, Q (.panic c) (a.put oi.dst v) w → Q (.panic c) a w := by exact fun _ _ _ h => h)
    (ha : a.put (some d) v = a' := by simp only [Act.put, List.setIfInBounds_toArray, List.set_cons_zero, List.set_cons_succ, i64_w, i32_w]; rfl) :
    wpAnyLast P md ops Q S ds (fuel + 1) l a w := take_ (l.setIfInBounds i true) hi hN hc hQ (Or.inl ⟨hw, hy⟩) hS ha h
theorem po (i : Nat) (d : Tmp) {oi : Oper} {fuel : Nat} {l : Array Bool} {a a' : Act} {w : World}
    (h : wpAnyLast P md ops Q S ds fuel (l.setIfInBounds i true) a' w)
    (hi : ops[i]? = some oi := by rfl) (hN : oi.dst = some d := by rfl) (hc : anyB md ops l (l.setIfInBounds i true) i = true := by kernel_rfl)
    (hw : Region.wanted oi (yielded ops a.tmps) = false := by rfl)
    (hQ : ∀ c a w, Q (.panic c) (a.put oi.dst undef) w → Q (.panic c) a w := by exact fun _ _ _ h => h)
    (ha : a.put (some d) undef = a' := by simp only [Act.put, List.setIfInBounds_toArray, List.set_cons_zero, List.set_cons_succ]; rfl) :
    wpAnyLast P md ops Q S ds (fuel + 1) l a w := pure_ (l.setIfInBounds i true) hi hN hc hQ (Or.inr ⟨hw, rfl⟩) ha h
end
theorem sZ {α : Type} (x y : α) (l : List α) : (x :: l).set 0 y = y :: l := rfl
theorem sS {α : Type} (x y : α) (l : List α) (n : Nat) : (x :: l).set (n + 1) y = x :: l.set n y := rfl
theorem sI {α : Type} (l : List α) (i : Nat) (x : α) : l.toArray.setIfInBounds i x = (l.set i x).toArray := List.setIfInBounds_toArray ..
theorem blt (w : World) (a : Addr) {v : Value} (h : w.cell? a = some v) : a.block < w.heap.size := World.block_lt_of_cell? w a h
theorem Am {p : Prop} (h : p) : Aside0 p := ⟨h⟩
theorem ba {w W : World} (h : Below w.heap.size w W) (o : Obj) : Below w.heap.size w (W.alloc o) := below_alloc h o
theorem bn {B : Nat} {w W : World} (h : Below B w W) (n : Nat) : Below B w (W.drewN n) := pw_below_drewN h n
theorem bd {base : Nat} {w W : World} (h : Below base w W) : Below base w W.drew := below_drew1 h
attribute [local go_sem] max2_int min2_int max_two min_two max_three min_three max_four min_four   -- for this text's walks alone
set_option linter.unusedVariables false
set_option linter.unusedSimpArgs false
def errW : Option Int → Value
 | none => .nilIface
 | some c => .iface 0 (.int .i64 c)
theorem errW_none : errW none = .nilIface := rfl
theorem errW_some (c : Int) : errW (some c) = .iface 0 (.int .i64 c) := rfl
theorem info3 : (Try.prog.info? 3).map (fun i => (i.zero, i.size, i.bytes)) = some (some (.int .i64 0), 1, 8) := by kernel_rfl
theorem info4 : (Try.prog.info? 4).map (fun i => (i.zero, i.size, i.bytes)) = some (some (.bool false), 1, 1) := by kernel_rfl
theorem info34 : (Try.prog.info? 34).map (fun i => (i.zero, i.size, i.bytes)) = some (some (.agg #[(.int .i64 0), (.int .i64 0), (.int .i64 0), (.int .i64 0), (.int .i64 0), (.int .i64 0)]), 6, 48) := by kernel_rfl
theorem info78 : (Try.prog.info? 78).map (fun i => (i.zero, i.size, i.bytes)) = some (some (.agg #[(.int .i64 0), (.int .i64 0)]), 2, 16) := by kernel_rfl
theorem info125 : (Try.prog.info? 125).map (fun i => (i.zero, i.size, i.bytes)) = some (some (.agg #[(.int .i64 0), (.int .i64 0), (.bool false), (.bool false)]), 4, 24) := by kernel_rfl
-- the values' own types
structure S34 where
 f0 : Int
 f1 : Int
 f2 : Int
 f3 : Int
 f4 : Int
 f5 : Int
def z34 : S34 := ⟨(0 : Int), (0 : Int), (0 : Int), (0 : Int), (0 : Int), (0 : Int)⟩
def k34 : Kd S34 := Kd.iso (Kd.pair (Kd.int .i64) (Kd.pair (Kd.int .i64) (Kd.pair (Kd.int .i64) (Kd.pair (Kd.int .i64) (Kd.pair (Kd.int .i64) (Kd.int .i64)))))) (fun x : S34 => (x.f0, x.f1, x.f2, x.f3, x.f4, x.f5))
theorem k34_open {w : World} {x : S34} {cs : List Value} (h : k34.K w x cs) : cs = [.int .i64 x.f0, .int .i64 x.f1, .int .i64 x.f2, .int .i64 x.f3, .int .i64 x.f4, .int .i64 x.f5] := by
 obtain ⟨_, _, rfl, rfl, ⟨_, _, rfl, rfl, ⟨_, _, rfl, rfl, ⟨_, _, rfl, rfl, ⟨_, _, rfl, rfl, rfl⟩⟩⟩⟩⟩ := h
 exact rfl
theorem k34_mk (w : World) (x : S34)  : k34.K w x [.int .i64 x.f0, .int .i64 x.f1, .int .i64 x.f2, .int .i64 x.f3, .int .i64 x.f4, .int .i64 x.f5] := ⟨[.int .i64 x.f0], [.int .i64 x.f1, .int .i64 x.f2, .int .i64 x.f3, .int .i64 x.f4, .int .i64 x.f5], rfl, rfl, ⟨[.int .i64 x.f1], [.int .i64 x.f2, .int .i64 x.f3, .int .i64 x.f4, .int .i64 x.f5], rfl, rfl, ⟨[.int .i64 x.f2], [.int .i64 x.f3, .int .i64 x.f4, .int .i64 x.f5], rfl, rfl, ⟨[.int .i64 x.f3], [.int .i64 x.f4, .int .i64 x.f5], rfl, rfl, ⟨[.int .i64 x.f4], [.int .i64 x.f5], rfl, rfl, rfl⟩⟩⟩⟩⟩
theorem k34_mkM (w : World) (base : Nat) (ok : Nat → Prop) (x : S34)  : k34.M w base ok x [.int .i64 x.f0, .int .i64 x.f1, .int .i64 x.f2, .int .i64 x.f3, .int .i64 x.f4, .int .i64 x.f5] := ⟨[.int .i64 x.f0], [.int .i64 x.f1, .int .i64 x.f2, .int .i64 x.f3, .int .i64 x.f4, .int .i64 x.f5], rfl, rfl, ⟨[.int .i64 x.f1], [.int .i64 x.f2, .int .i64 x.f3, .int .i64 x.f4, .int .i64 x.f5], rfl, rfl, ⟨[.int .i64 x.f2], [.int .i64 x.f3, .int .i64 x.f4, .int .i64 x.f5], rfl, rfl, ⟨[.int .i64 x.f3], [.int .i64 x.f4, .int .i64 x.f5], rfl, rfl, ⟨[.int .i64 x.f4], [.int .i64 x.f5], rfl, rfl, rfl⟩⟩⟩⟩⟩
def rd_T34 (xs : List S34) (i : Int) : S34 := xs.getD i.toNat z34
theorem at_T34 {w : World} {A : Option Addr} {n : Nat} {xs : List S34} (h : Kd.C k34 w A n xs) (i : Int) (h0 : 0 ≤ i) (h1 : i < n) : ∃ ad , A = some ad ∧ w.cell? (ad.add (i.toNat * 6)) = some (.int .i64 (rd_T34 xs i).f0) ∧ w.cell? ⟨(ad.add (i.toNat * 6)).block, (ad.add (i.toNat * 6)).off + 1, none⟩ = some (.int .i64 (rd_T34 xs i).f1) ∧ w.cell? ⟨(ad.add (i.toNat * 6)).block, (ad.add (i.toNat * 6)).off + 2, none⟩ = some (.int .i64 (rd_T34 xs i).f2) ∧ w.cell? ⟨(ad.add (i.toNat * 6)).block, (ad.add (i.toNat * 6)).off + 3, none⟩ = some (.int .i64 (rd_T34 xs i).f3) ∧ w.cell? ⟨(ad.add (i.toNat * 6)).block, (ad.add (i.toNat * 6)).off + 4, none⟩ = some (.int .i64 (rd_T34 xs i).f4) ∧ w.cell? ⟨(ad.add (i.toNat * 6)).block, (ad.add (i.toNat * 6)).off + 5, none⟩ = some (.int .i64 (rd_T34 xs i).f5) := by
 obtain ⟨ad, c, e, _, hK, hc0⟩ := Kd.C_get h z34 i h0 h1
 have hc : ∀ j u, c[j]? = some u → w.cell? (ad.add (i.toNat * 6 + j)) = some u := hc0
 obtain rfl := k34_open hK
 exact ⟨ad, e, hc 0 _ rfl, by rw [← add_field _ _ 1 (by omega)]; exact hc 1 _ rfl, by rw [← add_field _ _ 2 (by omega)]; exact hc 2 _ rfl, by rw [← add_field _ _ 3 (by omega)]; exact hc 3 _ rfl, by rw [← add_field _ _ 4 (by omega)]; exact hc 4 _ rfl, by rw [← add_field _ _ 5 (by omega)]; exact hc 5 _ rfl⟩
structure S78 where
 f0 : Int
 f1 : Int
def z78 : S78 := ⟨(0 : Int), (0 : Int)⟩
def k78 : Kd S78 := Kd.iso (Kd.pair (Kd.int .i64) (Kd.int .i64)) (fun x : S78 => (x.f0, x.f1))
theorem k78_open {w : World} {x : S78} {cs : List Value} (h : k78.K w x cs) : cs = [.int .i64 x.f0, .int .i64 x.f1] := by
 obtain ⟨_, _, rfl, rfl, rfl⟩ := h
 exact rfl
theorem k78_mkM (w : World) (base : Nat) (ok : Nat → Prop) (x : S78)  : k78.M w base ok x [.int .i64 x.f0, .int .i64 x.f1] := ⟨[.int .i64 x.f0], [.int .i64 x.f1], rfl, rfl, rfl⟩
def rd_T78 (xs : List S78) (i : Int) : S78 := xs.getD i.toNat z78
theorem at_T78 {w : World} {A : Option Addr} {n : Nat} {xs : List S78} (h : Kd.C k78 w A n xs) (i : Int) (h0 : 0 ≤ i) (h1 : i < n) : ∃ ad , A = some ad ∧ w.cell? (ad.add (i.toNat * 2)) = some (.int .i64 (rd_T78 xs i).f0) ∧ w.cell? ⟨(ad.add (i.toNat * 2)).block, (ad.add (i.toNat * 2)).off + 1, none⟩ = some (.int .i64 (rd_T78 xs i).f1) := by
 obtain ⟨ad, c, e, _, hK, hc0⟩ := Kd.C_get h z78 i h0 h1
 have hc : ∀ j u, c[j]? = some u → w.cell? (ad.add (i.toNat * 2 + j)) = some u := hc0
 obtain rfl := k78_open hK
 exact ⟨ad, e, hc 0 _ rfl, by rw [← add_field _ _ 1 (by omega)]; exact hc 1 _ rfl⟩
structure S125 where
 f0 : Int
 f1 : Int
 f2 : Bool
 f3 : Bool
def z125 : S125 := ⟨(0 : Int), (0 : Int), false, false⟩
def k125 : Kd S125 := Kd.iso (Kd.pair (Kd.int .i64) (Kd.pair (Kd.int .i64) (Kd.pair Kd.bool Kd.bool))) (fun x : S125 => (x.f0, x.f1, x.f2, x.f3))
theorem k125_openM {w : World} {base : Nat} {ok : Nat → Prop} {x : S125} {cs : List Value} (h : k125.M w base ok x cs) : cs = [.int .i64 x.f0, .int .i64 x.f1, .bool x.f2, .bool x.f3] := by
 obtain ⟨_, _, rfl, rfl, ⟨_, _, rfl, rfl, ⟨_, _, rfl, rfl, rfl⟩⟩⟩ := h
 exact rfl
theorem k125_mkM (w : World) (base : Nat) (ok : Nat → Prop) (x : S125)  : k125.M w base ok x [.int .i64 x.f0, .int .i64 x.f1, .bool x.f2, .bool x.f3] := ⟨[.int .i64 x.f0], [.int .i64 x.f1, .bool x.f2, .bool x.f3], rfl, rfl, ⟨[.int .i64 x.f1], [.bool x.f2, .bool x.f3], rfl, rfl, ⟨[.bool x.f2], [.bool x.f3], rfl, rfl, rfl⟩⟩⟩
end Go.Proofs.Ytgleaefhflamnaa.T
namespace Go.Proofs.Ytgleaefhflamnaa.T
open Go.ChangeShapes Go.WideShapes Go.RowKit Go.Deep
open Go.Proofs.YtgleaefhflamnaaW.PrintWords Go.Proofs.YtgleaefhflamnaaW.PrintLast Go.Proofs.YtgleaefhflamnaaW.PrintMore
theorem cells34 : Try.prog.cellsOf 34 = 6 := by kernel_rfl
theorem cells24 : Try.prog.cellsOf 24 = 2 := by kernel_rfl
section
variable {H : Type} {enc : TypeId × Value → H} {W : World} {base : Nat} {spare : Nat → Bool} {held : Bool}
set_option maxRecDepth 10000 in
/-- Six cells that read as a node. -/
theorem open_node {fuel : Nat} {cs : List Value} {x : DataW H × List MemPlace} (h : DataW.trod enc Try.prog W base spare held fuel 34 cs = some x) :
  ∃ n : S34, cs = [.int .i64 n.f0, .int .i64 n.f1, .int .i64 n.f2, .int .i64 n.f3, .int .i64 n.f4, .int .i64 n.f5] := by
 obtain ⟨xs, k, hk, hxy, hcl, hxl, hf⟩ := DataW.trod_struct Try.underlying34 h
 rw [cells34] at hcl
 replace hxl : xs.length = 6 := hxl
 match xs, hxl, cs, hcl with
 | [y0, y1, y2, y3, y4, y5], _, [v0, v1, v2, v3, v4, v5], _ =>
  have g0 : DataW.trod enc Try.prog W base spare held k 3 [v0] = some y0 := hf 0 _ rfl
  have g1 : DataW.trod enc Try.prog W base spare held k 3 [v1] = some y1 := hf 1 _ rfl
  have g2 : DataW.trod enc Try.prog W base spare held k 3 [v2] = some y2 := hf 2 _ rfl
  have g3 : DataW.trod enc Try.prog W base spare held k 3 [v3] = some y3 := hf 3 _ rfl
  have g4 : DataW.trod enc Try.prog W base spare held k 3 [v4] = some y4 := hf 4 _ rfl
  have g5 : DataW.trod enc Try.prog W base spare held k 3 [v5] = some y5 := hf 5 _ rfl
  obtain ⟨n0, e0, _⟩ := DataW.trod_int Try.underlying3 g0
  obtain ⟨n1, e1, _⟩ := DataW.trod_int Try.underlying3 g1
  obtain ⟨n2, e2, _⟩ := DataW.trod_int Try.underlying3 g2
  obtain ⟨n3, e3, _⟩ := DataW.trod_int Try.underlying3 g3
  obtain ⟨n4, e4, _⟩ := DataW.trod_int Try.underlying3 g4
  obtain ⟨n5, e5, _⟩ := DataW.trod_int Try.underlying3 g5
  simp only [List.cons.injEq, and_true] at e0 e1 e2 e3 e4 e5
  exact ⟨⟨n0, n1, n2, n3, n4, n5⟩, by rw [e0, e1, e2, e3, e4, e5]⟩
theorem open_tab {a : Option Addr} {len cap : Nat} {d : DataW H} {p : List MemPlace} (h : DataW.Trod enc Try.prog W base spare held 22 (.slice a len cap) d p) :
  ∃ zs : List S34, zs.length = len ∧ len ≤ cap ∧ Kd.C k34 W a zs.length zs := by
 obtain ⟨fuel, hf⟩ := h
 rcases open_slice Try.underlying22 hf with ⟨hcs, _⟩ | ⟨a', len', cap', m, n, D, Pl, hcs, hb, hl, hm, hmm, _, hx⟩
 ·simp [Value.cells] at hcs
  obtain ⟨rfl, rfl, rfl⟩ := hcs
  exact ⟨[], rfl, Nat.le_refl _, rfl, by simp, fun h => absurd h (by simp)⟩
 ·simp [Value.cells] at hcs
  obtain ⟨rfl, rfl, rfl⟩ := hcs
  have each : ∀ i, i < len → ∃ z : S34, ∀ (j : Nat) (u : Value), ([.int .i64 z.f0, .int .i64 z.f1, .int .i64 z.f2, .int .i64 z.f3, .int .i64 z.f4, .int .i64 z.f5] : List Value)[j]? = some u → W.cell? (a'.add (i * 6 + j)) = some u := by
   intro i hi
   obtain ⟨cs', h1, h2⟩ := hx i (by rw [hmm]; split <;> omega)
   obtain ⟨z, rfl⟩ := open_node h2
   rw [cells34] at h1
   obtain ⟨_, hlen, hcell⟩ := World.cells?_some h1
   refine ⟨z, fun j u hj => ?_⟩
   have hj6 : j < 6 := by have := (List.getElem?_eq_some_iff.1 hj).1; simpa using this
   have := hcell j hj6
   rw [Deep.add_add] at this
   rw [this, hj]
  haveI : Inhabited S34 := ⟨z34⟩
  obtain ⟨q, hq⟩ := choose_lt each
  have hml : len ≤ 9223372036854775807 := Nat.le_trans (Nat.le_trans hl hm) (by decide)
  refine ⟨(List.range len).map q, by simp, hl, by simp, by simpa using hml, fun _ => ⟨a', rfl, fun j pz hj => ?_⟩⟩
  rw [List.getElem?_map] at hj
  obtain ⟨i, hi, rfl⟩ := Option.map_eq_some_iff.1 hj
  have hjl : j < len := by have := (List.getElem?_eq_some_iff.1 hi).1; simpa using this
  rw [List.getElem?_range hjl] at hi
  obtain rfl := Option.some.inj hi
  exact ⟨_, rfl, k34_mk W _, fun i u hu => hq j hjl i u hu⟩
set_option maxRecDepth 10000 in
theorem open_move {v : Value} {d : DataW H} {p : List MemPlace} {r : Reach} {b0 : Nat} (hv : Value.okWide Try.prog W r b0 24 v) (h : DataW.Trod enc Try.prog W base spare held 24 v d p) :
  ∃ (kind : Int) (mir : Bool), v = .agg #[.int .i64 kind, .bool mir] := by
 obtain ⟨cs, rfl, hsz⟩ := okWide_struct Try.underlying24 hv
 obtain ⟨fuel, hf⟩ := h
 obtain ⟨xs, k, hk, hxy, hcl, hxl, hg⟩ := DataW.trod_struct Try.underlying24 hf
 rw [cells24] at hcl
 replace hxl : xs.length = 2 := hxl
 simp only [Value.cells] at hcl hg
 obtain ⟨l⟩ := cs
 simp only at hcl hg
 match xs, hxl, l, hcl with
 | [y0, y1], _, [v0, v1], _ =>
  have g0 : DataW.trod enc Try.prog W base spare held k 3 [v0] = some y0 := hg 0 _ rfl
  have g1 : DataW.trod enc Try.prog W base spare held k 4 [v1] = some y1 := hg 1 _ rfl
  obtain ⟨n0, e0, _⟩ := DataW.trod_int Try.underlying3 g0
  obtain ⟨n1, e1, _⟩ := DataW.trod_bool Try.underlying4 g1
  simp only [List.cons.injEq, and_true] at e0 e1
  exact ⟨n0, n1, by rw [e0, e1]⟩
end
end Go.Proofs.Ytgleaefhflamnaa.T
namespace Go.Proofs.Ytgleaefhflamnaa.T
open Go.RowKit Go.Proofs.YtgleaefhflamnaaW.PrintWords Go.Proofs.YtgleaefhflamnaaW.PrintLast Go.Proofs.YtgleaefhflamnaaW.PrintMore
attribute [local go_sem] max2_int min2_int max_two min_two max_three min_three max_four min_four   -- for this text's walks alone
set_option linter.unusedVariables false
set_option linter.unusedSimpArgs false
theorem eqA34 (d : Nat) (w : World) (x0 y0 : Int) (x1 y1 : Int) (x2 y2 : Int) (x3 y3 : Int) (x4 y4 : Int) (x5 y5 : Int) :
  (Op.equalIn (d + 2) 34 (.agg #[.int .i64 x0, .int .i64 x1, .int .i64 x2, .int .i64 x3, .int .i64 x4, .int .i64 x5]) (.agg #[.int .i64 y0, .int .i64 y1, .int .i64 y2, .int .i64 y3, .int .i64 y4, .int .i64 y5])).run Try.prog w = .ok (x0 == y0 && (x1 == y1 && (x2 == y2 && (x3 == y3 && (x4 == y4 && (x5 == y5)))))) w := by
 refine eqA_of Try.underlying34 (by kernel_rfl) ?_
 refine eqf_cons (by rfl) (by go_simp; rfl) (by go_simp; rfl) (by go_simp) ?_
 refine eqf_cons (by rfl) (by go_simp; rfl) (by go_simp; rfl) (by go_simp) ?_
 refine eqf_cons (by rfl) (by go_simp; rfl) (by go_simp; rfl) (by go_simp) ?_
 refine eqf_cons (by rfl) (by go_simp; rfl) (by go_simp; rfl) (by go_simp) ?_
 refine eqf_cons (by rfl) (by go_simp; rfl) (by go_simp; rfl) (by go_simp) ?_
 exact eqf_last (by rfl) (by go_simp; rfl) (by go_simp; rfl) (by go_simp)
end Go.Proofs.Ytgleaefhflamnaa.T
namespace Go.Proofs.Ytgleaefhflamnaa.T
open Go.RowKit Go.Proofs.YtgleaefhflamnaaW.PrintWords Go.Proofs.YtgleaefhflamnaaW.PrintLast Go.Proofs.YtgleaefhflamnaaW.PrintMore
attribute [local go_sem] max2_int min2_int max_two min_two max_three min_three max_four min_four   -- for this text's walks alone
set_option linter.unusedVariables false
set_option linter.unusedSimpArgs false
attribute [local go_sem high] eqA34
def larchref18_SameTable.l0 : Nat → List (S34) → List (S34) → Int → Option (Bool)
 | 0, _, _, _ => none
 | k + 1, x0, x1, x5 => if x5 < (x0.length : Int) then (if 0 ≤ x5 then (if x5 < (x1.length : Int) then (if (!(((rd_T34 x0 x5).f0) == ((rd_T34 x1 x5).f0)) || (!(((rd_T34 x0 x5).f1) == ((rd_T34 x1 x5).f1)) || (!(((rd_T34 x0 x5).f2) == ((rd_T34 x1 x5).f2)) || (!(((rd_T34 x0 x5).f3) == ((rd_T34 x1 x5).f3)) || (!(((rd_T34 x0 x5).f4) == ((rd_T34 x1 x5).f4)) || (!(((rd_T34 x0 x5).f5) == ((rd_T34 x1 x5).f5)))))))) = true then (some false) else (larchref18_SameTable.l0 k x0 x1 (wrap64 (x5 + 1)))) else (none)) else (none)) else (some true)
def larchref18_SameTable.f (k : Nat) (l0 : List (S34)) (l1 : List (S34)) : Option (Bool) := if (l0.length : Int) = (l1.length : Int) then (larchref18_SameTable.l0 k l0 l1 0) else (some false)
theorem larchref18_SameTable.mono_l : ∀ k, (∀ y0 y1 y2, LeO (larchref18_SameTable.l0 k y0 y1 y2) (larchref18_SameTable.l0 (k + 1) y0 y1 y2))
 | 0 => fun _ _ _ r h => by simp [larchref18_SameTable.l0] at h
 | k + 1 => by
  have ih0 := larchref18_SameTable.mono_l k
  ·intro y0 y1 y2
   unfold larchref18_SameTable.l0
   repeat' first
   | (with_reducible exact ih0 _ _ _)
   | (with_reducible exact LeO.refl _)
   | (with_reducible exact LeO.none _)
   | (with_reducible refine LeO.ite ?_ ?_)
   | (with_reducible refine LeO.bind ?_ (fun _ => ?_))
   | exact ih0 _ _ _
   | exact LeO.none _
   | refine LeO.ite ?_ ?_
   | refine LeO.bind ?_ (fun _ => ?_)
theorem larchref18_SameTable.mono : ∀ a0 a1 k, LeO (larchref18_SameTable.f k a0 a1) (larchref18_SameTable.f (k + 1) a0 a1) := by
 intro a0 a1 k
 have ih0 := larchref18_SameTable.mono_l k
 unfold larchref18_SameTable.f
 repeat' first
   | (with_reducible exact ih0 _ _ _)
   | (with_reducible exact LeO.refl _)
   | (with_reducible exact LeO.none _)
   | (with_reducible refine LeO.ite ?_ ?_)
   | (with_reducible refine LeO.bind ?_ (fun _ => ?_))
   | exact ih0 _ _ _
   | exact LeO.none _
   | refine LeO.ite ?_ ?_
   | refine LeO.bind ?_ (fun _ => ?_)
set_option maxHeartbeats 8000000 in
set_option maxRecDepth 100000 in
theorem larchref18_SameTable.calls (k : Nat) (A0 : Option Addr) (c0 : Nat) (l0 : List (S34)) (A1 : Option Addr) (c1 : Nat) (l1 : List (S34)) (r : Bool) (w : World) (hr0 : Kd.C k34 w A0 l0.length l0) (hc0 : l0.length ≤ c0) (hr1 : Kd.C k34 w A1 l1.length l1) (hc1 : l1.length ≤ c1) (h : larchref18_SameTable.f k l0 l1 = some r) :
  Calls Try.prog 23 #[.slice A0 l0.length c0, .slice A1 l1.length c1] w fun e w' => e = .returned (.bool r) ∧ Drawn0 w w' := by
 have hu34 := Try.underlying34
 have HR0 := Am hr0
 have HC0 := Am hc0
 clear hr0 hc0
 have HR1 := Am hr1
 have HC1 := Am hc1
 clear hr1 hc1
 have H : (if (l0.length : Int) = (l1.length : Int) then (larchref18_SameTable.l0 k l0 l1 0) else (some false)) = some r := h
 clear h
 by_cases c3 : (l0.length : Int) = (l1.length : Int)
 ·rw [if_pos c3] at H
  have c3b0 : ((l0.length : Int) == (l1.length : Int)) = true := beq_iff_eq.mpr c3
  have c3b1 : ((l0.length : Int) != (l1.length : Int)) = false := bne_eq_false_iff_eq.mpr c3
  have c3b2 : (l0.length == l1.length) = true := by first | simpa using c3 | (simp at c3 ⊢; omega)
  clear c3
  have H' := Am H
  clear H
  go_enter Try.func23, Try.ntmps23
  go_wp2
  repeat (go_quiet (fail); try go_wp2)
  go_loopg [5] k (fun kq v5 w' => ∃ (x5_1 : Int), v5 = .int .i64 x5_1 ∧ Aside0 (larchref18_SameTable.l0 kq l0 l1 x5_1 = some r) ∧ Aside0 (kq ≤ k) ∧ Drawn0 w w')
  case atStart => exact ⟨(0), (by first | rfl | (simp; done) | (simp [*]; done)), H', ⟨Nat.le_refl _⟩, by repeat (first | exact Drawn0.refl _ | apply Drawn0.step)⟩
  case round =>
   clear H'
   try clear c1
   try clear c2
   try clear p2
   try clear c3
   try clear c3b0
   try clear c3b1
   try clear c3b2
   obtain ⟨x5_1, rfl, HA, HK1, ⟨m1, rfl⟩⟩ := hrel
   cases gk with
   | zero => exact absurd HA.out (by simp [larchref18_SameTable.l0])
   | succ k1 =>
    have H := HA.out
    clear HA
    simp only [larchref18_SameTable.l0] at H
    by_cases c4 : x5_1 < (l0.length : Int)
    ·rw [if_pos c4] at H
     have c4b0 : decide (x5_1 < (l0.length : Int)) = true := decide_eq_true c4
     clear c4
     by_cases c5 : 0 ≤ x5_1
     ·rw [if_pos c5] at H
      have c5b0 : decide (0 ≤ x5_1) = true := decide_eq_true c5
      clear c5
      by_cases c6 : x5_1 < (l1.length : Int)
      ·rw [if_pos c6] at H
       have c6b0 : decide (x5_1 < (l1.length : Int)) = true := decide_eq_true c6
       clear c6
       by_cases c7 : (!(((rd_T34 l0 x5_1).f0) == ((rd_T34 l1 x5_1).f0)) || (!(((rd_T34 l0 x5_1).f1) == ((rd_T34 l1 x5_1).f1)) || (!(((rd_T34 l0 x5_1).f2) == ((rd_T34 l1 x5_1).f2)) || (!(((rd_T34 l0 x5_1).f3) == ((rd_T34 l1 x5_1).f3)) || (!(((rd_T34 l0 x5_1).f4) == ((rd_T34 l1 x5_1).f4)) || (!(((rd_T34 l0 x5_1).f5) == ((rd_T34 l1 x5_1).f5)))))))) = true
       ·rw [if_pos c7] at H
        have c7b0 : (!(((rd_T34 l0 x5_1).f0) == ((rd_T34 l1 x5_1).f0)) || (!(((rd_T34 l0 x5_1).f1) == ((rd_T34 l1 x5_1).f1)) || (!(((rd_T34 l0 x5_1).f2) == ((rd_T34 l1 x5_1).f2)) || (!(((rd_T34 l0 x5_1).f3) == ((rd_T34 l1 x5_1).f3)) || (!(((rd_T34 l0 x5_1).f4) == ((rd_T34 l1 x5_1).f4)) || (!(((rd_T34 l0 x5_1).f5) == ((rd_T34 l1 x5_1).f5)))))))) = true := c7
        clear c7
        obtain rfl := Option.some.inj H
        have p101 : 0 ≤ (x5_1 : Int) := of_decide_eq_true (by first | (with_reducible assumption) | assumption)
        have q101 : x5_1 < (l0.length : Int) := of_decide_eq_true (by first | (with_reducible assumption) | assumption)
        obtain ⟨ad101, e101, hx101_0, hx101_1, hx101_2, hx101_3, hx101_4, hx101_5⟩ := at_T34 HR0.out x5_1 p101 q101
        cases e101
        replace p101 := eq_true p101
        replace q101 := eq_true q101
        have p102 : 0 ≤ (x5_1 : Int) := of_decide_eq_true (by first | (with_reducible assumption) | assumption)
        have q102 : x5_1 < (l1.length : Int) := of_decide_eq_true (by first | (with_reducible assumption) | assumption)
        obtain ⟨ad102, e102, hx102_0, hx102_1, hx102_2, hx102_3, hx102_4, hx102_5⟩ := at_T34 HR1.out x5_1 p102 q102
        cases e102
        replace p102 := eq_true p102
        replace q102 := eq_true q102
        go_wp2
        repeat (go_quiet (fail); try go_wp2)
        go_ret
        exact ⟨by first | rfl | (simp; done) | (simp [*]; done), by repeat (first | exact Drawn0.refl _ | apply Drawn0.step)⟩
       ·rw [if_neg c7] at H
        have c7b0 : (!(((rd_T34 l0 x5_1).f0) == ((rd_T34 l1 x5_1).f0)) || (!(((rd_T34 l0 x5_1).f1) == ((rd_T34 l1 x5_1).f1)) || (!(((rd_T34 l0 x5_1).f2) == ((rd_T34 l1 x5_1).f2)) || (!(((rd_T34 l0 x5_1).f3) == ((rd_T34 l1 x5_1).f3)) || (!(((rd_T34 l0 x5_1).f4) == ((rd_T34 l1 x5_1).f4)) || (!(((rd_T34 l0 x5_1).f5) == ((rd_T34 l1 x5_1).f5)))))))) = false := by simpa using c7
        clear c7
        have H' := Am H
        clear H
        have p101 : 0 ≤ (x5_1 : Int) := of_decide_eq_true (by first | (with_reducible assumption) | assumption)
        have q101 : x5_1 < (l0.length : Int) := of_decide_eq_true (by first | (with_reducible assumption) | assumption)
        obtain ⟨ad101, e101, hx101_0, hx101_1, hx101_2, hx101_3, hx101_4, hx101_5⟩ := at_T34 HR0.out x5_1 p101 q101
        cases e101
        replace p101 := eq_true p101
        replace q101 := eq_true q101
        have p102 : 0 ≤ (x5_1 : Int) := of_decide_eq_true (by first | (with_reducible assumption) | assumption)
        have q102 : x5_1 < (l1.length : Int) := of_decide_eq_true (by first | (with_reducible assumption) | assumption)
        obtain ⟨ad102, e102, hx102_0, hx102_1, hx102_2, hx102_3, hx102_4, hx102_5⟩ := at_T34 HR1.out x5_1 p102 q102
        cases e102
        replace p102 := eq_true p102
        replace q102 := eq_true q102
        go_wp2
        repeat (go_quiet (fail); try go_wp2)
        go_roundg k1
        case measure => have := HK1.out; omega
        case rel => exact ⟨(wrap64 (x5_1 + 1)), (by first | rfl | (simp; done) | (simp [*]; done)), H', ⟨by have := HK1.out; omega⟩, by repeat (first | exact Drawn0.refl _ | apply Drawn0.step)⟩
      ·rw [if_neg c6] at H
       exact absurd H (by simp)
     ·rw [if_neg c5] at H
      exact absurd H (by simp)
    ·rw [if_neg c4] at H
     have c4b0 : decide (x5_1 < (l0.length : Int)) = false := decide_eq_false c4
     clear c4
     obtain rfl := Option.some.inj H
     go_wp2
     repeat (go_quiet (fail); try go_wp2)
     go_ret
     exact ⟨by first | rfl | (simp; done) | (simp [*]; done), by repeat (first | exact Drawn0.refl _ | apply Drawn0.step)⟩
 ·rw [if_neg c3] at H
  have c3b0 : ((l0.length : Int) == (l1.length : Int)) = false := beq_eq_false_iff_ne.mpr c3
  have c3b1 : ((l0.length : Int) != (l1.length : Int)) = true := bne_iff_ne.mpr c3
  have c3b2 : (l0.length == l1.length) = false := by first | simpa using c3 | (simp at c3 ⊢; omega)
  obtain rfl := Option.some.inj H
  go_enter Try.func23, Try.ntmps23
  go_wp2
  repeat (go_quiet (fail); try go_wp2)
  go_ret
  exact ⟨by first | rfl | (simp; done) | (simp [*]; done), by repeat (first | exact Drawn0.refl _ | apply Drawn0.step)⟩
def table_isLeaf.f (a0_0 : Int) (a0_1 : Int) (a0_2 : Int) (a0_3 : Int) (a0_4 : Int) (a0_5 : Int) : Option (Bool) := if a0_4 = (-1) then (some (a0_5 == (-1))) else (some false)
set_option maxHeartbeats 8000000 in
set_option maxRecDepth 100000 in
theorem table_isLeaf.calls (a0_0 : Int) (a0_1 : Int) (a0_2 : Int) (a0_3 : Int) (a0_4 : Int) (a0_5 : Int) (r : Bool) (w : World) (h : table_isLeaf.f a0_0 a0_1 a0_2 a0_3 a0_4 a0_5 = some r) :
  Calls Try.prog 72 #[.agg #[.int .i64 a0_0, .int .i64 a0_1, .int .i64 a0_2, .int .i64 a0_3, .int .i64 a0_4, .int .i64 a0_5]] w fun e w' => e = .returned (.bool r) ∧ Below w.heap.size w w' := by
 have hu34 := Try.underlying34
 have HB := Am (Below.refl w.heap.size w)
 have H : (if a0_4 = (-1) then (some (a0_5 == (-1))) else (some false)) = some r := h
 clear h
 by_cases c2 : a0_4 = (-1)
 ·rw [if_pos c2] at H
  have c2b0 : (a0_4 == (-1)) = true := beq_iff_eq.mpr c2
  have c2b1 : (a0_4 != (-1)) = false := bne_eq_false_iff_eq.mpr c2
  clear c2
  obtain rfl := Option.some.inj H
  go_enter Try.func72, Try.ntmps72
  go_wp2_with (first | ((with_reducible refine gate_dst (N := 1) rfl ?_); refine box_event ?hg (N := 1) ?hd (cs := #[.int .i64 a0_0, .int .i64 a0_1, .int .i64 a0_2, .int .i64 a0_3, .int .i64 a0_4, .int .i64 a0_5]) (t := 34) ?hr ?_; (case hd => rfl); (case hg => rfl); (case hr => first | (go_simp; done) | (go_simp; rfl)); intro gb103 hg w3 hbox hb; have n0_ := Am (below_step (by repeat (first | (with_reducible first | exact HB.out | apply ba | apply bn | apply bd) | exact HB.out)) hb); have n1_ := Am (hbox); have n2_ := Am ((by rw [hg]; exact (below_size (by repeat (first | (with_reducible first | exact HB.out | apply ba | apply bn | apply bd) | exact HB.out))) : w.heap.size ≤ gb103)); have n3_ := Am ((by rw [hg]; exact (below_size (by repeat (first | (with_reducible first | exact HB.out | apply ba | apply bn | apply bd) | exact HB.out))) : w.heap.size ≤ gb103)); clear HB; have HB := n0_; have BK103 := n1_; have GW103 := n2_; have GE103 := n3_; clear n0_ n1_ n2_ n3_; clear hb hbox hg; have hcz4_0 : w3.cell? ⟨gb103, 0, none⟩ = some (.int .i64 a0_0) := (blk_cell BK103.out 0).trans rfl; have hcz4_1 : w3.cell? ⟨gb103, 1, none⟩ = some (.int .i64 a0_1) := (blk_cell BK103.out 1).trans rfl; have hcz4_2 : w3.cell? ⟨gb103, 2, none⟩ = some (.int .i64 a0_2) := (blk_cell BK103.out 2).trans rfl; have hcz4_3 : w3.cell? ⟨gb103, 3, none⟩ = some (.int .i64 a0_3) := (blk_cell BK103.out 3).trans rfl; have hcz4_4 : w3.cell? ⟨gb103, 4, none⟩ = some (.int .i64 a0_4) := (blk_cell BK103.out 4).trans rfl; have hcz4_5 : w3.cell? ⟨gb103, 5, none⟩ = some (.int .i64 a0_5) := (blk_cell BK103.out 5).trans rfl; have hfz4_0 := blk_frozen BK103.out 0; have hfz4_1 := blk_frozen BK103.out 1; have hfz4_2 := blk_frozen BK103.out 2; have hfz4_3 := blk_frozen BK103.out 3; have hfz4_4 := blk_frozen BK103.out 4; have hfz4_5 := blk_frozen BK103.out 5))
  go_ret
  exact ⟨by first | rfl | (simp [errW_none, errW_some] <;> rfl) | (simp [*, errW_none, errW_some] <;> rfl), by repeat (first | (with_reducible first | exact HB.out | apply ba | apply bn | apply bd | refine below_set ?_ GE103.out) | exact HB.out)⟩
 ·rw [if_neg c2] at H
  have c2b0 : (a0_4 == (-1)) = false := beq_eq_false_iff_ne.mpr c2
  have c2b1 : (a0_4 != (-1)) = true := bne_iff_ne.mpr c2
  obtain rfl := Option.some.inj H
  go_enter Try.func72, Try.ntmps72
  go_wp2_with (first | ((with_reducible refine gate_dst (N := 1) rfl ?_); refine box_event ?hg (N := 1) ?hd (cs := #[.int .i64 a0_0, .int .i64 a0_1, .int .i64 a0_2, .int .i64 a0_3, .int .i64 a0_4, .int .i64 a0_5]) (t := 34) ?hr ?_; (case hd => rfl); (case hg => rfl); (case hr => first | (go_simp; done) | (go_simp; rfl)); intro gb103 hg w5 hbox hb; have n0_ := Am (below_step (by repeat (first | (with_reducible first | exact HB.out | apply ba | apply bn | apply bd) | exact HB.out)) hb); have n1_ := Am (hbox); have n2_ := Am ((by rw [hg]; exact (below_size (by repeat (first | (with_reducible first | exact HB.out | apply ba | apply bn | apply bd) | exact HB.out))) : w.heap.size ≤ gb103)); have n3_ := Am ((by rw [hg]; exact (below_size (by repeat (first | (with_reducible first | exact HB.out | apply ba | apply bn | apply bd) | exact HB.out))) : w.heap.size ≤ gb103)); clear HB; have HB := n0_; have BK103 := n1_; have GW103 := n2_; have GE103 := n3_; clear n0_ n1_ n2_ n3_; clear hb hbox hg; have hcz6_0 : w5.cell? ⟨gb103, 0, none⟩ = some (.int .i64 a0_0) := (blk_cell BK103.out 0).trans rfl; have hcz6_1 : w5.cell? ⟨gb103, 1, none⟩ = some (.int .i64 a0_1) := (blk_cell BK103.out 1).trans rfl; have hcz6_2 : w5.cell? ⟨gb103, 2, none⟩ = some (.int .i64 a0_2) := (blk_cell BK103.out 2).trans rfl; have hcz6_3 : w5.cell? ⟨gb103, 3, none⟩ = some (.int .i64 a0_3) := (blk_cell BK103.out 3).trans rfl; have hcz6_4 : w5.cell? ⟨gb103, 4, none⟩ = some (.int .i64 a0_4) := (blk_cell BK103.out 4).trans rfl; have hcz6_5 : w5.cell? ⟨gb103, 5, none⟩ = some (.int .i64 a0_5) := (blk_cell BK103.out 5).trans rfl; have hfz6_0 := blk_frozen BK103.out 0; have hfz6_1 := blk_frozen BK103.out 1; have hfz6_2 := blk_frozen BK103.out 2; have hfz6_3 := blk_frozen BK103.out 3; have hfz6_4 := blk_frozen BK103.out 4; have hfz6_5 := blk_frozen BK103.out 5))
  go_ret
  exact ⟨by first | rfl | (simp [errW_none, errW_some] <;> rfl) | (simp [*, errW_none, errW_some] <;> rfl), by repeat (first | (with_reducible first | exact HB.out | apply ba | apply bn | apply bd | refine below_set ?_ GE103.out) | exact HB.out)⟩
def table_order.l0 : Nat → List (S34) → List Bool → List Int → List Int → Option (List Int)
 | 0, _, _, _, _ => none
 | k + 1, x0, x5, x6, x7 => if (x7.length : Int) > 0 then (if 0 ≤ (wrap64 ((x7.length : Int) - 1)) then (if (wrap64 ((x7.length : Int) - 1)) < (x7.length : Int) then (if (wrap64 ((x7.length : Int) - 1)) ≤ (x7.length : Int) then ((some (x7.take ((wrap64 ((x7.length : Int) - 1)) : Int).toNat : List Int)).bind fun y111 => (if 0 ≤ (rd x7 (wrap64 ((x7.length : Int) - 1))) then (if (rd x7 (wrap64 ((x7.length : Int) - 1))) < (x5.length : Int) then (if rdOf false x5 (rd x7 (wrap64 ((x7.length : Int) - 1))) = true then (some ([] : List Int)) else ((some (x5.set ((rd x7 (wrap64 ((x7.length : Int) - 1))) : Int).toNat true : List Bool)).bind fun y115 => (if x6.length < 17592186044416 then ((some (x6 ++ [rd x7 (wrap64 ((x7.length : Int) - 1))] : List Int)).bind fun y116 => (if (rd x7 (wrap64 ((x7.length : Int) - 1))) < (x0.length : Int) then ((table_isLeaf.f ((rd_T34 x0 (rd x7 (wrap64 ((x7.length : Int) - 1)))).f0) ((rd_T34 x0 (rd x7 (wrap64 ((x7.length : Int) - 1)))).f1) ((rd_T34 x0 (rd x7 (wrap64 ((x7.length : Int) - 1)))).f2) ((rd_T34 x0 (rd x7 (wrap64 ((x7.length : Int) - 1)))).f3) ((rd_T34 x0 (rd x7 (wrap64 ((x7.length : Int) - 1)))).f4) ((rd_T34 x0 (rd x7 (wrap64 ((x7.length : Int) - 1)))).f5)).bind fun t120 => (if t120 = true then (table_order.l0 k x0 y115 y116 y111) else ((some (([(rd_T34 x0 (rd x7 (wrap64 ((x7.length : Int) - 1)))).f5, (rd_T34 x0 (rd x7 (wrap64 ((x7.length : Int) - 1)))).f4] : List Int) : List Int)).bind fun y123 => (if y111.length + y123.length < 17592186044416 then (table_order.l0 k x0 y115 y116 (y111 ++ y123)) else (none))))) else (none))) else (none)))) else (none)) else (none))) else (none)) else (none)) else (none)) else (some x6)
def table_order.f (k : Nat) (l0 : List (S34)) (a1 : Int) : Option (List Int) := if 0 ≤ (l0.length : Int) then (if ((l0.length : Int) : Int).toNat ≤ 281474976710656 then (table_order.l0 k l0 (List.replicate ((l0.length : Int) : Int).toNat false) ([] : List Int) (([a1] : List Int))) else (none)) else (none)
theorem table_order.mono_l : ∀ k, (∀ y0 y1 y2 y3, LeO (table_order.l0 k y0 y1 y2 y3) (table_order.l0 (k + 1) y0 y1 y2 y3))
 | 0 => fun _ _ _ _ r h => by simp [table_order.l0] at h
 | k + 1 => by
  have ih0 := table_order.mono_l k
  ·intro y0 y1 y2 y3
   unfold table_order.l0
   repeat' first
   | (with_reducible exact ih0 _ _ _ _)
   | (with_reducible exact LeO.refl _)
   | (with_reducible exact LeO.none _)
   | (with_reducible refine LeO.ite ?_ ?_)
   | (with_reducible refine LeO.bind ?_ (fun _ => ?_))
   | exact ih0 _ _ _ _
   | exact LeO.none _
   | refine LeO.ite ?_ ?_
   | refine LeO.bind ?_ (fun _ => ?_)
theorem table_order.mono : ∀ a0 a1 k, LeO (table_order.f k a0 a1) (table_order.f (k + 1) a0 a1) := by
 intro a0 a1 k
 have ih0 := table_order.mono_l k
 unfold table_order.f
 repeat' first
   | (with_reducible exact ih0 _ _ _ _)
   | (with_reducible exact LeO.refl _)
   | (with_reducible exact LeO.none _)
   | (with_reducible refine LeO.ite ?_ ?_)
   | (with_reducible refine LeO.bind ?_ (fun _ => ?_))
   | exact ih0 _ _ _ _
   | exact LeO.none _
   | refine LeO.ite ?_ ?_
   | refine LeO.bind ?_ (fun _ => ?_)
def table_order.T12 : Bool × List (List Nat × List Nat) := (true, [([], []), ([], []), ([], []), ([1, 2], [1, 2]), ([3], [3]), ([4], [4]), ([], []), ([], []), ([6, 7], [6, 7]), ([8], [8]), ([9], [9]), ([5, 10], [5, 10]), ([0, 11], [0, 11]), ([12, 12, 0, 1, 2, 3, 4, 5, 6, 7, 8, 9, 10, 11, 12], [0, 12])])
def table_order.B12 : List Nat := [0, 0, 0, 6, 14, 30, 0, 0, 192, 448, 960, 2046, 4095, 8191]
theorem table_order.tab12 : rtab .any (opsOf Try.f44 12) = table_order.T12 := by kernel_rfl
theorem table_order.bits12 : waitsOk table_order.T12.2 table_order.B12 = true := by kernel_rfl
set_option maxHeartbeats 8000000 in
set_option maxRecDepth 100000 in
theorem table_order.calls (k : Nat) (A0 : Option Addr) (c0 : Nat) (l0 : List (S34)) (a1 : Int) (r : List Int) (w : World) (hr0 : Kd.C k34 w A0 l0.length l0) (hc0 : l0.length ≤ c0) (h : table_order.f k l0 a1 = some r) :
  Calls Try.prog 44 #[.slice A0 l0.length c0, .int .i64 a1] w fun e w' => ∃ v0_ : Value, e = .returned (v0_) ∧ Kd.R (Kd.int .i64) 3 w' w.heap.size (fun _ => True) v0_ r ∧ Below w.heap.size w w' := by
 have hu34 := Try.underlying34
 have HR0 := Am hr0
 have HC0 := Am hc0
 clear hr0 hc0
 have HB := Am (Below.refl w.heap.size w)
 have H : (if 0 ≤ (l0.length : Int) then (if ((l0.length : Int) : Int).toNat ≤ 281474976710656 then (table_order.l0 k l0 (List.replicate ((l0.length : Int) : Int).toNat false) ([] : List Int) (([a1] : List Int))) else (none)) else (none)) = some r := h
 clear h
 by_cases c3 : 0 ≤ (l0.length : Int)
 ·rw [if_pos c3] at H
  have c3b0 := eq_true c3
  have c3b1 : decide (0 ≤ (l0.length : Int)) = true := decide_eq_true c3
  clear c3
  by_cases c4 : ((l0.length : Int) : Int).toNat ≤ 281474976710656
  ·rw [if_pos c4] at H
   have c4b0 := eq_true c4
   have c4b1 : decide (((l0.length : Int) : Int).toNat ≤ 281474976710656) = true := decide_eq_true c4
   clear c4
   obtain ⟨y104, hy104⟩ : ∃ y_ : List Bool, y_ = (List.replicate ((l0.length : Int) : Int).toNat false) := ⟨_, rfl⟩
   replace H : (table_order.l0 k l0 y104 ([] : List Int) (([a1] : List Int))) = some r := by first | (rw [hy104]; with_reducible exact H) | (have H2_ := (Option.bind_some _ _).symm.trans H; rw [hy104]; with_reducible exact H2_) | (have H2_ := (Option.bind_some _ _).symm.trans H; with_reducible exact H2_) | with_reducible exact H | (rw [hy104]; exact H) | exact H
   have Ny104 := Am hy104
   clear hy104
   obtain ⟨y107, hy107⟩ : ∃ y_ : List Int, y_ = (([a1] : List Int)) := ⟨_, rfl⟩
   replace H : (table_order.l0 k l0 y104 ([] : List Int) y107) = some r := by first | (rw [hy107]; with_reducible exact H) | (have H2_ := (Option.bind_some _ _).symm.trans H; rw [hy107]; with_reducible exact H2_) | (have H2_ := (Option.bind_some _ _).symm.trans H; with_reducible exact H2_) | with_reducible exact H | (rw [hy107]; exact H) | exact H
   have Ny107 := Am hy107
   clear hy107
   have H' := Am H
   clear H
   go_enter Try.func44, Try.ntmps44
   go_wp2_with (first | ((with_reducible refine gate_dst (N := 11) rfl ?_); refine Kd.R_make Kd.bool _ 4 rfl (N := 11) rfl 87 _ _ rfl (l0.length : Int) rfl rfl Try.underlying87 (.bool false) 1 info4 rfl (by decide) (by omega) false (ok := fun _ => True) (okp := fun _ => True) rfl (fun _ hk => hk) trivial (of_decide_eq_true (by first | (with_reducible assumption) | assumption)) (Nat.le_trans (Nat.mul_le_mul_right _ (of_decide_eq_true (by first | (with_reducible assumption) | assumption) : (l0.length : Int).toNat ≤ 281474976710656)) (by omega)) (Below.refl _ _) (Nat.le_refl _) ?_; intro v105 w5 ho6 hb hg_ hnew_; clear hg_ hnew_; (first | rw [← Ny104.out] at ho6 | (simp only [Int.reduceToNat] at ho6; rw [← Ny104.out] at ho6)); have n0_ := Am (Kd.R_lower ho6 (below_size (by repeat (first | (with_reducible first | exact HB.out | apply ba | apply bn | apply bd) | exact HB.out)))); have n1_ := Am (below_step (by repeat (first | (with_reducible first | exact HB.out | apply ba | apply bn | apply bd) | exact HB.out)) hb); clear HB; have HO106 := n0_; have HB := n1_; clear n0_ n1_; clear hb ho6) | ((with_reducible refine gate_dst (N := 13) rfl ?_); refine Kd.R_lit (Kd.int .i64) _ 3 ?hg (N := 13) ?hd (xs := ([a1] : List Int)) (inner := [.int .i64 a1]) (ok := fun _ => True) (okp := fun _ => True) ?hr ?hp (fun _ hk => hk) trivial (Below.refl _ _) (Nat.le_refl _) (by simp) ?_; (case hd => rfl); (case hg => rfl); (case hr => first | (go_simp; done) | (go_simp; rfl)); (case hp => exact (Reps.one (show Kd.M (Kd.int .i64) _ _ _ a1 [.int .i64 a1] from rfl) (Reps.none _ _))); intro v108 w7 ho8 hb hg_ hnew_; clear hg_ hnew_; (first | rw [← Ny107.out] at ho8 | (simp only [Int.reduceToNat] at ho8; rw [← Ny107.out] at ho8)); have n0_ := Am (Kd.R_below (by (with_reducible repeat (first | apply Kd.R_alloc | apply Kd.R_drewN | apply Kd.R_drew)); exact HO106.out) hb); have n1_ := Am (Kd.R_lower ho8 (below_size (by repeat (first | (with_reducible first | exact HB.out | apply ba | apply bn | apply bd) | exact HB.out)))); have n2_ := Am (below_step (by repeat (first | (with_reducible first | exact HB.out | apply ba | apply bn | apply bd) | exact HB.out)) hb); clear HO106; clear HB; have HO106 := n0_; have HO109 := n1_; have HB := n2_; clear n0_ n1_ n2_; clear hb ho8))
   go_loopg [6, 7] k (fun kq v6 v7 w' => ∃ (x5_1 : List Bool) (x6_1 : List Int) (x7_1 : List Int), Aside0 (table_order.l0 kq l0 x5_1 x6_1 x7_1 = some r) ∧ Aside0 (kq ≤ k) ∧ Aside0 (Kd.R Kd.bool 4 w' w.heap.size (fun _ => True) v105 x5_1) ∧ Aside0 (Kd.R (Kd.int .i64) 3 w' w.heap.size (fun k_ => some k_ ≠ (v7 : Value).ownBlock) v6 x6_1) ∧ Aside0 (Kd.R (Kd.int .i64) 3 w' w.heap.size (fun k_ => some k_ ≠ (v6 : Value).ownBlock) v7 x7_1) ∧ Aside0 (Below w.heap.size w w'))
   case atStart => exact ⟨(y104), (([] : List Int)), (y107), H', ⟨Nat.le_refl _⟩, ⟨by (with_reducible repeat (first | apply Kd.R_alloc | apply Kd.R_drewN | apply Kd.R_drew)); exact HO106.out⟩, ⟨by first | exact Kd.R_nil _ _ _ _ _ | exact Kd.N_nil _ _ _ _ _ | exact Kd.V_nil _ _ _ _ _ | exact Kd.Q_nil _ _ _ _ _ | exact Kd.S_nil _ _ _ _ _⟩, ⟨by (with_reducible repeat (first | apply Kd.R_alloc | apply Kd.R_drewN | apply Kd.R_drew)); exact Kd.R_mono HO109.out (fun _ hk => (by simp [Value.ownBlock]))⟩, ⟨by repeat (first | (with_reducible first | exact HB.out | apply ba | apply bn | apply bd) | exact HB.out)⟩⟩
   case round =>
    clear H'
    try clear p2
    try clear c3
    try clear c3b0
    try clear c3b1
    try clear c4
    try clear c4b0
    try clear c4b1
    obtain ⟨x5_1, x6_1, x7_1, HA, HK1, HO_5, HO_6, HO_7, HB⟩ := hrel
    cases gk with
    | zero => exact absurd HA.out (by simp [table_order.l0])
    | succ k1 =>
     have H := HA.out
     clear HA
     simp only [table_order.l0] at H
     by_cases c9 : (x7_1.length : Int) > 0
     ·rw [if_pos c9] at H
      have c9b0 : decide (0 < (x7_1.length : Int)) = true := decide_eq_true c9
      have c9b1 : decide (0 < x7_1.length) = true := decide_eq_true (by omega)
      clear c9
      obtain ⟨ji10, hji10⟩ : ∃ j_ : Int, (wrap64 ((x7_1.length : Int) - 1)) = j_ := ⟨_, rfl⟩
      replace H : (if 0 ≤ (ji10) then (if (ji10) < (x7_1.length : Int) then (if (ji10) ≤ (x7_1.length : Int) then ((some (x7_1.take ((ji10) : Int).toNat : List Int)).bind fun y111 => (if 0 ≤ (rd x7_1 (ji10)) then (if (rd x7_1 (ji10)) < (x5_1.length : Int) then (if rdOf false x5_1 (rd x7_1 (ji10)) = true then (some ([] : List Int)) else ((some (x5_1.set ((rd x7_1 (ji10)) : Int).toNat true : List Bool)).bind fun y115 => (if x6_1.length < 17592186044416 then ((some (x6_1 ++ [rd x7_1 (ji10)] : List Int)).bind fun y116 => (if (rd x7_1 (ji10)) < (l0.length : Int) then ((table_isLeaf.f ((rd_T34 l0 (rd x7_1 (ji10))).f0) ((rd_T34 l0 (rd x7_1 (ji10))).f1) ((rd_T34 l0 (rd x7_1 (ji10))).f2) ((rd_T34 l0 (rd x7_1 (ji10))).f3) ((rd_T34 l0 (rd x7_1 (ji10))).f4) ((rd_T34 l0 (rd x7_1 (ji10))).f5)).bind fun t120 => (if t120 = true then (table_order.l0 k1 l0 y115 y116 y111) else ((some (([(rd_T34 l0 (rd x7_1 (ji10))).f5, (rd_T34 l0 (rd x7_1 (ji10))).f4] : List Int) : List Int)).bind fun y123 => (if y111.length + y123.length < 17592186044416 then (table_order.l0 k1 l0 y115 y116 (y111 ++ y123)) else (none))))) else (none))) else (none)))) else (none)) else (none))) else (none)) else (none)) else (none)) = some r := by first | (rw [hji10] at H; exact H) | (simp only [hji10] at H ⊢; exact H)
      have hji10w : (IntKind.i64.wrap ((x7_1.length : Int) - 1)) = ji10 := (i64_w _).trans hji10
      by_cases c11 : 0 ≤ (ji10)
      ·rw [if_pos c11] at H
       have c11b0 : decide (0 ≤ (ji10)) = true := decide_eq_true c11
       clear c11
       by_cases c12 : (ji10) < (x7_1.length : Int)
       ·rw [if_pos c12] at H
        have c12b0 : decide ((ji10) < (x7_1.length : Int)) = true := decide_eq_true c12
        clear c12
        by_cases c13 : (ji10) ≤ (x7_1.length : Int)
        ·rw [if_pos c13] at H
         have c13b0 := eq_true c13
         have c13b1 : decide ((ji10) ≤ (x7_1.length : Int)) = true := decide_eq_true c13
         clear c13
         obtain ⟨y111, hy111⟩ : ∃ y_ : List Int, y_ = (x7_1.take ((ji10) : Int).toNat) := ⟨_, rfl⟩
         replace H : (if 0 ≤ (rd x7_1 (ji10)) then (if (rd x7_1 (ji10)) < (x5_1.length : Int) then (if rdOf false x5_1 (rd x7_1 (ji10)) = true then (some ([] : List Int)) else ((some (x5_1.set ((rd x7_1 (ji10)) : Int).toNat true : List Bool)).bind fun y115 => (if x6_1.length < 17592186044416 then ((some (x6_1 ++ [rd x7_1 (ji10)] : List Int)).bind fun y116 => (if (rd x7_1 (ji10)) < (l0.length : Int) then ((table_isLeaf.f ((rd_T34 l0 (rd x7_1 (ji10))).f0) ((rd_T34 l0 (rd x7_1 (ji10))).f1) ((rd_T34 l0 (rd x7_1 (ji10))).f2) ((rd_T34 l0 (rd x7_1 (ji10))).f3) ((rd_T34 l0 (rd x7_1 (ji10))).f4) ((rd_T34 l0 (rd x7_1 (ji10))).f5)).bind fun t120 => (if t120 = true then (table_order.l0 k1 l0 y115 y116 y111) else ((some (([(rd_T34 l0 (rd x7_1 (ji10))).f5, (rd_T34 l0 (rd x7_1 (ji10))).f4] : List Int) : List Int)).bind fun y123 => (if y111.length + y123.length < 17592186044416 then (table_order.l0 k1 l0 y115 y116 (y111 ++ y123)) else (none))))) else (none))) else (none)))) else (none)) else (none)) = some r := by first | (rw [hy111]; with_reducible exact H) | (have H2_ := (Option.bind_some _ _).symm.trans H; rw [hy111]; with_reducible exact H2_) | (have H2_ := (Option.bind_some _ _).symm.trans H; with_reducible exact H2_) | with_reducible exact H | (rw [hy111]; exact H) | exact H
         have Ny111 := Am hy111
         clear hy111
         by_cases c14 : 0 ≤ (rd x7_1 (ji10))
         ·rw [if_pos c14] at H
          have c14b0 : decide (0 ≤ (rd x7_1 (ji10))) = true := decide_eq_true c14
          clear c14
          by_cases c15 : (rd x7_1 (ji10)) < (x5_1.length : Int)
          ·rw [if_pos c15] at H
           have c15b0 : decide ((rd x7_1 (ji10)) < (x5_1.length : Int)) = true := decide_eq_true c15
           clear c15
           obtain ⟨bq16, hbq16⟩ : ∃ b_ : Bool, b_ = (rdOf false x5_1 (rd x7_1 (ji10))) := ⟨_, rfl⟩
           replace H : (if bq16 = true then (some ([] : List Int)) else ((some (x5_1.set ((rd x7_1 (ji10)) : Int).toNat true : List Bool)).bind fun y115 => (if x6_1.length < 17592186044416 then ((some (x6_1 ++ [rd x7_1 (ji10)] : List Int)).bind fun y116 => (if (rd x7_1 (ji10)) < (l0.length : Int) then ((table_isLeaf.f ((rd_T34 l0 (rd x7_1 (ji10))).f0) ((rd_T34 l0 (rd x7_1 (ji10))).f1) ((rd_T34 l0 (rd x7_1 (ji10))).f2) ((rd_T34 l0 (rd x7_1 (ji10))).f3) ((rd_T34 l0 (rd x7_1 (ji10))).f4) ((rd_T34 l0 (rd x7_1 (ji10))).f5)).bind fun t120 => (if t120 = true then (table_order.l0 k1 l0 y115 y116 y111) else ((some (([(rd_T34 l0 (rd x7_1 (ji10))).f5, (rd_T34 l0 (rd x7_1 (ji10))).f4] : List Int) : List Int)).bind fun y123 => (if y111.length + y123.length < 17592186044416 then (table_order.l0 k1 l0 y115 y116 (y111 ++ y123)) else (none))))) else (none))) else (none)))) = some r := by rw [← hbq16] at H; exact H
           have Nbq16 := Am hbq16
           clear hbq16
           by_cases c17 : bq16 = true
           ·subst c17
            have H1 : (some ([] : List Int)) = some r := by rw [if_pos rfl] at H; exact H
            clear H
            have H := H1
            clear H1
            obtain rfl := Option.some.inj H
            obtain ⟨Ao18, co18, eo18⟩ := Kd.R_slice HO_7.out
            subst eo18
            have p110 : 0 ≤ ((ji10) : Int) := of_decide_eq_true (by first | (with_reducible assumption) | assumption)
            have q110 : (ji10) < (x7_1.length : Int) := of_decide_eq_true (by first | (with_reducible assumption) | assumption)
            obtain ⟨ad110, e110, hx110_0⟩ := Kd.at_int (Kd.R_reads' HO_7.out).2.2 (ji10) p110 q110
            cases e110
            replace p110 := eq_true p110
            replace q110 := eq_true q110
            have q19 : ((ji10) : Int) ≤ ((x7_1.length : Int) : Int) := of_decide_eq_true (by first | (with_reducible assumption) | assumption)
            obtain ⟨i019, hi019, _, hsz19, _⟩ := info_parts info3
            have hcut19 := cut_to (P := Try.prog) 31 3 .i64 Try.underlying31 hi019 (some ad110) x7_1.length co18 (ji10) (of_decide_eq_true (by first | (with_reducible assumption) | assumption)) q19 (Kd.R_reads' HO_7.out).2.1
            have hr19 := Kd.R_take (m := ((ji10) : Int).toNat) HO_7.out (by omega)
            have hy19 : y111.length = ((ji10) : Int).toNat := (by rw [Ny111.out, List.length_take]; omega)
            rw [← Ny111.out] at hr19
            rw [← hy19] at hr19 hcut19
            clear hy19 hi019 hsz19 HO_7
            have HO113 := Am hr19
            clear hr19
            replace q19 := eq_true q19
            obtain ⟨Ao20, co20, eo20⟩ := Kd.R_slice HO_5.out
            subst eo20
            have p114 : 0 ≤ ((rd x7_1 (ji10)) : Int) := of_decide_eq_true (by first | (with_reducible assumption) | assumption)
            have q114 : (rd x7_1 (ji10)) < (x5_1.length : Int) := of_decide_eq_true (by first | (with_reducible assumption) | assumption)
            obtain ⟨ad114, e114, hx114_0⟩ := Kd.at_bool (Kd.R_reads' HO_5.out).2.2 (rd x7_1 (ji10)) p114 q114
            (try rw [← Nbq16.out] at hx114_0)
            cases e114
            replace p114 := eq_true p114
            replace q114 := eq_true q114
            go_wp2
            go_ret
            exact ⟨_, by first | rfl | (simp [errW_none, errW_some] <;> rfl) | (simp only [← hji10]; first | rfl | (simp [errW_none, errW_some] <;> rfl)) | (simp [*, errW_none, errW_some] <;> rfl), by first | exact Kd.R_nil _ _ _ _ _ | exact Kd.N_nil _ _ _ _ _ | exact Kd.V_nil _ _ _ _ _ | exact Kd.Q_nil _ _ _ _ _ | exact Kd.S_nil _ _ _ _ _, by repeat (first | (with_reducible first | exact HB.out | apply ba | apply bn | apply bd) | exact HB.out)⟩
           ·replace c17 := Bool.eq_false_iff.mpr c17
            subst c17
            have H1 : ((some (x5_1.set ((rd x7_1 (ji10)) : Int).toNat true : List Bool)).bind fun y115 => (if x6_1.length < 17592186044416 then ((some (x6_1 ++ [rd x7_1 (ji10)] : List Int)).bind fun y116 => (if (rd x7_1 (ji10)) < (l0.length : Int) then ((table_isLeaf.f ((rd_T34 l0 (rd x7_1 (ji10))).f0) ((rd_T34 l0 (rd x7_1 (ji10))).f1) ((rd_T34 l0 (rd x7_1 (ji10))).f2) ((rd_T34 l0 (rd x7_1 (ji10))).f3) ((rd_T34 l0 (rd x7_1 (ji10))).f4) ((rd_T34 l0 (rd x7_1 (ji10))).f5)).bind fun t120 => (if t120 = true then (table_order.l0 k1 l0 y115 y116 y111) else ((some (([(rd_T34 l0 (rd x7_1 (ji10))).f5, (rd_T34 l0 (rd x7_1 (ji10))).f4] : List Int) : List Int)).bind fun y123 => (if y111.length + y123.length < 17592186044416 then (table_order.l0 k1 l0 y115 y116 (y111 ++ y123)) else (none))))) else (none))) else (none))) = some r := by rw [if_neg (show ¬ (false = true) by decide)] at H; exact H
            clear H
            have H := H1
            clear H1
            obtain ⟨y115, hy115⟩ : ∃ y_ : List Bool, y_ = (x5_1.set ((rd x7_1 (ji10)) : Int).toNat true) := ⟨_, rfl⟩
            replace H : (if x6_1.length < 17592186044416 then ((some (x6_1 ++ [rd x7_1 (ji10)] : List Int)).bind fun y116 => (if (rd x7_1 (ji10)) < (l0.length : Int) then ((table_isLeaf.f ((rd_T34 l0 (rd x7_1 (ji10))).f0) ((rd_T34 l0 (rd x7_1 (ji10))).f1) ((rd_T34 l0 (rd x7_1 (ji10))).f2) ((rd_T34 l0 (rd x7_1 (ji10))).f3) ((rd_T34 l0 (rd x7_1 (ji10))).f4) ((rd_T34 l0 (rd x7_1 (ji10))).f5)).bind fun t120 => (if t120 = true then (table_order.l0 k1 l0 y115 y116 y111) else ((some (([(rd_T34 l0 (rd x7_1 (ji10))).f5, (rd_T34 l0 (rd x7_1 (ji10))).f4] : List Int) : List Int)).bind fun y123 => (if y111.length + y123.length < 17592186044416 then (table_order.l0 k1 l0 y115 y116 (y111 ++ y123)) else (none))))) else (none))) else (none)) = some r := by first | (rw [hy115]; with_reducible exact H) | (have H2_ := (Option.bind_some _ _).symm.trans H; rw [hy115]; with_reducible exact H2_) | (have H2_ := (Option.bind_some _ _).symm.trans H; with_reducible exact H2_) | with_reducible exact H | (rw [hy115]; exact H) | exact H
            have Ny115 := Am hy115
            clear hy115
            by_cases c22 : x6_1.length < 17592186044416
            ·rw [if_pos c22] at H
             have LMc22 := Am c22
             clear c22
             obtain ⟨y116, hy116⟩ : ∃ y_ : List Int, y_ = (x6_1 ++ [rd x7_1 (ji10)]) := ⟨_, rfl⟩
             replace H : (if (rd x7_1 (ji10)) < (l0.length : Int) then ((table_isLeaf.f ((rd_T34 l0 (rd x7_1 (ji10))).f0) ((rd_T34 l0 (rd x7_1 (ji10))).f1) ((rd_T34 l0 (rd x7_1 (ji10))).f2) ((rd_T34 l0 (rd x7_1 (ji10))).f3) ((rd_T34 l0 (rd x7_1 (ji10))).f4) ((rd_T34 l0 (rd x7_1 (ji10))).f5)).bind fun t120 => (if t120 = true then (table_order.l0 k1 l0 y115 y116 y111) else ((some (([(rd_T34 l0 (rd x7_1 (ji10))).f5, (rd_T34 l0 (rd x7_1 (ji10))).f4] : List Int) : List Int)).bind fun y123 => (if y111.length + y123.length < 17592186044416 then (table_order.l0 k1 l0 y115 y116 (y111 ++ y123)) else (none))))) else (none)) = some r := by first | (rw [hy116]; with_reducible exact H) | (have H2_ := (Option.bind_some _ _).symm.trans H; rw [hy116]; with_reducible exact H2_) | (have H2_ := (Option.bind_some _ _).symm.trans H; with_reducible exact H2_) | with_reducible exact H | (rw [hy116]; exact H) | exact H
             have Ny116 := Am hy116
             clear hy116
             by_cases c23 : (rd x7_1 (ji10)) < (l0.length : Int)
             ·rw [if_pos c23] at H
              have c23b0 : decide ((rd x7_1 (ji10)) < (l0.length : Int)) = true := decide_eq_true c23
              clear c23
              replace H := Option.bind_eq_some_iff.mp H
              obtain ⟨t120, A240, H⟩ := H
              replace H : (if t120 = true then (table_order.l0 k1 l0 y115 y116 y111) else ((some (([(rd_T34 l0 (rd x7_1 (ji10))).f5, (rd_T34 l0 (rd x7_1 (ji10))).f4] : List Int) : List Int)).bind fun y123 => (if y111.length + y123.length < 17592186044416 then (table_order.l0 k1 l0 y115 y116 (y111 ++ y123)) else (none)))) = some r := H
              have A24 := Am A240
              clear A240
              by_cases c25 : t120 = true
              ·subst c25
               have H1 : (table_order.l0 k1 l0 y115 y116 y111) = some r := by rw [if_pos rfl] at H; exact H
               clear H
               have H := H1
               clear H1
               have H' := Am H
               clear H
               obtain ⟨Ao26, co26, eo26⟩ := Kd.R_slice HO_7.out
               subst eo26
               have p110 : 0 ≤ ((ji10) : Int) := of_decide_eq_true (by first | (with_reducible assumption) | assumption)
               have q110 : (ji10) < (x7_1.length : Int) := of_decide_eq_true (by first | (with_reducible assumption) | assumption)
               obtain ⟨ad110, e110, hx110_0⟩ := Kd.at_int (Kd.R_reads' HO_7.out).2.2 (ji10) p110 q110
               cases e110
               replace p110 := eq_true p110
               replace q110 := eq_true q110
               have q27 : ((ji10) : Int) ≤ ((x7_1.length : Int) : Int) := of_decide_eq_true (by first | (with_reducible assumption) | assumption)
               obtain ⟨i027, hi027, _, hsz27, _⟩ := info_parts info3
               have hcut27 := cut_to (P := Try.prog) 31 3 .i64 Try.underlying31 hi027 (some ad110) x7_1.length co26 (ji10) (of_decide_eq_true (by first | (with_reducible assumption) | assumption)) q27 (Kd.R_reads' HO_7.out).2.1
               have hr27 := Kd.R_take (m := ((ji10) : Int).toNat) HO_7.out (by omega)
               have hy27 : y111.length = ((ji10) : Int).toNat := (by rw [Ny111.out, List.length_take]; omega)
               rw [← Ny111.out] at hr27
               rw [← hy27] at hr27 hcut27
               clear hy27 hi027 hsz27 HO_7
               have HO113 := Am hr27
               clear hr27
               replace q27 := eq_true q27
               obtain ⟨Ao28, co28, eo28⟩ := Kd.R_slice HO_5.out
               subst eo28
               have p114 : 0 ≤ ((rd x7_1 (ji10)) : Int) := of_decide_eq_true (by first | (with_reducible assumption) | assumption)
               have q114 : (rd x7_1 (ji10)) < (x5_1.length : Int) := of_decide_eq_true (by first | (with_reducible assumption) | assumption)
               obtain ⟨ad114, e114, hx114_0⟩ := Kd.at_bool (Kd.R_reads' HO_5.out).2.2 (rd x7_1 (ji10)) p114 q114
               (try rw [← Nbq16.out] at hx114_0)
               cases e114
               replace p114 := eq_true p114
               replace q114 := eq_true q114
               have p21 : 0 ≤ ((rd x7_1 (ji10)) : Int) := of_decide_eq_true (by first | (with_reducible assumption) | assumption)
               have q21 : ((rd x7_1 (ji10)) : Int) < ((x5_1.length : Int) : Int) := of_decide_eq_true (by first | (with_reducible assumption) | assumption)
               obtain ⟨go21, co21, eo21, gb21, gl21, cl21, HG21⟩ := Kd.R_form HO_5.out (by omega)
               (first | cases eo21 | (injection eo21 with ea_ en_ ec_; (first | subst ea_ | (injection ea_ with ea_; subst ea_)); subst ec_; clear en_))
               have GB21 := Am gb21
               have GG21 := Am HG21
               clear gb21 gl21 HG21
               (first | simp only [add_plain] at hx114_0 | skip)
               obtain ⟨hx21_0, hf21_0⟩ := Kd.R_celln false HO_5.out ((rd x7_1 (ji10)) : Int) p21 q21
               replace p21 := eq_true p21
               replace q21 := eq_true q21
               have HP29 := Kd.R_putg HO_5.out ((rd x7_1 (ji10)) : Int) true
               go_wp2_with (first | ((with_reducible refine gate_store (t := 4) (p := 34) rfl ?_); refine store_event (t := 4) (p := 34) (v := ?vo_w30) (w1 := (wr.setCell ⟨go21, ((rd x7_1 (ji10)) : Int).toNat, none⟩ (.bool true))) ?hg ?ho ?hn ?hr ?_; (case ho => rfl); (case hg => rfl); (case hn => rfl); (case hr => first | (go_simp; done) | (go_simp; rfl)); intro w30 hw; have hg : wr.grownBy w30 (some go21) := (by rw [hw]; exact HP29.2); have hp_ : Kd.R Kd.bool 4 w30 w.heap.size (fun _ => True) (.slice (some ⟨go21, 0, none⟩) x5_1.length co28) y115 := (by rw [hw, Ny115.out]; exact HP29.1); clear HP29; have n0_ := Am (hp_); have n1_ := Am (Kd.R_over' (v := (.slice (some ⟨go21, 0, none⟩) x5_1.length co28)) (by (with_reducible repeat (first | apply Kd.R_alloc | apply Kd.R_drewN | apply Kd.R_drew)); exact HO_6.out) (Kd.R_typed HO_5.out) (by decide) hg); have n2_ := Am (Kd.R_over' (v := (.slice (some ⟨go21, 0, none⟩) x5_1.length co28)) (by (with_reducible repeat (first | apply Kd.R_alloc | apply Kd.R_drewN | apply Kd.R_drew)); exact HO113.out) (Kd.R_typed HO_5.out) (by decide) hg); have n3_ := Am ((by rw [hw]; exact below_set (HB.out) GB21.out : Below w.heap.size w w30)); clear HO_5; clear HO_6; clear HO113; clear HB; have HO_5 := n0_; have HO_6 := n1_; have HO113 := n2_; have HB := n3_; clear n0_ n1_ n2_ n3_; clear hg hw hp_) | ((with_reducible refine gate_builtin (b := .append) (xs := #[.tmp 35, .tmp 37]) rfl ?_); at_builtin; refine Kd.R_append (Kd.int .i64) (w0 := w) w.heap.size rfl (.tmp 35) (.tmp 37) 31 3 (.int .i64 0) 8 rfl Try.underlying31 info3 rfl (by decide) (by omega) u6 x6_1 (rd x7_1 (ji10)) [.int .i64 (rd x7_1 (ji10))] (fun k_ => some k_ ≠ (.slice (some ad110) y111.length co26 : Value).ownBlock) (fun _ => False) rfl rfl ?aP (fun _ hk => hk.elim) ?aF ?aO ?aB ?aS ?aL ?_; (case aP => exact rfl); (case aB => exact (by repeat (first | (with_reducible first | exact HB.out | apply ba | apply bn | apply bd) | exact HB.out))); (case aF => exact (fun k_ hk => Kd.fresh' (Kd.R_lt (by (with_reducible repeat (first | apply Kd.R_alloc | apply Kd.R_drewN | apply Kd.R_drew)); exact HO113.out)) k_ hk)); (case aO => exact (by (with_reducible repeat (first | apply Kd.R_alloc | apply Kd.R_drewN | apply Kd.R_drew)); exact HO_6.out)); (case aS => exact (below_size (by repeat (first | (with_reducible first | exact HB.out | apply ba | apply bn | apply bd) | exact HB.out)))); (case aL => have := LMc22.out; omega); intro v117 w31 ho hb hg hat; rw [← Ny116.out] at ho; have n0_ := Am (Kd.R_over' (by (with_reducible repeat (first | apply Kd.R_alloc | apply Kd.R_drewN | apply Kd.R_drew)); exact HO_5.out) (Kd.R_typed (by (with_reducible repeat (first | apply Kd.R_alloc | apply Kd.R_drewN | apply Kd.R_drew)); exact HO_6.out)) (by decide) hg); have n1_ := Am (Kd.R_after (ok := (fun _ => True)) (by (with_reducible repeat (first | apply Kd.R_alloc | apply Kd.R_drewN | apply Kd.R_drew)); exact Kd.R_mono HO113.out (fun _ hk => ⟨trivial, hk⟩)) hg hat); have n2_ := Am (hb); have n3_ := Am (ho); clear HO_5; clear HO113; clear HB; clear HO_6; have HO_5 := n0_; have HO113 := n1_; have HB := n2_; have HO118 := n3_; clear n0_ n1_ n2_ n3_; clear ho hb hg hat; have p119 : 0 ≤ ((rd x7_1 (ji10)) : Int) := of_decide_eq_true (by first | (with_reducible assumption) | assumption); have q119 : (rd x7_1 (ji10)) < (l0.length : Int) := of_decide_eq_true (by first | (with_reducible assumption) | assumption); obtain ⟨ad119, e119, hx119_0, hx119_1, hx119_2, hx119_3, hx119_4, hx119_5⟩ := at_T34 HR0.out (rd x7_1 (ji10)) p119 q119; cases e119; replace hx119_0 := (HB.out.cell (blt w _ hx119_0)).trans hx119_0; replace hx119_1 := (HB.out.cell (blt w _ hx119_1)).trans hx119_1; replace hx119_2 := (HB.out.cell (blt w _ hx119_2)).trans hx119_2; replace hx119_3 := (HB.out.cell (blt w _ hx119_3)).trans hx119_3; replace hx119_4 := (HB.out.cell (blt w _ hx119_4)).trans hx119_4; replace hx119_5 := (HB.out.cell (blt w _ hx119_5)).trans hx119_5; replace p119 := eq_true p119; replace q119 := eq_true q119) | ((with_reducible refine gate_callee (f := 72) rfl ?_); refine goesL_ (some 43) rfl rfl Try.func72 (by kernel_rfl) rfl #[.agg #[.int .i64 ((rd_T34 l0 (rd x7_1 (ji10))).f0), .int .i64 ((rd_T34 l0 (rd x7_1 (ji10))).f1), .int .i64 ((rd_T34 l0 (rd x7_1 (ji10))).f2), .int .i64 ((rd_T34 l0 (rd x7_1 (ji10))).f3), .int .i64 ((rd_T34 l0 (rd x7_1 (ji10))).f4), .int .i64 ((rd_T34 l0 (rd x7_1 (ji10))).f5)]] rfl (by (try simp only [List.map_toArray, List.map_cons, List.map_nil]); first | done | (simp only [hji10]; rfl) | rfl | (simp only [List.length_drop, List.length_take]; rfl)) ?_; (with_reducible refine (table_isLeaf.calls ((rd_T34 l0 (rd x7_1 (ji10))).f0) ((rd_T34 l0 (rd x7_1 (ji10))).f1) ((rd_T34 l0 (rd x7_1 (ji10))).f2) ((rd_T34 l0 (rd x7_1 (ji10))).f3) ((rd_T34 l0 (rd x7_1 (ji10))).f4) ((rd_T34 l0 (rd x7_1 (ji10))).f5) true _ A24.out).mono ?_); rintro e w32 ⟨rfl, hb⟩; refine ⟨_, rfl, ?_⟩; have n0_ := Am (Kd.R_below (by (with_reducible repeat (first | apply Kd.R_alloc | apply Kd.R_drewN | apply Kd.R_drew)); exact HO_5.out) hb); have n1_ := Am (Kd.R_below (by (with_reducible repeat (first | apply Kd.R_alloc | apply Kd.R_drewN | apply Kd.R_drew)); exact HO113.out) hb); have n2_ := Am (Kd.R_below (by (with_reducible repeat (first | apply Kd.R_alloc | apply Kd.R_drewN | apply Kd.R_drew)); exact HO118.out) hb); have n3_ := Am (below_step (by repeat (first | (with_reducible first | exact HB.out | apply ba | apply bn | apply bd) | exact HB.out)) hb); clear HO_5; clear HO113; clear HO118; clear HB; have HO_5 := n0_; have HO113 := n1_; have HO118 := n2_; have HB := n3_; clear n0_ n1_ n2_ n3_; (try clear hb); (try clear hb2); (try clear hk); (try clear hi)))
               go_roundg k1
               case measure => have := HK1.out; omega
               case rel => exact ⟨(y115), (y116), (y111), H', ⟨by have := HK1.out; omega⟩, ⟨by (with_reducible repeat (first | apply Kd.R_alloc | apply Kd.R_drewN | apply Kd.R_drew)); exact HO_5.out⟩, ⟨by (with_reducible repeat (first | apply Kd.R_alloc | apply Kd.R_drewN | apply Kd.R_drew)); exact HO118.out⟩, ⟨by (with_reducible repeat (first | apply Kd.R_alloc | apply Kd.R_drewN | apply Kd.R_drew)); exact Kd.R_mono HO113.out (fun _ hk => hk.2)⟩, ⟨by repeat (first | (with_reducible first | exact HB.out | apply ba | apply bn | apply bd) | exact HB.out)⟩⟩
              ·replace c25 := Bool.eq_false_iff.mpr c25
               subst c25
               have H1 : ((some (([(rd_T34 l0 (rd x7_1 (ji10))).f5, (rd_T34 l0 (rd x7_1 (ji10))).f4] : List Int) : List Int)).bind fun y123 => (if y111.length + y123.length < 17592186044416 then (table_order.l0 k1 l0 y115 y116 (y111 ++ y123)) else (none))) = some r := by rw [if_neg (show ¬ (false = true) by decide)] at H; exact H
               clear H
               have H := H1
               clear H1
               obtain ⟨y123, hy123⟩ : ∃ y_ : List Int, y_ = (([(rd_T34 l0 (rd x7_1 (ji10))).f5, (rd_T34 l0 (rd x7_1 (ji10))).f4] : List Int)) := ⟨_, rfl⟩
               replace H : (if y111.length + y123.length < 17592186044416 then (table_order.l0 k1 l0 y115 y116 (y111 ++ y123)) else (none)) = some r := by first | (rw [hy123]; with_reducible exact H) | (have H2_ := (Option.bind_some _ _).symm.trans H; rw [hy123]; with_reducible exact H2_) | (have H2_ := (Option.bind_some _ _).symm.trans H; with_reducible exact H2_) | with_reducible exact H | (rw [hy123]; exact H) | exact H
               have Ny123 := Am hy123
               clear hy123
               by_cases c33 : y111.length + y123.length < 17592186044416
               ·rw [if_pos c33] at H
                have LMc33 := Am c33
                clear c33
                obtain ⟨y126, hy126⟩ : ∃ y_ : List Int, y_ = (y111 ++ y123) := ⟨_, rfl⟩
                replace H : (table_order.l0 k1 l0 y115 y116 y126) = some r := by first | (rw [hy126]; with_reducible exact H) | (have H2_ := (Option.bind_some _ _).symm.trans H; rw [hy126]; with_reducible exact H2_) | (have H2_ := (Option.bind_some _ _).symm.trans H; with_reducible exact H2_) | with_reducible exact H | (rw [hy126]; exact H) | exact H
                have Ny126 := Am hy126
                clear hy126
                have H' := Am H
                clear H
                obtain ⟨Ao34, co34, eo34⟩ := Kd.R_slice HO_7.out
                subst eo34
                have p110 : 0 ≤ ((ji10) : Int) := of_decide_eq_true (by first | (with_reducible assumption) | assumption)
                have q110 : (ji10) < (x7_1.length : Int) := of_decide_eq_true (by first | (with_reducible assumption) | assumption)
                obtain ⟨ad110, e110, hx110_0⟩ := Kd.at_int (Kd.R_reads' HO_7.out).2.2 (ji10) p110 q110
                cases e110
                replace p110 := eq_true p110
                replace q110 := eq_true q110
                have q35 : ((ji10) : Int) ≤ ((x7_1.length : Int) : Int) := of_decide_eq_true (by first | (with_reducible assumption) | assumption)
                obtain ⟨i035, hi035, _, hsz35, _⟩ := info_parts info3
                have hcut35 := cut_to (P := Try.prog) 31 3 .i64 Try.underlying31 hi035 (some ad110) x7_1.length co34 (ji10) (of_decide_eq_true (by first | (with_reducible assumption) | assumption)) q35 (Kd.R_reads' HO_7.out).2.1
                have hr35 := Kd.R_take (m := ((ji10) : Int).toNat) HO_7.out (by omega)
                have hy35 : y111.length = ((ji10) : Int).toNat := (by rw [Ny111.out, List.length_take]; omega)
                rw [← Ny111.out] at hr35
                rw [← hy35] at hr35 hcut35
                clear hy35 hi035 hsz35 HO_7
                have HO113 := Am hr35
                clear hr35
                replace q35 := eq_true q35
                obtain ⟨Ao36, co36, eo36⟩ := Kd.R_slice HO_5.out
                subst eo36
                have p114 : 0 ≤ ((rd x7_1 (ji10)) : Int) := of_decide_eq_true (by first | (with_reducible assumption) | assumption)
                have q114 : (rd x7_1 (ji10)) < (x5_1.length : Int) := of_decide_eq_true (by first | (with_reducible assumption) | assumption)
                obtain ⟨ad114, e114, hx114_0⟩ := Kd.at_bool (Kd.R_reads' HO_5.out).2.2 (rd x7_1 (ji10)) p114 q114
                (try rw [← Nbq16.out] at hx114_0)
                cases e114
                replace p114 := eq_true p114
                replace q114 := eq_true q114
                have p21 : 0 ≤ ((rd x7_1 (ji10)) : Int) := of_decide_eq_true (by first | (with_reducible assumption) | assumption)
                have q21 : ((rd x7_1 (ji10)) : Int) < ((x5_1.length : Int) : Int) := of_decide_eq_true (by first | (with_reducible assumption) | assumption)
                obtain ⟨go21, co21, eo21, gb21, gl21, cl21, HG21⟩ := Kd.R_form HO_5.out (by omega)
                (first | cases eo21 | (injection eo21 with ea_ en_ ec_; (first | subst ea_ | (injection ea_ with ea_; subst ea_)); subst ec_; clear en_))
                have GB21 := Am gb21
                have GG21 := Am HG21
                clear gb21 gl21 HG21
                (first | simp only [add_plain] at hx114_0 | skip)
                obtain ⟨hx21_0, hf21_0⟩ := Kd.R_celln false HO_5.out ((rd x7_1 (ji10)) : Int) p21 q21
                replace p21 := eq_true p21
                replace q21 := eq_true q21
                have HP37 := Kd.R_putg HO_5.out ((rd x7_1 (ji10)) : Int) true
                try go_wp2_with (first | ((with_reducible refine gate_store (t := 4) (p := 34) rfl ?_); refine store_event (t := 4) (p := 34) (v := ?vo_w38) (w1 := (wr.setCell ⟨go21, ((rd x7_1 (ji10)) : Int).toNat, none⟩ (.bool true))) ?hg ?ho ?hn ?hr ?_; (case ho => rfl); (case hg => rfl); (case hn => rfl); (case hr => first | (go_simp; done) | (go_simp; rfl)); intro w38 hw; have hg : wr.grownBy w38 (some go21) := (by rw [hw]; exact HP37.2); have hp_ : Kd.R Kd.bool 4 w38 w.heap.size (fun _ => True) (.slice (some ⟨go21, 0, none⟩) x5_1.length co36) y115 := (by rw [hw, Ny115.out]; exact HP37.1); clear HP37; have n0_ := Am (hp_); have n1_ := Am (Kd.R_over' (v := (.slice (some ⟨go21, 0, none⟩) x5_1.length co36)) (by (with_reducible repeat (first | apply Kd.R_alloc | apply Kd.R_drewN | apply Kd.R_drew)); exact HO_6.out) (Kd.R_typed HO_5.out) (by decide) hg); have n2_ := Am (Kd.R_over' (v := (.slice (some ⟨go21, 0, none⟩) x5_1.length co36)) (by (with_reducible repeat (first | apply Kd.R_alloc | apply Kd.R_drewN | apply Kd.R_drew)); exact HO113.out) (Kd.R_typed HO_5.out) (by decide) hg); have n3_ := Am ((by rw [hw]; exact below_set (HB.out) GB21.out : Below w.heap.size w w38)); clear HO_5; clear HO_6; clear HO113; clear HB; have HO_5 := n0_; have HO_6 := n1_; have HO113 := n2_; have HB := n3_; clear n0_ n1_ n2_ n3_; clear hg hw hp_) | ((with_reducible refine gate_builtin (b := .append) (xs := #[.tmp 35, .tmp 37]) rfl ?_); at_builtin; refine Kd.R_append (Kd.int .i64) (w0 := w) w.heap.size rfl (.tmp 35) (.tmp 37) 31 3 (.int .i64 0) 8 rfl Try.underlying31 info3 rfl (by decide) (by omega) u6 x6_1 (rd x7_1 (ji10)) [.int .i64 (rd x7_1 (ji10))] (fun k_ => some k_ ≠ (.slice (some ad110) y111.length co34 : Value).ownBlock) (fun _ => False) rfl rfl ?aP (fun _ hk => hk.elim) ?aF ?aO ?aB ?aS ?aL ?_; (case aP => exact rfl); (case aB => exact (by repeat (first | (with_reducible first | exact HB.out | apply ba | apply bn | apply bd) | exact HB.out))); (case aF => exact (fun k_ hk => Kd.fresh' (Kd.R_lt (by (with_reducible repeat (first | apply Kd.R_alloc | apply Kd.R_drewN | apply Kd.R_drew)); exact HO113.out)) k_ hk)); (case aO => exact (by (with_reducible repeat (first | apply Kd.R_alloc | apply Kd.R_drewN | apply Kd.R_drew)); exact HO_6.out)); (case aS => exact (below_size (by repeat (first | (with_reducible first | exact HB.out | apply ba | apply bn | apply bd) | exact HB.out)))); (case aL => have := LMc22.out; omega); intro v117 w39 ho hb hg hat; rw [← Ny116.out] at ho; have n0_ := Am (Kd.R_over' (by (with_reducible repeat (first | apply Kd.R_alloc | apply Kd.R_drewN | apply Kd.R_drew)); exact HO_5.out) (Kd.R_typed (by (with_reducible repeat (first | apply Kd.R_alloc | apply Kd.R_drewN | apply Kd.R_drew)); exact HO_6.out)) (by decide) hg); have n1_ := Am (Kd.R_after (ok := (fun _ => True)) (by (with_reducible repeat (first | apply Kd.R_alloc | apply Kd.R_drewN | apply Kd.R_drew)); exact Kd.R_mono HO113.out (fun _ hk => ⟨trivial, hk⟩)) hg hat); have n2_ := Am (hb); have n3_ := Am (ho); clear HO_5; clear HO113; clear HB; clear HO_6; have HO_5 := n0_; have HO113 := n1_; have HB := n2_; have HO118 := n3_; clear n0_ n1_ n2_ n3_; clear ho hb hg hat; have p119 : 0 ≤ ((rd x7_1 (ji10)) : Int) := of_decide_eq_true (by first | (with_reducible assumption) | assumption); have q119 : (rd x7_1 (ji10)) < (l0.length : Int) := of_decide_eq_true (by first | (with_reducible assumption) | assumption); obtain ⟨ad119, e119, hx119_0, hx119_1, hx119_2, hx119_3, hx119_4, hx119_5⟩ := at_T34 HR0.out (rd x7_1 (ji10)) p119 q119; cases e119; replace hx119_0 := (HB.out.cell (blt w _ hx119_0)).trans hx119_0; replace hx119_1 := (HB.out.cell (blt w _ hx119_1)).trans hx119_1; replace hx119_2 := (HB.out.cell (blt w _ hx119_2)).trans hx119_2; replace hx119_3 := (HB.out.cell (blt w _ hx119_3)).trans hx119_3; replace hx119_4 := (HB.out.cell (blt w _ hx119_4)).trans hx119_4; replace hx119_5 := (HB.out.cell (blt w _ hx119_5)).trans hx119_5; replace p119 := eq_true p119; replace q119 := eq_true q119) | ((with_reducible refine gate_callee (f := 72) rfl ?_); refine goesL_ (some 43) rfl rfl Try.func72 (by kernel_rfl) rfl #[.agg #[.int .i64 ((rd_T34 l0 (rd x7_1 (ji10))).f0), .int .i64 ((rd_T34 l0 (rd x7_1 (ji10))).f1), .int .i64 ((rd_T34 l0 (rd x7_1 (ji10))).f2), .int .i64 ((rd_T34 l0 (rd x7_1 (ji10))).f3), .int .i64 ((rd_T34 l0 (rd x7_1 (ji10))).f4), .int .i64 ((rd_T34 l0 (rd x7_1 (ji10))).f5)]] rfl (by (try simp only [List.map_toArray, List.map_cons, List.map_nil]); first | done | (simp only [hji10]; rfl) | rfl | (simp only [List.length_drop, List.length_take]; rfl)) ?_; (with_reducible refine (table_isLeaf.calls ((rd_T34 l0 (rd x7_1 (ji10))).f0) ((rd_T34 l0 (rd x7_1 (ji10))).f1) ((rd_T34 l0 (rd x7_1 (ji10))).f2) ((rd_T34 l0 (rd x7_1 (ji10))).f3) ((rd_T34 l0 (rd x7_1 (ji10))).f4) ((rd_T34 l0 (rd x7_1 (ji10))).f5) false _ A24.out).mono ?_); rintro e w40 ⟨rfl, hb⟩; refine ⟨_, rfl, ?_⟩; have n0_ := Am (Kd.R_below (by (with_reducible repeat (first | apply Kd.R_alloc | apply Kd.R_drewN | apply Kd.R_drew)); exact HO_5.out) hb); have n1_ := Am (Kd.R_below (by (with_reducible repeat (first | apply Kd.R_alloc | apply Kd.R_drewN | apply Kd.R_drew)); exact HO113.out) hb); have n2_ := Am (Kd.R_below (by (with_reducible repeat (first | apply Kd.R_alloc | apply Kd.R_drewN | apply Kd.R_drew)); exact HO118.out) hb); have n3_ := Am (below_step (by repeat (first | (with_reducible first | exact HB.out | apply ba | apply bn | apply bd) | exact HB.out)) hb); clear HO_5; clear HO113; clear HO118; clear HB; have HO_5 := n0_; have HO113 := n1_; have HO118 := n2_; have HB := n3_; clear n0_ n1_ n2_ n3_; (try clear hb); (try clear hb2); (try clear hk); (try clear hi)))
                have n0_ := Am (Kd.R_drew HO_5.out)
                have n1_ := Am (Kd.R_drew HO113.out)
                have n2_ := Am (Kd.R_drew HO118.out)
                have n3_ := Am (bd HB.out)
                clear HO_5
                clear HO113
                clear HO118
                clear HB
                have HO_5 := n0_
                have HO113 := n1_
                have HO118 := n2_
                have HB := n3_
                clear n0_ n1_ n2_ n3_
                have p121 : 0 ≤ ((rd x7_1 (ji10)) : Int) := of_decide_eq_true (by first | (with_reducible assumption) | assumption)
                have q121 : (rd x7_1 (ji10)) < (l0.length : Int) := of_decide_eq_true (by first | (with_reducible assumption) | assumption)
                obtain ⟨ad121, e121, hx121_0, hx121_1, hx121_2, hx121_3, hx121_4, hx121_5⟩ := at_T34 HR0.out (rd x7_1 (ji10)) p121 q121
                have hw121_5 := hx121_5
                have hw121_4 := hx121_4
                have hw121_3 := hx121_3
                have hw121_2 := hx121_2
                have hw121_1 := hx121_1
                have hw121_0 := hx121_0
                obtain rfl : ad119 = ad121 := (by injection e121)
                replace hx121_0 := (HB.out.cell (blt w _ hx121_0)).trans hx121_0
                replace hx121_1 := (HB.out.cell (blt w _ hx121_1)).trans hx121_1
                replace hx121_2 := (HB.out.cell (blt w _ hx121_2)).trans hx121_2
                replace hx121_3 := (HB.out.cell (blt w _ hx121_3)).trans hx121_3
                replace hx121_4 := (HB.out.cell (blt w _ hx121_4)).trans hx121_4
                replace hx121_5 := (HB.out.cell (blt w _ hx121_5)).trans hx121_5
                replace p121 := eq_true p121
                replace q121 := eq_true q121
                have p122 : 0 ≤ ((rd x7_1 (ji10)) : Int) := of_decide_eq_true (by first | (with_reducible assumption) | assumption)
                have q122 : (rd x7_1 (ji10)) < (l0.length : Int) := of_decide_eq_true (by first | (with_reducible assumption) | assumption)
                obtain ⟨ad122, e122, hx122_0, hx122_1, hx122_2, hx122_3, hx122_4, hx122_5⟩ := at_T34 HR0.out (rd x7_1 (ji10)) p122 q122
                have hw122_5 := hx122_5
                have hw122_4 := hx122_4
                have hw122_3 := hx122_3
                have hw122_2 := hx122_2
                have hw122_1 := hx122_1
                have hw122_0 := hx122_0
                obtain rfl : ad119 = ad122 := (by injection e122)
                replace hx122_0 := (HB.out.cell (blt w _ hx122_0)).trans hx122_0
                replace hx122_1 := (HB.out.cell (blt w _ hx122_1)).trans hx122_1
                replace hx122_2 := (HB.out.cell (blt w _ hx122_2)).trans hx122_2
                replace hx122_3 := (HB.out.cell (blt w _ hx122_3)).trans hx122_3
                replace hx122_4 := (HB.out.cell (blt w _ hx122_4)).trans hx122_4
                replace hx122_5 := (HB.out.cell (blt w _ hx122_5)).trans hx122_5
                replace p122 := eq_true p122
                replace q122 := eq_true q122
                refine start_ (n := 14) (S := fun w' => w'.cell? (ad119.add (((rd x7_1 (ji10))).toNat * 6)) = some (.int .i64 ((rd_T34 l0 (rd x7_1 (ji10))).f0)) ∧ w'.cell? ⟨(ad119.add (((rd x7_1 (ji10))).toNat * 6)).block, (ad119.add (((rd x7_1 (ji10))).toNat * 6)).off + 1, none⟩ = some (.int .i64 ((rd_T34 l0 (rd x7_1 (ji10))).f1)) ∧ w'.cell? ⟨(ad119.add (((rd x7_1 (ji10))).toNat * 6)).block, (ad119.add (((rd x7_1 (ji10))).toNat * 6)).off + 2, none⟩ = some (.int .i64 ((rd_T34 l0 (rd x7_1 (ji10))).f2)) ∧ w'.cell? ⟨(ad119.add (((rd x7_1 (ji10))).toNat * 6)).block, (ad119.add (((rd x7_1 (ji10))).toNat * 6)).off + 3, none⟩ = some (.int .i64 ((rd_T34 l0 (rd x7_1 (ji10))).f3)) ∧ w'.cell? ⟨(ad119.add (((rd x7_1 (ji10))).toNat * 6)).block, (ad119.add (((rd x7_1 (ji10))).toNat * 6)).off + 4, none⟩ = some (.int .i64 ((rd_T34 l0 (rd x7_1 (ji10))).f4)) ∧ w'.cell? ⟨(ad119.add (((rd x7_1 (ji10))).toNat * 6)).block, (ad119.add (((rd x7_1 (ji10))).toNat * 6)).off + 5, none⟩ = some (.int .i64 ((rd_T34 l0 (rd x7_1 (ji10))).f5)) ∧ w'.cell? (ad119.add (((rd x7_1 (ji10))).toNat * 6)) = some (.int .i64 ((rd_T34 l0 (rd x7_1 (ji10))).f0)) ∧ w'.cell? ⟨(ad119.add (((rd x7_1 (ji10))).toNat * 6)).block, (ad119.add (((rd x7_1 (ji10))).toNat * 6)).off + 1, none⟩ = some (.int .i64 ((rd_T34 l0 (rd x7_1 (ji10))).f1)) ∧ w'.cell? ⟨(ad119.add (((rd x7_1 (ji10))).toNat * 6)).block, (ad119.add (((rd x7_1 (ji10))).toNat * 6)).off + 2, none⟩ = some (.int .i64 ((rd_T34 l0 (rd x7_1 (ji10))).f2)) ∧ w'.cell? ⟨(ad119.add (((rd x7_1 (ji10))).toNat * 6)).block, (ad119.add (((rd x7_1 (ji10))).toNat * 6)).off + 3, none⟩ = some (.int .i64 ((rd_T34 l0 (rd x7_1 (ji10))).f3)) ∧ w'.cell? ⟨(ad119.add (((rd x7_1 (ji10))).toNat * 6)).block, (ad119.add (((rd x7_1 (ji10))).toNat * 6)).off + 4, none⟩ = some (.int .i64 ((rd_T34 l0 (rd x7_1 (ji10))).f4)) ∧ w'.cell? ⟨(ad119.add (((rd x7_1 (ji10))).toNat * 6)).block, (ad119.add (((rd x7_1 (ji10))).toNat * 6)).off + 5, none⟩ = some (.int .i64 ((rd_T34 l0 (rd x7_1 (ji10))).f5))) (ds := []) #[false, false, false, false, false, false, false, false, false, false, false, false, false, false] (by kernel_rfl) rfl rfl ⟨((HB.out.cell (blt w _ hw121_0)).trans hw121_0), ((HB.out.cell (blt w _ hw121_1)).trans hw121_1), ((HB.out.cell (blt w _ hw121_2)).trans hw121_2), ((HB.out.cell (blt w _ hw121_3)).trans hw121_3), ((HB.out.cell (blt w _ hw121_4)).trans hw121_4), ((HB.out.cell (blt w _ hw121_5)).trans hw121_5), ((HB.out.cell (blt w _ hw122_0)).trans hw122_0), ((HB.out.cell (blt w _ hw122_1)).trans hw122_1), ((HB.out.cell (blt w _ hw122_2)).trans hw122_2), ((HB.out.cell (blt w _ hw122_3)).trans hw122_3), ((HB.out.cell (blt w _ hw122_4)).trans hw122_4), ((HB.out.cell (blt w _ hw122_5)).trans hw122_5)⟩ (fun hHeld => ?_); refine with_tabW table_order.tab12 table_order.bits12 (fun HT_ HW_ => ?_)
                generalize w40.drew = w41 at HO_5 HO113 HO118 HB hx121_0 hx121_1 hx121_2 hx121_3 hx121_4 hx121_5 hx122_0 hx122_1 hx122_2 hx122_3 hx122_4 hx122_5 hHeld ⊢
                refine pure_ (i := 0) (N := some 45) (v := ?_) (a' := ?_) #[true, false, false, false, false, false, false, false, false, false, false, false, false, false] rfl rfl (any_of HT_.out (by kernel_rfl)) (fun _ _ _ h => h) (Or.inl ⟨by rfl, ?_⟩) ?_ ?_
                rotate_left
                ·intro w'
                 go_simp
                 with_reducible rfl
                rotate_left
                ·simp only [Act.put, sI, sZ, sS, i64_w, i32_w]
                 rfl
                refine pure_ (i := 1) (N := some 46) (v := ?_) (a' := ?_) #[true, true, false, false, false, false, false, false, false, false, false, false, false, false] rfl rfl (any_of HT_.out (by kernel_rfl)) (fun _ _ _ h => h) (Or.inl ⟨by rfl, ?_⟩) ?_ ?_
                rotate_left
                ·intro w'
                 go_simp
                 with_reducible rfl
                rotate_left
                ·simp only [Act.put, sI, sZ, sS, i64_w, i32_w]
                 rfl
                refine pure_ (i := 2) (N := some 47) (v := ?_) (a' := ?_) #[true, true, true, false, false, false, false, false, false, false, false, false, false, false] rfl rfl (any_of HT_.out (by kernel_rfl)) (fun _ _ _ h => h) (Or.inl ⟨by rfl, ?_⟩) ?_ ?_
                rotate_left
                ·intro w'
                 go_simp
                 with_reducible rfl
                rotate_left
                ·simp only [Act.put, sI, sZ, sS, i64_w, i32_w]
                 rfl
                refine pure_ (i := 3) (N := some 48) (v := ?_) (a' := ?_) #[true, true, true, true, false, false, false, false, false, false, false, false, false, false] rfl rfl (any_of HT_.out (by kernel_rfl)) (fun _ _ _ h => h) (Or.inl ⟨by rfl, ?_⟩) ?_ ?_
                rotate_left
                ·intro w'
                 go_simp
                 with_reducible rfl
                rotate_left
                ·simp only [Act.put, sI, sZ, sS, i64_w, i32_w]
                 rfl
                refine pure_ (i := 4) (N := some 49) (v := ?_) (a' := ?_) #[true, true, true, true, true, false, false, false, false, false, false, false, false, false] rfl rfl (any_of HT_.out (by kernel_rfl)) (fun _ _ _ h => h) (Or.inl ⟨by rfl, ?_⟩) ?_ ?_
                rotate_left
                ·intro w'
                 go_simp
                 with_reducible rfl
                rotate_left
                ·simp only [Act.put, sI, sZ, sS, i64_w, i32_w]
                 rfl
                refine pure_ (i := 6) (N := some 51) (v := ?_) (a' := ?_) #[true, true, true, true, true, false, true, false, false, false, false, false, false, false] rfl rfl (any_of HT_.out (by kernel_rfl)) (fun _ _ _ h => h) (Or.inl ⟨by rfl, ?_⟩) ?_ ?_
                rotate_left
                ·intro w'
                 go_simp
                 with_reducible rfl
                rotate_left
                ·simp only [Act.put, sI, sZ, sS, i64_w, i32_w]
                 rfl
                refine pure_ (i := 7) (N := some 52) (v := ?_) (a' := ?_) #[true, true, true, true, true, false, true, true, false, false, false, false, false, false] rfl rfl (any_of HT_.out (by kernel_rfl)) (fun _ _ _ h => h) (Or.inl ⟨by rfl, ?_⟩) ?_ ?_
                rotate_left
                ·intro w'
                 go_simp
                 with_reducible rfl
                rotate_left
                ·simp only [Act.put, sI, sZ, sS, i64_w, i32_w]
                 rfl
                refine pure_ (i := 8) (N := some 53) (v := ?_) (a' := ?_) #[true, true, true, true, true, false, true, true, true, false, false, false, false, false] rfl rfl (any_of HT_.out (by kernel_rfl)) (fun _ _ _ h => h) (Or.inl ⟨by rfl, ?_⟩) ?_ ?_
                rotate_left
                ·intro w'
                 go_simp
                 with_reducible rfl
                rotate_left
                ·simp only [Act.put, sI, sZ, sS, i64_w, i32_w]
                 rfl
                refine pure_ (i := 9) (N := some 54) (v := ?_) (a' := ?_) #[true, true, true, true, true, false, true, true, true, true, false, false, false, false] rfl rfl (any_of HT_.out (by kernel_rfl)) (fun _ _ _ h => h) (Or.inl ⟨by rfl, ?_⟩) ?_ ?_
                rotate_left
                ·intro w'
                 go_simp
                 with_reducible rfl
                rotate_left
                ·simp only [Act.put, sI, sZ, sS, i64_w, i32_w]
                 rfl
                refine take_ (i := 5) (N := some 50) (v := ?_) (a' := ?_) #[true, true, true, true, true, true, true, true, true, true, false, false, false, false] rfl rfl (take_ofW HT_.out HW_.out (by kernel_rfl)) (fun _ _ _ h => h) (Or.inl ⟨by rfl, ?_⟩) hHeld ?_ ?_
                rotate_left
                ·rintro w' ⟨s0, s1, s2, s3, s4, s5, s6, s7, s8, s9, s10, s11⟩
                 go_simp
                 with_reducible rfl
                rotate_left
                ·simp only [Act.put, sI, sZ, sS, i64_w, i32_w]
                 rfl
                refine take_ (i := 10) (N := some 55) (v := ?_) (a' := ?_) #[true, true, true, true, true, true, true, true, true, true, true, false, false, false] rfl rfl (take_ofW HT_.out HW_.out (by kernel_rfl)) (fun _ _ _ h => h) (Or.inl ⟨by rfl, ?_⟩) hHeld ?_ ?_
                rotate_left
                ·rintro w' ⟨s0, s1, s2, s3, s4, s5, s6, s7, s8, s9, s10, s11⟩
                 go_simp
                 with_reducible rfl
                rotate_left
                ·simp only [Act.put, sI, sZ, sS, i64_w, i32_w]
                 rfl
                refine one_ (i := 11) (N := some 56) #[true, true, true, true, true, true, true, true, true, true, true, true, false, false] rfl rfl (one_of HT_.out (by kernel_rfl)) (by decide) (fun K hK => ?_)
                refine Kd.R_lit_step (Kd.int .i64) _ 3 ?hg (N := 56) ?hd (xs := ([(rd_T34 l0 (rd x7_1 (ji10))).f5, (rd_T34 l0 (rd x7_1 (ji10))).f4] : List Int)) (inner := [.int .i64 ((rd_T34 l0 (rd x7_1 (ji10))).f5), .int .i64 ((rd_T34 l0 (rd x7_1 (ji10))).f4)]) (ok := fun _ => True) (okp := fun _ => True) ?hr ?hp (fun _ hk => hk) trivial (Below.refl _ _) (Nat.le_refl _) (by simp) ?_; (case hd => rfl); (case hg => rfl); (case hr => first | (go_simp; done) | (go_simp; rfl)); (case hp => exact (Reps.one (show Kd.M (Kd.int .i64) _ _ _ ((rd_T34 l0 (rd x7_1 (ji10))).f5) [.int .i64 ((rd_T34 l0 (rd x7_1 (ji10))).f5)] from rfl) (Reps.one (show Kd.M (Kd.int .i64) _ _ _ ((rd_T34 l0 (rd x7_1 (ji10))).f4) [.int .i64 ((rd_T34 l0 (rd x7_1 (ji10))).f4)] from rfl) (Reps.none _ _))))
                intro v124 w42 ho43 hb hg_ hnew_
                clear hg_ hnew_
                (first | rw [← Ny123.out] at ho43 | (simp only [Int.reduceToNat] at ho43; rw [← Ny123.out] at ho43))
                have n0_ := Am (Kd.R_below (by (with_reducible repeat (first | apply Kd.R_alloc | apply Kd.R_drewN | apply Kd.R_drew)); exact HO_5.out) hb)
                have n1_ := Am (Kd.R_elder' (by (with_reducible repeat (first | apply Kd.R_alloc | apply Kd.R_drewN | apply Kd.R_drew)); exact HO113.out) (Kd.R_base ho43) hb)
                have n2_ := Am (Kd.R_elder' (by (with_reducible repeat (first | apply Kd.R_alloc | apply Kd.R_drewN | apply Kd.R_drew)); exact HO118.out) (Kd.R_base ho43) hb)
                have n3_ := Am (Kd.R_lower (Kd.R_new' (Kd.R_new' ho43 (Kd.R_lt (by (with_reducible repeat (first | apply Kd.R_alloc | apply Kd.R_drewN | apply Kd.R_drew)); exact HO113.out))) (Kd.R_lt (by (with_reducible repeat (first | apply Kd.R_alloc | apply Kd.R_drewN | apply Kd.R_drew)); exact HO118.out))) (below_size (by repeat (first | (with_reducible first | exact HB.out | apply ba | apply bn | apply bd) | exact HB.out))))
                have n4_ := Am (below_step (by repeat (first | (with_reducible first | exact HB.out | apply ba | apply bn | apply bd) | exact HB.out)) hb)
                clear HO_5
                clear HO113
                clear HO118
                clear HB
                have HO_5 := n0_
                have HO113 := n1_
                have HO118 := n2_
                have HO125 := n3_
                have HB := n4_
                clear n0_ n1_ n2_ n3_ n4_
                clear hb ho43
                obtain ⟨Ao45, co45, eo45⟩ := Kd.R_slice HO125.out
                (first | subst eo45 | (injection eo45 with f1_ f2_ f3_; have f4_ := f1_.symm; have f5_ := f3_.symm; clear f1_ f2_ f3_; subst f4_; subst f5_))
                refine hK.out _ _ ⟨((HB.out.cell (blt w _ hw121_0)).trans hw121_0), ((HB.out.cell (blt w _ hw121_1)).trans hw121_1), ((HB.out.cell (blt w _ hw121_2)).trans hw121_2), ((HB.out.cell (blt w _ hw121_3)).trans hw121_3), ((HB.out.cell (blt w _ hw121_4)).trans hw121_4), ((HB.out.cell (blt w _ hw121_5)).trans hw121_5), ((HB.out.cell (blt w _ hw122_0)).trans hw122_0), ((HB.out.cell (blt w _ hw122_1)).trans hw122_1), ((HB.out.cell (blt w _ hw122_2)).trans hw122_2), ((HB.out.cell (blt w _ hw122_3)).trans hw122_3), ((HB.out.cell (blt w _ hw122_4)).trans hw122_4), ((HB.out.cell (blt w _ hw122_5)).trans hw122_5)⟩ (fun hHeld => ?_)
                clear hK K
                refine norm_ (a' := ?_) ?_ ?_
                rotate_left
                ·show Act.put _ (some 56) _ = _
                 simp only [Act.put, sI, sZ, sS, i64_w, i32_w]
                 rfl
                refine one_ (i := 12) (N := some 57) #[true, true, true, true, true, true, true, true, true, true, true, true, true, false] rfl rfl (one_of HT_.out (by kernel_rfl)) (by decide) (fun K hK => ?_)
                refine Kd.R_append_rows_step (Kd.int .i64) (w0 := w) w.heap.size (by rfl) (.tmp 45) (.tmp 56) 31 3 (.int .i64 0) 8 rfl Try.underlying31 info3 rfl (by decide) (by omega) (.slice (some ad110) y111.length co34) y111 y123 _ _ _ (fun k_ => some k_ ≠ (v117 : Value).ownBlock ∧ some k_ ≠ (.slice Ao45 y123.length co45 : Value).ownBlock) (fun _ => False) rfl rfl ?aO ?aR (fun _ _ h => h) (fun _ h => h.elim) ?aF ?aB ?aS ?aL ?_
                (case aR => repeat (first | exact (Kd.R_reads' HO125.out).2.2 | (with_reducible refine Kd.C_alloc ?_ _) | (with_reducible refine Kd.C_drewN ?_ _) | (with_reducible refine Kd.C_drew ?_)))
                (case aB => exact (by repeat (first | (with_reducible first | exact HB.out | apply ba | apply bn | apply bd) | exact HB.out)))
                (case aF => exact (fun k_ hk => ⟨Kd.fresh' (Kd.R_lt (by (with_reducible repeat (first | apply Kd.R_alloc | apply Kd.R_drewN | apply Kd.R_drew)); exact HO118.out)) k_ hk, Kd.fresh' (Kd.R_lt (by (with_reducible repeat (first | apply Kd.R_alloc | apply Kd.R_drewN | apply Kd.R_drew)); exact HO125.out)) k_ hk⟩))
                (case aO => exact (by (with_reducible repeat (first | apply Kd.R_alloc | apply Kd.R_drewN | apply Kd.R_drew)); exact Kd.R_mono HO113.out (fun _ hk => ⟨hk.1.2, hk.2⟩)))
                (case aS => exact (below_size (by repeat (first | (with_reducible first | exact HB.out | apply ba | apply bn | apply bd) | exact HB.out))))
                (case aL => have := LMc33.out; omega)
                intro v127 w44 ho hb hg hat
                rw [← Ny126.out] at ho
                have n0_ := Am (Kd.R_over' (by (with_reducible repeat (first | apply Kd.R_alloc | apply Kd.R_drewN | apply Kd.R_drew)); exact HO_5.out) (Kd.R_typed (by (with_reducible repeat (first | apply Kd.R_alloc | apply Kd.R_drewN | apply Kd.R_drew)); exact HO113.out)) (by decide) hg)
                have n1_ := Am (Kd.R_after (ok := (fun k_ => some k_ ≠ (.slice Ao45 y123.length co45 : Value).ownBlock)) (by (with_reducible repeat (first | apply Kd.R_alloc | apply Kd.R_drewN | apply Kd.R_drew)); exact Kd.R_mono HO118.out (fun _ hk => ⟨hk.2, hk.1⟩)) hg hat)
                have n2_ := Am (Kd.R_after (ok := (fun k_ => some k_ ≠ (v117 : Value).ownBlock)) (by (with_reducible repeat (first | apply Kd.R_alloc | apply Kd.R_drewN | apply Kd.R_drew)); exact Kd.R_mono HO125.out (fun _ hk => ⟨hk.2, hk.1.2⟩)) hg hat)
                have n3_ := Am (hb)
                have n4_ := Am (ho)
                clear HO_5
                clear HO118
                clear HO125
                clear HB
                clear HO113
                have HO_5 := n0_
                have HO118 := n1_
                have HO125 := n2_
                have HB := n3_
                have HO128 := n4_
                clear n0_ n1_ n2_ n3_ n4_
                clear ho hb hg hat
                refine hK.out _ _ ⟨((HB.out.cell (blt w _ hw121_0)).trans hw121_0), ((HB.out.cell (blt w _ hw121_1)).trans hw121_1), ((HB.out.cell (blt w _ hw121_2)).trans hw121_2), ((HB.out.cell (blt w _ hw121_3)).trans hw121_3), ((HB.out.cell (blt w _ hw121_4)).trans hw121_4), ((HB.out.cell (blt w _ hw121_5)).trans hw121_5), ((HB.out.cell (blt w _ hw122_0)).trans hw122_0), ((HB.out.cell (blt w _ hw122_1)).trans hw122_1), ((HB.out.cell (blt w _ hw122_2)).trans hw122_2), ((HB.out.cell (blt w _ hw122_3)).trans hw122_3), ((HB.out.cell (blt w _ hw122_4)).trans hw122_4), ((HB.out.cell (blt w _ hw122_5)).trans hw122_5)⟩ (fun hHeld => ?_)
                clear hK K
                refine norm_ (a' := ?_) ?_ ?_
                rotate_left
                ·show Act.put _ (some 57) _ = _
                 simp only [Act.put, sI, sZ, sS, i64_w, i32_w]
                 rfl
                refine pure_ (i := 13) (N := some 7) (v := ?_) (a' := ?_) #[true, true, true, true, true, true, true, true, true, true, true, true, true, true] rfl rfl (any_of HT_.out (by kernel_rfl)) (fun _ _ _ h => h) (Or.inl ⟨by rfl, ?_⟩) ?_ ?_
                rotate_left
                ·intro w'
                 go_simp
                 with_reducible rfl
                rotate_left
                ·simp only [Act.put, sI, sZ, sS, i64_w, i32_w]
                 rfl
                refine done_ (done_of HT_.out (by kernel_rfl)) ?_
                try go_wp2
                go_roundg k1
                case measure => have := HK1.out; omega
                case rel => exact ⟨(y115), (y116), (y126), H', ⟨by have := HK1.out; omega⟩, ⟨by (with_reducible repeat (first | apply Kd.R_alloc | apply Kd.R_drewN | apply Kd.R_drew)); exact HO_5.out⟩, ⟨by (with_reducible repeat (first | apply Kd.R_alloc | apply Kd.R_drewN | apply Kd.R_drew)); exact Kd.R_mono HO118.out (fun _ hk => hk.2)⟩, ⟨by (with_reducible repeat (first | apply Kd.R_alloc | apply Kd.R_drewN | apply Kd.R_drew)); exact Kd.R_mono HO128.out (fun _ hk => hk.1)⟩, ⟨by repeat (first | (with_reducible first | exact HB.out | apply ba | apply bn | apply bd) | exact HB.out)⟩⟩
               ·rw [if_neg c33] at H
                exact absurd H (by simp)
             ·rw [if_neg c23] at H
              exact absurd H (by simp)
            ·rw [if_neg c22] at H
             exact absurd H (by simp)
          ·rw [if_neg c15] at H
           exact absurd H (by simp)
         ·rw [if_neg c14] at H
          exact absurd H (by simp)
        ·rw [if_neg c13] at H
         exact absurd H (by simp)
       ·rw [if_neg c12] at H
        exact absurd H (by simp)
      ·rw [if_neg c11] at H
       exact absurd H (by simp)
     ·rw [if_neg c9] at H
      have c9b0 : decide (0 < (x7_1.length : Int)) = false := decide_eq_false c9
      have c9b1 : decide (0 < x7_1.length) = false := decide_eq_false (by omega)
      clear c9
      obtain rfl := Option.some.inj H
      obtain ⟨Ao46, co46, eo46⟩ := Kd.R_slice HO_7.out
      subst eo46
      go_wp2
      go_ret
      exact ⟨_, by first | rfl | (simp [errW_none, errW_some] <;> rfl) | (simp [*, errW_none, errW_some] <;> rfl), by (with_reducible repeat (first | apply Kd.R_alloc | apply Kd.R_drewN | apply Kd.R_drew)); exact Kd.R_mono HO_6.out (fun _ hk => trivial), by repeat (first | (with_reducible first | exact HB.out | apply ba | apply bn | apply bd) | exact HB.out)⟩
  ·rw [if_neg c4] at H
   exact absurd H (by simp)
 ·rw [if_neg c3] at H
  exact absurd H (by simp)
end Go.Proofs.Ytgleaefhflamnaa.T
namespace Go.Proofs.Ytgleaefhflamnaa.T
open Go.RowKit Go.Proofs.YtgleaefhflamnaaW.PrintWords Go.Proofs.YtgleaefhflamnaaW.PrintLast Go.Proofs.YtgleaefhflamnaaW.PrintMore
attribute [local go_sem] max2_int min2_int max_two min_two max_three min_three max_four min_four   -- for this text's walks alone
set_option linter.unusedVariables false
set_option linter.unusedSimpArgs false
def childB (i all : Int) : Bool := decide (1 ≤ i) && decide (i < all)
set_option maxHeartbeats 1000000 in
theorem child_yes (i all : Int) (g : Nat) (w : World) (hc : w.cell? ⟨g, 0, none⟩ = some (.int .i64 all)) (h0 : 1 ≤ i) (h1 : i < all) :
  Calls Try.prog 96 #[.int .i64 i, .pointer (some ⟨g, 0, none⟩)] w fun e w' => e = .returned (.bool true) ∧ w' = w := by
 have d0 : decide (1 ≤ i) = true := decide_eq_true h0
 have d1 : decide (i < all) = true := decide_eq_true h1
 go_enter Try.func96, Try.ntmps96
 go_wp2
 go_ret
 exact ⟨rfl, rfl⟩
set_option maxHeartbeats 1000000 in
theorem child_no1 (i all : Int) (g : Nat) (w : World) (hc : w.cell? ⟨g, 0, none⟩ = some (.int .i64 all)) (h0 : ¬ 1 ≤ i) :
  Calls Try.prog 96 #[.int .i64 i, .pointer (some ⟨g, 0, none⟩)] w fun e w' => e = .returned (.bool false) ∧ w' = w := by
 have d0 : decide (1 ≤ i) = false := decide_eq_false h0
 go_enter Try.func96, Try.ntmps96
 go_wp2
 go_ret
 exact ⟨rfl, rfl⟩
set_option maxHeartbeats 1000000 in
theorem child_no2 (i all : Int) (g : Nat) (w : World) (hc : w.cell? ⟨g, 0, none⟩ = some (.int .i64 all)) (h0 : 1 ≤ i) (h1 : ¬ i < all) :
  Calls Try.prog 96 #[.int .i64 i, .pointer (some ⟨g, 0, none⟩)] w fun e w' => e = .returned (.bool false) ∧ w' = w := by
 have d0 : decide (1 ≤ i) = true := decide_eq_true h0
 have d1 : decide (i < all) = false := decide_eq_false h1
 go_enter Try.func96, Try.ntmps96
 go_wp2
 go_ret
 exact ⟨rfl, rfl⟩
theorem child_any (i all : Int) (g : Nat) (w : World) (hc : w.cell? ⟨g, 0, none⟩ = some (.int .i64 all)) :
  Calls Try.prog 96 #[.int .i64 i, .pointer (some ⟨g, 0, none⟩)] w fun e w' => e = .returned (.bool (childB i all)) ∧ w' = w := by
 unfold childB
 by_cases h0 : 1 ≤ i
 ·by_cases h1 : i < all
  ·simp only [h0, h1, decide_true, Bool.and_self]; exact child_yes i all g w hc h0 h1
  ·simp only [h0, h1, decide_true, decide_false, Bool.and_false]; exact child_no2 i all g w hc h0 h1
 ·simp only [h0, decide_false, Bool.false_and]; exact child_no1 i all g w hc h0
theorem bcell {W w1 : World} (hb : Below W.heap.size W w1) : (∀ b o, b < W.heap.size → w1.cell? ⟨b, o, none⟩ = W.cell? ⟨b, o, none⟩) ∧ (∀ b o, b < W.heap.size → w1.frozen? ⟨b, o, none⟩ = W.frozen? ⟨b, o, none⟩) :=
 ⟨fun b o h => hb.cell (p := ⟨b, o, none⟩) h, fun b o h => hb.frozen (p := ⟨b, o, none⟩) h⟩
def formedB (a0 a1 a2 a3 a4 a5 all : Int) : Bool :=
 if a2 < 0 ∨ 1000000 < a2 ∨ (a1 ≠ 0 ∧ a1 ≠ 1) then false
 else if a1 = 1 ∧ (a0 ≠ 0 ∨ a3 ≠ 0) then false
 else if a4 = -1 ∧ a5 = -1 then true
 else decide (a3 = 0) && childB a4 all && childB a5 all && decide (a4 ≠ a5)
set_option maxHeartbeats 4000000 in
set_option maxRecDepth 100000 in
theorem formed_e1 (a0 a1 a2 a3 a4 a5 all : Int) (w : World) (h : a2 < 0 ∨ 1000000 < a2 ∨ (a1 ≠ 0 ∧ a1 ≠ 1)) :
  Calls Try.prog 74 #[.agg #[.int .i64 a0, .int .i64 a1, .int .i64 a2, .int .i64 a3, .int .i64 a4, .int .i64 a5], .int .i64 all] w fun e w' => e = .returned (.bool false) ∧ Below w.heap.size w w' := by
 have hu34 := Try.underlying34
 by_cases h0 : a2 < 0
 ·clear h
  have d0 : decide (a2 < 0) = true := decide_eq_true h0
  clear h0
  go_enter Try.func74, Try.ntmps74
  go_wp2
  go_ret
  exact ⟨rfl, ((Below.refl _ _).alloc (Nat.le_refl _) _).alloc (by simp) _⟩
 ·have d0 : decide (a2 < 0) = false := decide_eq_false h0
  by_cases h1 : 1000000 < a2
  ·clear h
   have d1 : decide (1000000 < a2) = true := decide_eq_true h1
   clear h0 h1
   go_enter Try.func74, Try.ntmps74
   go_wp2
   go_ret
   exact ⟨rfl, ((Below.refl _ _).alloc (Nat.le_refl _) _).alloc (by simp) _⟩
  ·have d1 : decide (1000000 < a2) = false := decide_eq_false h1
   have d2 : (a1 != 0) = true := by rw [bne_iff_ne]; omega
   have d3 : (a1 != 1) = true := by rw [bne_iff_ne]; omega
   clear h0 h1 h
   go_enter Try.func74, Try.ntmps74
   go_wp2
   go_ret
   exact ⟨rfl, ((Below.refl _ _).alloc (Nat.le_refl _) _).alloc (by simp) _⟩
set_option maxHeartbeats 4000000 in
set_option maxRecDepth 100000 in
theorem formed_e2 (a0 a1 a2 a3 a4 a5 all : Int) (w : World) (h0 : 0 ≤ a2) (h1 : a2 ≤ 1000000) (h2 : a1 = 1) (h3 : a0 ≠ 0 ∨ a3 ≠ 0) :
  Calls Try.prog 74 #[.agg #[.int .i64 a0, .int .i64 a1, .int .i64 a2, .int .i64 a3, .int .i64 a4, .int .i64 a5], .int .i64 all] w fun e w' => e = .returned (.bool false) ∧ Below w.heap.size w w' := by
 have hu34 := Try.underlying34
 have d0 : decide (a2 < 0) = false := decide_eq_false (by omega)
 have d1 : decide (1000000 < a2) = false := decide_eq_false (by omega)
 subst h2
 clear h0 h1
 by_cases h4 : a0 = 0
 ·have d4 : (a0 != 0) = false := by simp [h4]
  have d5 : (a3 != 0) = true := by rw [bne_iff_ne]; omega
  clear h4 h3
  go_enter Try.func74, Try.ntmps74
  go_wp2
  go_ret
  exact ⟨rfl, ((Below.refl _ _).alloc (Nat.le_refl _) _).alloc (by simp) _⟩
 ·have d4 : (a0 != 0) = true := by rw [bne_iff_ne]; omega
  clear h4 h3
  go_enter Try.func74, Try.ntmps74
  go_wp2
  go_ret
  exact ⟨rfl, ((Below.refl _ _).alloc (Nat.le_refl _) _).alloc (by simp) _⟩
set_option maxHeartbeats 4000000 in
set_option maxRecDepth 100000 in
theorem formed_rest (a0 a1 a2 a3 a4 a5 all : Int) (b : Bool) (w : World) (h0 : 0 ≤ a2) (h1 : a2 ≤ 1000000)
  (h4 : table_isLeaf.f a0 a1 a2 a3 a4 a5 = some b)
  (h2 : (a1 = 1 ∧ a0 = 0 ∧ a3 = 0) ∨ a1 = 0) :
  Calls Try.prog 74 #[.agg #[.int .i64 a0, .int .i64 a1, .int .i64 a2, .int .i64 a3, .int .i64 a4, .int .i64 a5], .int .i64 all] w fun e w' => e = .returned (.bool (b || (decide (a3 = 0) && childB a4 all && childB a5 all && decide (a4 ≠ a5)))) ∧ Below w.heap.size w w' := by
 have hu34 := Try.underlying34
 have d0 : decide (a2 < 0) = false := decide_eq_false (by omega)
 have d1 : decide (1000000 < a2) = false := decide_eq_false (by omega)
 clear h0 h1
 have H4 := Am h4
 clear h4
 cases b with
 | true =>
  rw [Bool.true_or]
  rcases h2 with ⟨rfl, rfl, rfl⟩ | rfl
  all_goals
   go_enter Try.func74, Try.ntmps74
   go_wp2_with (fail)
   refine (table_isLeaf.calls _ _ _ _ _ _ _ _ H4.out).mono ?_
   rintro e w' ⟨rfl, hb⟩
   go_wp2
   go_ret
   exact ⟨rfl, (((Below.refl _ _).alloc (Nat.le_refl _) _).alloc (by simp) _).trans (hb.mono (by simp; omega))⟩
 | false =>
  rw [Bool.false_or]
  rcases h2 with ⟨rfl, rfl, rfl⟩ | rfl
  ·have e5 : decide ((0:Int) = 0) = true := rfl
   rw [e5, Bool.true_and]
   clear e5
   cases h6 : childB a4 all with
   | false =>
    have h6' := Am h6
    clear h6
    rw [Bool.false_and, Bool.false_and]
    go_enter Try.func74, Try.ntmps74
    go_wp2_with (fail)
    refine (table_isLeaf.calls _ _ _ _ _ _ _ _ H4.out).mono ?_
    rintro e w' ⟨rfl, hb⟩
    obtain ⟨hc, hf⟩ := bcell hb
    have hz : w.heap.size + 2 ≤ w'.heap.size := by have := hb.size; simpa using this
    have hc0 : w'.cell? ⟨w.heap.size + 1, 0, none⟩ = some (.int .i64 all) := (hc _ _ (by simp)).trans (World.cell?_alloc_at _ _ _ _ (by simp))
    have hfin : Below w.heap.size w w' := (((Below.refl _ _).alloc (Nat.le_refl _) _).alloc (by simp) _).trans (hb.mono (by simp; omega))
    have HF := Am hfin
    clear hb hfin
    go_wp2_with (fail)
    refine (child_any _ all (w.heap.size + 1) _ hc0).mono ?_
    rw [h6'.out]
    rintro e w1 ⟨rfl, rfl⟩
    go_wp2
    go_ret
    exact ⟨rfl, HF.out⟩
   | true =>
    have h6' := Am h6
    clear h6
    rw [Bool.true_and]
    cases h7 : childB a5 all with
    | false =>
     have h7' := Am h7
     clear h7
     rw [Bool.false_and]
     go_enter Try.func74, Try.ntmps74
     go_wp2_with (fail)
     refine (table_isLeaf.calls _ _ _ _ _ _ _ _ H4.out).mono ?_
     rintro e w' ⟨rfl, hb⟩
     obtain ⟨hc, hf⟩ := bcell hb
     have hz : w.heap.size + 2 ≤ w'.heap.size := by have := hb.size; simpa using this
     have hc0 : w'.cell? ⟨w.heap.size + 1, 0, none⟩ = some (.int .i64 all) := (hc _ _ (by simp)).trans (World.cell?_alloc_at _ _ _ _ (by simp))
     have hfin : Below w.heap.size w w' := (((Below.refl _ _).alloc (Nat.le_refl _) _).alloc (by simp) _).trans (hb.mono (by simp; omega))
     have HF := Am hfin
     clear hb hfin
     go_wp2_with (fail)
     refine (child_any _ all (w.heap.size + 1) _ hc0).mono ?_
     rw [h6'.out]
     rintro e w1 ⟨rfl, rfl⟩
     go_wp2_with (fail)
     refine (child_any _ all (w.heap.size + 1) _ hc0).mono ?_
     rw [h7'.out]
     rintro e w1 ⟨rfl, rfl⟩
     go_wp2
     go_ret
     exact ⟨rfl, HF.out⟩
    | true =>
     have h7' := Am h7
     clear h7
     rw [Bool.true_and]
     by_cases h8 : a4 = a5
     ·have d8 : (a4 != a5) = false := by simp [h8]
      have e8 : decide (a4 ≠ a5) = false := decide_eq_false (by simp [h8])
      rw [e8]
      clear e8 h8
      go_enter Try.func74, Try.ntmps74
      go_wp2_with (fail)
      refine (table_isLeaf.calls _ _ _ _ _ _ _ _ H4.out).mono ?_
      rintro e w' ⟨rfl, hb⟩
      obtain ⟨hc, hf⟩ := bcell hb
      have hz : w.heap.size + 2 ≤ w'.heap.size := by have := hb.size; simpa using this
      have hc0 : w'.cell? ⟨w.heap.size + 1, 0, none⟩ = some (.int .i64 all) := (hc _ _ (by simp)).trans (World.cell?_alloc_at _ _ _ _ (by simp))
      have hfin : Below w.heap.size w w' := (((Below.refl _ _).alloc (Nat.le_refl _) _).alloc (by simp) _).trans (hb.mono (by simp; omega))
      have HF := Am hfin
      clear hb hfin
      go_wp2_with (fail)
      refine (child_any _ all (w.heap.size + 1) _ hc0).mono ?_
      rw [h6'.out]
      rintro e w1 ⟨rfl, rfl⟩
      go_wp2_with (fail)
      refine (child_any _ all (w.heap.size + 1) _ hc0).mono ?_
      rw [h7'.out]
      rintro e w1 ⟨rfl, rfl⟩
      go_wp2
      go_ret
      exact ⟨rfl, HF.out⟩
     ·have d8 : (a4 != a5) = true := by simp [h8]
      have e8 : decide (a4 ≠ a5) = true := decide_eq_true h8
      rw [e8]
      clear e8 h8
      go_enter Try.func74, Try.ntmps74
      go_wp2_with (fail)
      refine (table_isLeaf.calls _ _ _ _ _ _ _ _ H4.out).mono ?_
      rintro e w' ⟨rfl, hb⟩
      obtain ⟨hc, hf⟩ := bcell hb
      have hz : w.heap.size + 2 ≤ w'.heap.size := by have := hb.size; simpa using this
      have hc0 : w'.cell? ⟨w.heap.size + 1, 0, none⟩ = some (.int .i64 all) := (hc _ _ (by simp)).trans (World.cell?_alloc_at _ _ _ _ (by simp))
      have hfin : Below w.heap.size w w' := (((Below.refl _ _).alloc (Nat.le_refl _) _).alloc (by simp) _).trans (hb.mono (by simp; omega))
      have HF := Am hfin
      clear hb hfin
      go_wp2_with (fail)
      refine (child_any _ all (w.heap.size + 1) _ hc0).mono ?_
      rw [h6'.out]
      rintro e w1 ⟨rfl, rfl⟩
      go_wp2_with (fail)
      refine (child_any _ all (w.heap.size + 1) _ hc0).mono ?_
      rw [h7'.out]
      rintro e w1 ⟨rfl, rfl⟩
      go_wp2
      go_ret
      exact ⟨rfl, HF.out⟩
  ·by_cases h5 : a3 = 0
   ·have d5 : (a3 == 0) = true := by simp [h5]
    have e5 : decide (a3 = 0) = true := decide_eq_true h5
    rw [e5, Bool.true_and]
    clear e5 h5
    cases h6 : childB a4 all with
    | false =>
     have h6' := Am h6
     clear h6
     rw [Bool.false_and, Bool.false_and]
     go_enter Try.func74, Try.ntmps74
     go_wp2_with (fail)
     refine (table_isLeaf.calls _ _ _ _ _ _ _ _ H4.out).mono ?_
     rintro e w' ⟨rfl, hb⟩
     obtain ⟨hc, hf⟩ := bcell hb
     have hz : w.heap.size + 2 ≤ w'.heap.size := by have := hb.size; simpa using this
     have hc0 : w'.cell? ⟨w.heap.size + 1, 0, none⟩ = some (.int .i64 all) := (hc _ _ (by simp)).trans (World.cell?_alloc_at _ _ _ _ (by simp))
     have hfin : Below w.heap.size w w' := (((Below.refl _ _).alloc (Nat.le_refl _) _).alloc (by simp) _).trans (hb.mono (by simp; omega))
     have HF := Am hfin
     clear hb hfin
     go_wp2_with (fail)
     refine (child_any _ all (w.heap.size + 1) _ hc0).mono ?_
     rw [h6'.out]
     rintro e w1 ⟨rfl, rfl⟩
     go_wp2
     go_ret
     exact ⟨rfl, HF.out⟩
    | true =>
     have h6' := Am h6
     clear h6
     rw [Bool.true_and]
     cases h7 : childB a5 all with
     | false =>
      have h7' := Am h7
      clear h7
      rw [Bool.false_and]
      go_enter Try.func74, Try.ntmps74
      go_wp2_with (fail)
      refine (table_isLeaf.calls _ _ _ _ _ _ _ _ H4.out).mono ?_
      rintro e w' ⟨rfl, hb⟩
      obtain ⟨hc, hf⟩ := bcell hb
      have hz : w.heap.size + 2 ≤ w'.heap.size := by have := hb.size; simpa using this
      have hc0 : w'.cell? ⟨w.heap.size + 1, 0, none⟩ = some (.int .i64 all) := (hc _ _ (by simp)).trans (World.cell?_alloc_at _ _ _ _ (by simp))
      have hfin : Below w.heap.size w w' := (((Below.refl _ _).alloc (Nat.le_refl _) _).alloc (by simp) _).trans (hb.mono (by simp; omega))
      have HF := Am hfin
      clear hb hfin
      go_wp2_with (fail)
      refine (child_any _ all (w.heap.size + 1) _ hc0).mono ?_
      rw [h6'.out]
      rintro e w1 ⟨rfl, rfl⟩
      go_wp2_with (fail)
      refine (child_any _ all (w.heap.size + 1) _ hc0).mono ?_
      rw [h7'.out]
      rintro e w1 ⟨rfl, rfl⟩
      go_wp2
      go_ret
      exact ⟨rfl, HF.out⟩
     | true =>
      have h7' := Am h7
      clear h7
      rw [Bool.true_and]
      by_cases h8 : a4 = a5
      ·have d8 : (a4 != a5) = false := by simp [h8]
       have e8 : decide (a4 ≠ a5) = false := decide_eq_false (by simp [h8])
       rw [e8]
       clear e8 h8
       go_enter Try.func74, Try.ntmps74
       go_wp2_with (fail)
       refine (table_isLeaf.calls _ _ _ _ _ _ _ _ H4.out).mono ?_
       rintro e w' ⟨rfl, hb⟩
       obtain ⟨hc, hf⟩ := bcell hb
       have hz : w.heap.size + 2 ≤ w'.heap.size := by have := hb.size; simpa using this
       have hc0 : w'.cell? ⟨w.heap.size + 1, 0, none⟩ = some (.int .i64 all) := (hc _ _ (by simp)).trans (World.cell?_alloc_at _ _ _ _ (by simp))
       have hfin : Below w.heap.size w w' := (((Below.refl _ _).alloc (Nat.le_refl _) _).alloc (by simp) _).trans (hb.mono (by simp; omega))
       have HF := Am hfin
       clear hb hfin
       go_wp2_with (fail)
       refine (child_any _ all (w.heap.size + 1) _ hc0).mono ?_
       rw [h6'.out]
       rintro e w1 ⟨rfl, rfl⟩
       go_wp2_with (fail)
       refine (child_any _ all (w.heap.size + 1) _ hc0).mono ?_
       rw [h7'.out]
       rintro e w1 ⟨rfl, rfl⟩
       go_wp2
       go_ret
       exact ⟨rfl, HF.out⟩
      ·have d8 : (a4 != a5) = true := by simp [h8]
       have e8 : decide (a4 ≠ a5) = true := decide_eq_true h8
       rw [e8]
       clear e8 h8
       go_enter Try.func74, Try.ntmps74
       go_wp2_with (fail)
       refine (table_isLeaf.calls _ _ _ _ _ _ _ _ H4.out).mono ?_
       rintro e w' ⟨rfl, hb⟩
       obtain ⟨hc, hf⟩ := bcell hb
       have hz : w.heap.size + 2 ≤ w'.heap.size := by have := hb.size; simpa using this
       have hc0 : w'.cell? ⟨w.heap.size + 1, 0, none⟩ = some (.int .i64 all) := (hc _ _ (by simp)).trans (World.cell?_alloc_at _ _ _ _ (by simp))
       have hfin : Below w.heap.size w w' := (((Below.refl _ _).alloc (Nat.le_refl _) _).alloc (by simp) _).trans (hb.mono (by simp; omega))
       have HF := Am hfin
       clear hb hfin
       go_wp2_with (fail)
       refine (child_any _ all (w.heap.size + 1) _ hc0).mono ?_
       rw [h6'.out]
       rintro e w1 ⟨rfl, rfl⟩
       go_wp2_with (fail)
       refine (child_any _ all (w.heap.size + 1) _ hc0).mono ?_
       rw [h7'.out]
       rintro e w1 ⟨rfl, rfl⟩
       go_wp2
       go_ret
       exact ⟨rfl, HF.out⟩
   ·have d5 : (a3 == 0) = false := by simp [h5]
    have e5 : decide (a3 = 0) = false := decide_eq_false h5
    rw [e5, Bool.false_and, Bool.false_and, Bool.false_and]
    clear e5 h5
    go_enter Try.func74, Try.ntmps74
    go_wp2_with (fail)
    refine (table_isLeaf.calls _ _ _ _ _ _ _ _ H4.out).mono ?_
    rintro e w' ⟨rfl, hb⟩
    obtain ⟨hc, hf⟩ := bcell hb
    have hz : w.heap.size + 2 ≤ w'.heap.size := by have := hb.size; simpa using this
    have hc0 : w'.cell? ⟨w.heap.size + 1, 0, none⟩ = some (.int .i64 all) := (hc _ _ (by simp)).trans (World.cell?_alloc_at _ _ _ _ (by simp))
    have hfin : Below w.heap.size w w' := (((Below.refl _ _).alloc (Nat.le_refl _) _).alloc (by simp) _).trans (hb.mono (by simp; omega))
    have HF := Am hfin
    clear hb hfin
    go_wp2
    go_ret
    exact ⟨rfl, HF.out⟩
def table_formed.f (a0_0 a0_1 a0_2 a0_3 a0_4 a0_5 a1 : Int) : Option Bool := some (formedB a0_0 a0_1 a0_2 a0_3 a0_4 a0_5 a1)
theorem table_formed.calls (a0_0 a0_1 a0_2 a0_3 a0_4 a0_5 a1 : Int) (r : Bool) (w : World) (h : table_formed.f a0_0 a0_1 a0_2 a0_3 a0_4 a0_5 a1 = some r) :
  Calls Try.prog 74 #[.agg #[.int .i64 a0_0, .int .i64 a0_1, .int .i64 a0_2, .int .i64 a0_3, .int .i64 a0_4, .int .i64 a0_5], .int .i64 a1] w fun e w' => e = .returned (.bool r) ∧ Below w.heap.size w w' := by
 obtain rfl := Option.some.inj h
 by_cases h1 : a0_2 < 0 ∨ 1000000 < a0_2 ∨ (a0_1 ≠ 0 ∧ a0_1 ≠ 1)
 ·rw [show formedB a0_0 a0_1 a0_2 a0_3 a0_4 a0_5 a1 = false from by rw [formedB, if_pos h1]]
  exact formed_e1 _ _ _ _ _ _ _ _ h1
 ·by_cases h2 : a0_1 = 1 ∧ (a0_0 ≠ 0 ∨ a0_3 ≠ 0)
  ·rw [show formedB a0_0 a0_1 a0_2 a0_3 a0_4 a0_5 a1 = false from by rw [formedB, if_neg h1, if_pos h2]]
   exact formed_e2 _ _ _ _ _ _ _ _ (by omega) (by omega) h2.1 h2.2
  ·have e : formedB a0_0 a0_1 a0_2 a0_3 a0_4 a0_5 a1 = (decide (a0_4 = -1 ∧ a0_5 = -1) || (decide (a0_3 = 0) && childB a0_4 a1 && childB a0_5 a1 && decide (a0_4 ≠ a0_5))) := by
    rw [formedB, if_neg h1, if_neg h2]
    split <;> simp [*]
   rw [e]
   refine formed_rest _ _ _ _ _ _ _ _ _ (by omega) (by omega) ?_ (by omega)
   unfold table_isLeaf.f
   split
   ·rename_i h4; simp [h4]
    by_cases h5 : a0_5 = -1 <;> simp [h5]
   ·rename_i h4; simp [h4]
def table_Check.l0 : Nat → List (S34) → List (S34) → Int → Int → Option (Int)
 | 0, _, _, _, _ => none
 | k + 1, x0, x13, x14, x15 => if x15 < x14 then (if 0 ≤ x15 then (if x15 < (x13.length : Int) then ((table_formed.f ((rd_T34 x13 x15).f0) ((rd_T34 x13 x15).f1) ((rd_T34 x13 x15).f2) ((rd_T34 x13 x15).f3) ((rd_T34 x13 x15).f4) ((rd_T34 x13 x15).f5) (x0.length : Int)).bind fun t131 => (if t131 = true then (table_Check.l0 k x0 x13 x14 (wrap64 (x15 + 1))) else (some 3))) else (none)) else (none)) else ((table_order.f k x0 0).bind fun t132 => (if (t132.length : Int) = (x0.length : Int) then (some 0) else (some 3)))
def table_Check.f (k : Nat) (l0 : List (S34)) : Option (Int) := if (l0.length : Int) > 100000 then (some 2) else (if (l0.length : Int) = 0 then (some 3) else (table_Check.l0 k l0 l0 (l0.length : Int) 0))
theorem table_Check.mono_l : ∀ k, (∀ y0 y1 y2 y3, LeO (table_Check.l0 k y0 y1 y2 y3) (table_Check.l0 (k + 1) y0 y1 y2 y3))
 | 0 => fun _ _ _ _ r h => by simp [table_Check.l0] at h
 | k + 1 => by
  have ih0 := table_Check.mono_l k
  ·intro y0 y1 y2 y3
   unfold table_Check.l0
   repeat' first
   | (with_reducible exact ih0 _ _ _ _)
   | (with_reducible exact table_order.mono _ _ _)
   | (with_reducible exact LeO.refl _)
   | (with_reducible exact LeO.none _)
   | (with_reducible refine LeO.ite ?_ ?_)
   | (with_reducible refine LeO.bind ?_ (fun _ => ?_))
   | exact ih0 _ _ _ _
   | exact table_order.mono _ _ _
   | exact LeO.none _
   | refine LeO.ite ?_ ?_
   | refine LeO.bind ?_ (fun _ => ?_)
theorem table_Check.mono : ∀ a0 k, LeO (table_Check.f k a0) (table_Check.f (k + 1) a0) := by
 intro a0 k
 have ih0 := table_Check.mono_l k
 unfold table_Check.f
 repeat' first
   | (with_reducible exact ih0 _ _ _ _)
   | (with_reducible exact table_order.mono _ _ _)
   | (with_reducible exact LeO.refl _)
   | (with_reducible exact LeO.none _)
   | (with_reducible refine LeO.ite ?_ ?_)
   | (with_reducible refine LeO.bind ?_ (fun _ => ?_))
   | exact ih0 _ _ _ _
   | exact table_order.mono _ _ _
   | exact LeO.none _
   | refine LeO.ite ?_ ?_
   | refine LeO.bind ?_ (fun _ => ?_)
set_option maxHeartbeats 8000000 in
set_option maxRecDepth 100000 in
theorem table_Check.calls (k : Nat) (A0 : Option Addr) (c0 : Nat) (l0 : List (S34)) (r : Int) (w : World) (hr0 : Kd.C k34 w A0 l0.length l0) (hc0 : l0.length ≤ c0) (h : table_Check.f k l0 = some r) :
  Calls Try.prog 41 #[.slice A0 l0.length c0] w fun e w' => e = .returned (.int .i64 r) ∧ Below w.heap.size w w' := by
 have hu34 := Try.underlying34
 have HR0 := Am hr0
 have HC0 := Am hc0
 clear hr0 hc0
 have HB := Am (Below.refl w.heap.size w)
 have H : (if (l0.length : Int) > 100000 then (some 2) else (if (l0.length : Int) = 0 then (some 3) else (table_Check.l0 k l0 l0 (l0.length : Int) 0))) = some r := h
 clear h
 by_cases c2 : (l0.length : Int) > 100000
 ·rw [if_pos c2] at H
  have c2b0 : decide (100000 < (l0.length : Int)) = true := decide_eq_true c2
  have c2b1 : decide (100000 < l0.length) = true := decide_eq_true (by omega)
  clear c2
  obtain rfl := Option.some.inj H
  go_enter Try.func41, Try.ntmps41
  go_wp2
  go_ret
  exact ⟨by first | rfl | (simp [errW_none, errW_some] <;> rfl) | (simp [*, errW_none, errW_some] <;> rfl), by repeat (first | (with_reducible first | exact HB.out | apply ba | apply bn | apply bd) | exact HB.out)⟩
 ·rw [if_neg c2] at H
  have c2b0 : decide (100000 < (l0.length : Int)) = false := decide_eq_false c2
  have c2b1 : decide (100000 < l0.length) = false := decide_eq_false (by omega)
  clear c2
  by_cases c3 : (l0.length : Int) = 0
  ·rw [if_pos c3] at H
   have c3b0 : ((l0.length : Int) == 0) = true := beq_iff_eq.mpr c3
   have c3b1 : ((l0.length : Int) != 0) = false := bne_eq_false_iff_eq.mpr c3
   clear c3
   obtain rfl := Option.some.inj H
   go_enter Try.func41, Try.ntmps41
   go_wp2
   go_ret
   exact ⟨by first | rfl | (simp [errW_none, errW_some] <;> rfl) | (simp [*, errW_none, errW_some] <;> rfl), by repeat (first | (with_reducible first | exact HB.out | apply ba | apply bn | apply bd) | exact HB.out)⟩
  ·rw [if_neg c3] at H
   have c3b0 : ((l0.length : Int) == 0) = false := beq_eq_false_iff_ne.mpr c3
   have c3b1 : ((l0.length : Int) != 0) = true := bne_iff_ne.mpr c3
   have c3b2 : ¬ (l0 = []) := fun h_ => c3 (by rw [h_]; rfl)
   have H' := Am H
   clear H
   go_enter Try.func41, Try.ntmps41
   go_wp2
   go_loopg [15] k (fun kq v15 w' => ∃ (x15_1 : Int), v15 = .int .i64 x15_1 ∧ Aside0 (table_Check.l0 kq l0 l0 (l0.length : Int) x15_1 = some r) ∧ Aside0 (kq ≤ k) ∧ Aside0 (Below w.heap.size w w'))
   case atStart => exact ⟨(0), (by first | rfl | (simp; done) | (simp [*]; done)), H', ⟨Nat.le_refl _⟩, ⟨by repeat (first | (with_reducible first | exact HB.out | apply ba | apply bn | apply bd) | exact HB.out)⟩⟩
   case round =>
    clear H'
    try clear c2
    try clear c2b0
    try clear c2b1
    try clear p2
    try clear c3
    try clear c3b0
    try clear c3b1
    try clear c3b2
    obtain ⟨x15_1, rfl, HA, HK1, HB⟩ := hrel
    cases gk with
    | zero => exact absurd HA.out (by simp [table_Check.l0])
    | succ k1 =>
     have H := HA.out
     clear HA
     simp only [table_Check.l0] at H
     by_cases c4 : x15_1 < (l0.length : Int)
     ·rw [if_pos c4] at H
      have c4b0 : decide (x15_1 < (l0.length : Int)) = true := decide_eq_true c4
      clear c4
      by_cases c5 : 0 ≤ x15_1
      ·rw [if_pos c5] at H
       have c5b0 : decide (0 ≤ x15_1) = true := decide_eq_true c5
       clear c5
       by_cases c6 : x15_1 < (l0.length : Int)
       ·rw [if_pos c6] at H
        have c6b0 : decide (x15_1 < (l0.length : Int)) = true := decide_eq_true c6
        clear c6
        replace H := Option.bind_eq_some_iff.mp H
        obtain ⟨t131, A70, H⟩ := H
        replace H : (if t131 = true then (table_Check.l0 k1 l0 l0 (l0.length : Int) (wrap64 (x15_1 + 1))) else (some 3)) = some r := H
        have A7 := Am A70
        clear A70
        by_cases c8 : t131 = true
        ·subst c8
         have H1 : (table_Check.l0 k1 l0 l0 (l0.length : Int) (wrap64 (x15_1 + 1))) = some r := by rw [if_pos rfl] at H; exact H
         clear H
         have H := H1
         clear H1
         have H' := Am H
         clear H
         have p129 : 0 ≤ (x15_1 : Int) := of_decide_eq_true (by first | (with_reducible assumption) | assumption)
         have q129 : x15_1 < (l0.length : Int) := of_decide_eq_true (by first | (with_reducible assumption) | assumption)
         obtain ⟨ad129, e129, hx129_0, hx129_1, hx129_2, hx129_3, hx129_4, hx129_5⟩ := at_T34 HR0.out x15_1 p129 q129
         cases e129
         replace hx129_0 := (HB.out.cell (blt w _ hx129_0)).trans hx129_0
         replace hx129_1 := (HB.out.cell (blt w _ hx129_1)).trans hx129_1
         replace hx129_2 := (HB.out.cell (blt w _ hx129_2)).trans hx129_2
         replace hx129_3 := (HB.out.cell (blt w _ hx129_3)).trans hx129_3
         replace hx129_4 := (HB.out.cell (blt w _ hx129_4)).trans hx129_4
         replace hx129_5 := (HB.out.cell (blt w _ hx129_5)).trans hx129_5
         replace p129 := eq_true p129
         replace q129 := eq_true q129
         go_wp2_with (first | ((with_reducible refine gate_dst (N := 4) rfl ?_); refine box_event ?hg (N := 4) ?hd (cs := #[.int .i64 0, .int .i64 0, .int .i64 0, .int .i64 0, .int .i64 0, .int .i64 0]) (t := 34) ?hr ?_; (case hd => rfl); (case hg => rfl); (case hr => first | (go_simp; done) | (go_simp; rfl)); intro gb130 hg w9 hbox hb; have n0_ := Am (below_step (by repeat (first | (with_reducible first | exact HB.out | apply ba | apply bn | apply bd) | exact HB.out)) hb); have n1_ := Am (hbox); have n2_ := Am ((by rw [hg]; exact (below_size (by repeat (first | (with_reducible first | exact HB.out | apply ba | apply bn | apply bd) | exact HB.out))) : w.heap.size ≤ gb130)); have n3_ := Am ((by rw [hg]; exact (below_size (by repeat (first | (with_reducible first | exact HB.out | apply ba | apply bn | apply bd) | exact HB.out))) : w.heap.size ≤ gb130)); clear HB; have HB := n0_; have BK130 := n1_; have GW130 := n2_; have GE130 := n3_; clear n0_ n1_ n2_ n3_; clear hb hbox hg; have hcz10_0 : w9.cell? ⟨gb130, 0, none⟩ = some (.int .i64 0) := (blk_cell BK130.out 0).trans rfl; have hcz10_1 : w9.cell? ⟨gb130, 1, none⟩ = some (.int .i64 0) := (blk_cell BK130.out 1).trans rfl; have hcz10_2 : w9.cell? ⟨gb130, 2, none⟩ = some (.int .i64 0) := (blk_cell BK130.out 2).trans rfl; have hcz10_3 : w9.cell? ⟨gb130, 3, none⟩ = some (.int .i64 0) := (blk_cell BK130.out 3).trans rfl; have hcz10_4 : w9.cell? ⟨gb130, 4, none⟩ = some (.int .i64 0) := (blk_cell BK130.out 4).trans rfl; have hcz10_5 : w9.cell? ⟨gb130, 5, none⟩ = some (.int .i64 0) := (blk_cell BK130.out 5).trans rfl; have hfz10_0 := blk_frozen BK130.out 0; have hfz10_1 := blk_frozen BK130.out 1; have hfz10_2 := blk_frozen BK130.out 2; have hfz10_3 := blk_frozen BK130.out 3; have hfz10_4 := blk_frozen BK130.out 4; have hfz10_5 := blk_frozen BK130.out 5) | ((with_reducible refine gate_callee (f := 74) rfl ?_); refine goesL_ (some 22) rfl rfl Try.func74 (by kernel_rfl) rfl #[.agg #[.int .i64 ((rd_T34 l0 x15_1).f0), .int .i64 ((rd_T34 l0 x15_1).f1), .int .i64 ((rd_T34 l0 x15_1).f2), .int .i64 ((rd_T34 l0 x15_1).f3), .int .i64 ((rd_T34 l0 x15_1).f4), .int .i64 ((rd_T34 l0 x15_1).f5)], .int .i64 (l0.length : Int)] rfl (by (try simp only [List.map_toArray, List.map_cons, List.map_nil]); first | done | rfl | (simp only [List.length_drop, List.length_take]; rfl)) ?_; (with_reducible refine (table_formed.calls ((rd_T34 l0 x15_1).f0) ((rd_T34 l0 x15_1).f1) ((rd_T34 l0 x15_1).f2) ((rd_T34 l0 x15_1).f3) ((rd_T34 l0 x15_1).f4) ((rd_T34 l0 x15_1).f5) (l0.length : Int) true _ A7.out).mono ?_); rintro e w11 ⟨rfl, hb⟩; refine ⟨_, rfl, ?_⟩; have n0_ := Am (blk_below (g := gb130) (o := .cells #[.int .i64 ((rd_T34 l0 x15_1).f0), .int .i64 ((rd_T34 l0 x15_1).f1), .int .i64 ((rd_T34 l0 x15_1).f2), .int .i64 ((rd_T34 l0 x15_1).f3), .int .i64 ((rd_T34 l0 x15_1).f4), .int .i64 ((rd_T34 l0 x15_1).f5)] 34 (0, 0)) (by (with_reducible repeat (first | refine blk_drewN ?_ _ | refine blk_drew ?_ | refine blk_alloc ?_ _)); refine blk_put (cs := #[.int .i64 ((rd_T34 l0 x15_1).f0), .int .i64 ((rd_T34 l0 x15_1).f1), .int .i64 ((rd_T34 l0 x15_1).f2), .int .i64 ((rd_T34 l0 x15_1).f3), .int .i64 ((rd_T34 l0 x15_1).f4), .int .i64 0]) ?_ 5 _ rfl; (with_reducible repeat (first | refine blk_drewN ?_ _ | refine blk_drew ?_ | refine blk_alloc ?_ _)); refine blk_put (cs := #[.int .i64 ((rd_T34 l0 x15_1).f0), .int .i64 ((rd_T34 l0 x15_1).f1), .int .i64 ((rd_T34 l0 x15_1).f2), .int .i64 ((rd_T34 l0 x15_1).f3), .int .i64 0, .int .i64 0]) ?_ 4 _ rfl; (with_reducible repeat (first | refine blk_drewN ?_ _ | refine blk_drew ?_ | refine blk_alloc ?_ _)); refine blk_put (cs := #[.int .i64 ((rd_T34 l0 x15_1).f0), .int .i64 ((rd_T34 l0 x15_1).f1), .int .i64 ((rd_T34 l0 x15_1).f2), .int .i64 0, .int .i64 0, .int .i64 0]) ?_ 3 _ rfl; (with_reducible repeat (first | refine blk_drewN ?_ _ | refine blk_drew ?_ | refine blk_alloc ?_ _)); refine blk_put (cs := #[.int .i64 ((rd_T34 l0 x15_1).f0), .int .i64 ((rd_T34 l0 x15_1).f1), .int .i64 0, .int .i64 0, .int .i64 0, .int .i64 0]) ?_ 2 _ rfl; (with_reducible repeat (first | refine blk_drewN ?_ _ | refine blk_drew ?_ | refine blk_alloc ?_ _)); refine blk_put (cs := #[.int .i64 ((rd_T34 l0 x15_1).f0), .int .i64 0, .int .i64 0, .int .i64 0, .int .i64 0, .int .i64 0]) ?_ 1 _ rfl; (with_reducible repeat (first | refine blk_drewN ?_ _ | refine blk_drew ?_ | refine blk_alloc ?_ _)); refine blk_put (cs := #[.int .i64 0, .int .i64 0, .int .i64 0, .int .i64 0, .int .i64 0, .int .i64 0]) ?_ 0 _ rfl; (with_reducible repeat (first | refine blk_drewN ?_ _ | refine blk_drew ?_ | refine blk_alloc ?_ _)); exact BK130.out) hb); have n1_ := Am (below_step (by repeat (first | (with_reducible first | exact HB.out | apply ba | apply bn | apply bd | refine below_set ?_ GE130.out) | exact HB.out)) hb); clear BK130; clear HB; have BK130 := n0_; have HB := n1_; clear n0_ n1_; (try clear hb); (try clear hb2); (try clear hk); (try clear hi)))
         go_roundg k1
         case measure => have := HK1.out; omega
         case rel => exact ⟨(wrap64 (x15_1 + 1)), (by first | rfl | (simp; done) | (simp [*]; done)), H', ⟨by have := HK1.out; omega⟩, ⟨by repeat (first | (with_reducible first | exact HB.out | apply ba | apply bn | apply bd | refine below_set ?_ GE130.out) | exact HB.out)⟩⟩
        ·replace c8 := Bool.eq_false_iff.mpr c8
         subst c8
         have H1 : (some 3) = some r := by rw [if_neg (show ¬ (false = true) by decide)] at H; exact H
         clear H
         have H := H1
         clear H1
         obtain rfl := Option.some.inj H
         have p129 : 0 ≤ (x15_1 : Int) := of_decide_eq_true (by first | (with_reducible assumption) | assumption)
         have q129 : x15_1 < (l0.length : Int) := of_decide_eq_true (by first | (with_reducible assumption) | assumption)
         obtain ⟨ad129, e129, hx129_0, hx129_1, hx129_2, hx129_3, hx129_4, hx129_5⟩ := at_T34 HR0.out x15_1 p129 q129
         cases e129
         replace hx129_0 := (HB.out.cell (blt w _ hx129_0)).trans hx129_0
         replace hx129_1 := (HB.out.cell (blt w _ hx129_1)).trans hx129_1
         replace hx129_2 := (HB.out.cell (blt w _ hx129_2)).trans hx129_2
         replace hx129_3 := (HB.out.cell (blt w _ hx129_3)).trans hx129_3
         replace hx129_4 := (HB.out.cell (blt w _ hx129_4)).trans hx129_4
         replace hx129_5 := (HB.out.cell (blt w _ hx129_5)).trans hx129_5
         replace p129 := eq_true p129
         replace q129 := eq_true q129
         go_wp2_with (first | ((with_reducible refine gate_dst (N := 4) rfl ?_); refine box_event ?hg (N := 4) ?hd (cs := #[.int .i64 0, .int .i64 0, .int .i64 0, .int .i64 0, .int .i64 0, .int .i64 0]) (t := 34) ?hr ?_; (case hd => rfl); (case hg => rfl); (case hr => first | (go_simp; done) | (go_simp; rfl)); intro gb130 hg w12 hbox hb; have n0_ := Am (below_step (by repeat (first | (with_reducible first | exact HB.out | apply ba | apply bn | apply bd) | exact HB.out)) hb); have n1_ := Am (hbox); have n2_ := Am ((by rw [hg]; exact (below_size (by repeat (first | (with_reducible first | exact HB.out | apply ba | apply bn | apply bd) | exact HB.out))) : w.heap.size ≤ gb130)); have n3_ := Am ((by rw [hg]; exact (below_size (by repeat (first | (with_reducible first | exact HB.out | apply ba | apply bn | apply bd) | exact HB.out))) : w.heap.size ≤ gb130)); clear HB; have HB := n0_; have BK130 := n1_; have GW130 := n2_; have GE130 := n3_; clear n0_ n1_ n2_ n3_; clear hb hbox hg; have hcz13_0 : w12.cell? ⟨gb130, 0, none⟩ = some (.int .i64 0) := (blk_cell BK130.out 0).trans rfl; have hcz13_1 : w12.cell? ⟨gb130, 1, none⟩ = some (.int .i64 0) := (blk_cell BK130.out 1).trans rfl; have hcz13_2 : w12.cell? ⟨gb130, 2, none⟩ = some (.int .i64 0) := (blk_cell BK130.out 2).trans rfl; have hcz13_3 : w12.cell? ⟨gb130, 3, none⟩ = some (.int .i64 0) := (blk_cell BK130.out 3).trans rfl; have hcz13_4 : w12.cell? ⟨gb130, 4, none⟩ = some (.int .i64 0) := (blk_cell BK130.out 4).trans rfl; have hcz13_5 : w12.cell? ⟨gb130, 5, none⟩ = some (.int .i64 0) := (blk_cell BK130.out 5).trans rfl; have hfz13_0 := blk_frozen BK130.out 0; have hfz13_1 := blk_frozen BK130.out 1; have hfz13_2 := blk_frozen BK130.out 2; have hfz13_3 := blk_frozen BK130.out 3; have hfz13_4 := blk_frozen BK130.out 4; have hfz13_5 := blk_frozen BK130.out 5) | ((with_reducible refine gate_callee (f := 74) rfl ?_); refine goesL_ (some 22) rfl rfl Try.func74 (by kernel_rfl) rfl #[.agg #[.int .i64 ((rd_T34 l0 x15_1).f0), .int .i64 ((rd_T34 l0 x15_1).f1), .int .i64 ((rd_T34 l0 x15_1).f2), .int .i64 ((rd_T34 l0 x15_1).f3), .int .i64 ((rd_T34 l0 x15_1).f4), .int .i64 ((rd_T34 l0 x15_1).f5)], .int .i64 (l0.length : Int)] rfl (by (try simp only [List.map_toArray, List.map_cons, List.map_nil]); first | done | rfl | (simp only [List.length_drop, List.length_take]; rfl)) ?_; (with_reducible refine (table_formed.calls ((rd_T34 l0 x15_1).f0) ((rd_T34 l0 x15_1).f1) ((rd_T34 l0 x15_1).f2) ((rd_T34 l0 x15_1).f3) ((rd_T34 l0 x15_1).f4) ((rd_T34 l0 x15_1).f5) (l0.length : Int) false _ A7.out).mono ?_); rintro e w14 ⟨rfl, hb⟩; refine ⟨_, rfl, ?_⟩; have n0_ := Am (blk_below (g := gb130) (o := .cells #[.int .i64 ((rd_T34 l0 x15_1).f0), .int .i64 ((rd_T34 l0 x15_1).f1), .int .i64 ((rd_T34 l0 x15_1).f2), .int .i64 ((rd_T34 l0 x15_1).f3), .int .i64 ((rd_T34 l0 x15_1).f4), .int .i64 ((rd_T34 l0 x15_1).f5)] 34 (0, 0)) (by (with_reducible repeat (first | refine blk_drewN ?_ _ | refine blk_drew ?_ | refine blk_alloc ?_ _)); refine blk_put (cs := #[.int .i64 ((rd_T34 l0 x15_1).f0), .int .i64 ((rd_T34 l0 x15_1).f1), .int .i64 ((rd_T34 l0 x15_1).f2), .int .i64 ((rd_T34 l0 x15_1).f3), .int .i64 ((rd_T34 l0 x15_1).f4), .int .i64 0]) ?_ 5 _ rfl; (with_reducible repeat (first | refine blk_drewN ?_ _ | refine blk_drew ?_ | refine blk_alloc ?_ _)); refine blk_put (cs := #[.int .i64 ((rd_T34 l0 x15_1).f0), .int .i64 ((rd_T34 l0 x15_1).f1), .int .i64 ((rd_T34 l0 x15_1).f2), .int .i64 ((rd_T34 l0 x15_1).f3), .int .i64 0, .int .i64 0]) ?_ 4 _ rfl; (with_reducible repeat (first | refine blk_drewN ?_ _ | refine blk_drew ?_ | refine blk_alloc ?_ _)); refine blk_put (cs := #[.int .i64 ((rd_T34 l0 x15_1).f0), .int .i64 ((rd_T34 l0 x15_1).f1), .int .i64 ((rd_T34 l0 x15_1).f2), .int .i64 0, .int .i64 0, .int .i64 0]) ?_ 3 _ rfl; (with_reducible repeat (first | refine blk_drewN ?_ _ | refine blk_drew ?_ | refine blk_alloc ?_ _)); refine blk_put (cs := #[.int .i64 ((rd_T34 l0 x15_1).f0), .int .i64 ((rd_T34 l0 x15_1).f1), .int .i64 0, .int .i64 0, .int .i64 0, .int .i64 0]) ?_ 2 _ rfl; (with_reducible repeat (first | refine blk_drewN ?_ _ | refine blk_drew ?_ | refine blk_alloc ?_ _)); refine blk_put (cs := #[.int .i64 ((rd_T34 l0 x15_1).f0), .int .i64 0, .int .i64 0, .int .i64 0, .int .i64 0, .int .i64 0]) ?_ 1 _ rfl; (with_reducible repeat (first | refine blk_drewN ?_ _ | refine blk_drew ?_ | refine blk_alloc ?_ _)); refine blk_put (cs := #[.int .i64 0, .int .i64 0, .int .i64 0, .int .i64 0, .int .i64 0, .int .i64 0]) ?_ 0 _ rfl; (with_reducible repeat (first | refine blk_drewN ?_ _ | refine blk_drew ?_ | refine blk_alloc ?_ _)); exact BK130.out) hb); have n1_ := Am (below_step (by repeat (first | (with_reducible first | exact HB.out | apply ba | apply bn | apply bd | refine below_set ?_ GE130.out) | exact HB.out)) hb); clear BK130; clear HB; have BK130 := n0_; have HB := n1_; clear n0_ n1_; (try clear hb); (try clear hb2); (try clear hk); (try clear hi)))
         go_ret
         exact ⟨by first | rfl | (simp [errW_none, errW_some] <;> rfl) | (simp [*, errW_none, errW_some] <;> rfl), by repeat (first | (with_reducible first | exact HB.out | apply ba | apply bn | apply bd | refine below_set ?_ GE130.out) | exact HB.out)⟩
       ·rw [if_neg c6] at H
        exact absurd H (by simp)
      ·rw [if_neg c5] at H
       exact absurd H (by simp)
     ·rw [if_neg c4] at H
      have c4b0 : decide (x15_1 < (l0.length : Int)) = false := decide_eq_false c4
      clear c4
      replace H := Option.bind_eq_some_iff.mp H
      obtain ⟨t132, A150, H⟩ := H
      replace H : (if (t132.length : Int) = (l0.length : Int) then (some 0) else (some 3)) = some r := H
      have A15 := Am A150
      clear A150
      by_cases c16 : (t132.length : Int) = (l0.length : Int)
      ·rw [if_pos c16] at H
       have c16b0 : ((t132.length : Int) == (l0.length : Int)) = true := beq_iff_eq.mpr c16
       have c16b1 : ((t132.length : Int) != (l0.length : Int)) = false := bne_eq_false_iff_eq.mpr c16
       have c16b2 : (t132.length == l0.length) = true := by first | simpa using c16 | (simp at c16 ⊢; omega)
       clear c16
       obtain rfl := Option.some.inj H
       go_wp2_with (first | ((with_reducible refine gate_callee (f := 44) rfl ?_); refine goesL_ (some 26) rfl rfl Try.func44 (by kernel_rfl) rfl #[.slice A0 l0.length c0, .int .i64 0] rfl (by (try simp only [List.map_toArray, List.map_cons, List.map_nil]); first | done | rfl | (simp only [List.length_drop, List.length_take]; rfl)) ?_; (with_reducible refine (table_order.calls k1 _ _ l0 0 t132 _ ?side1 ?side2 A15.out).mono ?_); (case side1 => repeat (first | exact (Kd.C_below HR0.out HB.out) | (with_reducible refine Kd.C_alloc ?_ _) | (with_reducible refine Kd.C_drewN ?_ _) | (with_reducible refine Kd.C_drew ?_))); (case side2 => exact HC0.out); rintro e w17 ⟨v133, rfl, ho0, hb⟩; refine ⟨_, rfl, ?_⟩; have n0_ := Am (Kd.R_lower ho0 (below_size (by repeat (first | (with_reducible first | exact HB.out | apply ba | apply bn | apply bd) | exact HB.out)))); have n1_ := Am (below_step (by repeat (first | (with_reducible first | exact HB.out | apply ba | apply bn | apply bd) | exact HB.out)) hb); clear HB; have HO134 := n0_; have HB := n1_; clear n0_ n1_; (try clear hb); (try clear hb2); (try clear hk); (try clear hi); (try clear ho0); obtain ⟨Ao18, co18, eo18⟩ := Kd.R_slice HO134.out; subst eo18))
       go_ret
       exact ⟨by first | rfl | (simp [errW_none, errW_some] <;> rfl) | (simp [*, errW_none, errW_some] <;> rfl), by repeat (first | (with_reducible first | exact HB.out | apply ba | apply bn | apply bd) | exact HB.out)⟩
      ·rw [if_neg c16] at H
       have c16b0 : ((t132.length : Int) == (l0.length : Int)) = false := beq_eq_false_iff_ne.mpr c16
       have c16b1 : ((t132.length : Int) != (l0.length : Int)) = true := bne_iff_ne.mpr c16
       have c16b2 : (t132.length == l0.length) = false := by first | simpa using c16 | (simp at c16 ⊢; omega)
       obtain rfl := Option.some.inj H
       go_wp2_with (first | ((with_reducible refine gate_callee (f := 44) rfl ?_); refine goesL_ (some 26) rfl rfl Try.func44 (by kernel_rfl) rfl #[.slice A0 l0.length c0, .int .i64 0] rfl (by (try simp only [List.map_toArray, List.map_cons, List.map_nil]); first | done | rfl | (simp only [List.length_drop, List.length_take]; rfl)) ?_; (with_reducible refine (table_order.calls k1 _ _ l0 0 t132 _ ?side1 ?side2 A15.out).mono ?_); (case side1 => repeat (first | exact (Kd.C_below HR0.out HB.out) | (with_reducible refine Kd.C_alloc ?_ _) | (with_reducible refine Kd.C_drewN ?_ _) | (with_reducible refine Kd.C_drew ?_))); (case side2 => exact HC0.out); rintro e w19 ⟨v133, rfl, ho0, hb⟩; refine ⟨_, rfl, ?_⟩; have n0_ := Am (Kd.R_lower ho0 (below_size (by repeat (first | (with_reducible first | exact HB.out | apply ba | apply bn | apply bd) | exact HB.out)))); have n1_ := Am (below_step (by repeat (first | (with_reducible first | exact HB.out | apply ba | apply bn | apply bd) | exact HB.out)) hb); clear HB; have HO134 := n0_; have HB := n1_; clear n0_ n1_; (try clear hb); (try clear hb2); (try clear hk); (try clear hi); (try clear ho0); obtain ⟨Ao20, co20, eo20⟩ := Kd.R_slice HO134.out; subst eo20))
       go_ret
       exact ⟨by first | rfl | (simp [errW_none, errW_some] <;> rfl) | (simp [*, errW_none, errW_some] <;> rfl), by repeat (first | (with_reducible first | exact HB.out | apply ba | apply bn | apply bd) | exact HB.out)⟩
def table_sentinel.f  : Option (Int × Int × Int × Int × Int × Int) := some (0, 1, 1, 0, (-1), (-1))
set_option maxHeartbeats 8000000 in
set_option maxRecDepth 100000 in
theorem table_sentinel.calls  (r1 : Int) (r2 : Int) (r3 : Int) (r4 : Int) (r5 : Int) (r6 : Int) (w : World) (h : table_sentinel.f  = some (r1, r2, r3, r4, r5, r6)) :
  Calls Try.prog 43 #[] w fun e w' => e = .returned (.agg #[.int .i64 r1, .int .i64 r2, .int .i64 r3, .int .i64 r4, .int .i64 r5, .int .i64 r6]) ∧ Below w.heap.size w w' := by
 have hu34 := Try.underlying34
 have HB := Am (Below.refl w.heap.size w)
 have H : (some (0, 1, 1, 0, (-1), (-1))) = some (r1, r2, r3, r4, r5, r6) := h
 clear h
 simp only [Option.some.injEq, Prod.mk.injEq] at H
 obtain ⟨rfl, rfl, rfl, rfl, rfl, rfl⟩ := H
 go_enter Try.func43, Try.ntmps43
 go_wp2_with (first | ((with_reducible refine gate_dst (N := 0) rfl ?_); refine box_event ?hg (N := 0) ?hd (cs := #[.int .i64 0, .int .i64 0, .int .i64 0, .int .i64 0, .int .i64 0, .int .i64 0]) (t := 34) ?hr ?_; (case hd => rfl); (case hg => rfl); (case hr => first | (go_simp; done) | (go_simp; rfl)); intro gb135 hg w1 hbox hb; have n0_ := Am (below_step (by repeat (first | (with_reducible first | exact HB.out | apply ba | apply bn | apply bd) | exact HB.out)) hb); have n1_ := Am (hbox); have n2_ := Am ((by rw [hg]; exact (below_size (by repeat (first | (with_reducible first | exact HB.out | apply ba | apply bn | apply bd) | exact HB.out))) : w.heap.size ≤ gb135)); have n3_ := Am ((by rw [hg]; exact (below_size (by repeat (first | (with_reducible first | exact HB.out | apply ba | apply bn | apply bd) | exact HB.out))) : w.heap.size ≤ gb135)); clear HB; have HB := n0_; have BK135 := n1_; have GW135 := n2_; have GE135 := n3_; clear n0_ n1_ n2_ n3_; clear hb hbox hg; have hcz2_0 : w1.cell? ⟨gb135, 0, none⟩ = some (.int .i64 0) := (blk_cell BK135.out 0).trans rfl; have hcz2_1 : w1.cell? ⟨gb135, 1, none⟩ = some (.int .i64 0) := (blk_cell BK135.out 1).trans rfl; have hcz2_2 : w1.cell? ⟨gb135, 2, none⟩ = some (.int .i64 0) := (blk_cell BK135.out 2).trans rfl; have hcz2_3 : w1.cell? ⟨gb135, 3, none⟩ = some (.int .i64 0) := (blk_cell BK135.out 3).trans rfl; have hcz2_4 : w1.cell? ⟨gb135, 4, none⟩ = some (.int .i64 0) := (blk_cell BK135.out 4).trans rfl; have hcz2_5 : w1.cell? ⟨gb135, 5, none⟩ = some (.int .i64 0) := (blk_cell BK135.out 5).trans rfl; have hfz2_0 := blk_frozen BK135.out 0; have hfz2_1 := blk_frozen BK135.out 1; have hfz2_2 := blk_frozen BK135.out 2; have hfz2_3 := blk_frozen BK135.out 3; have hfz2_4 := blk_frozen BK135.out 4; have hfz2_5 := blk_frozen BK135.out 5))
 refine bodyPost_ret (results_cell_row rfl _ _ gb135 34 #[.int .i64 0, .int .i64 1, .int .i64 1, .int .i64 0, .int .i64 (-1), .int .i64 (-1)] (0, 0) _ rfl (by (with_reducible repeat (first | refine blk_drewN ?_ _ | refine blk_drew ?_ | refine blk_alloc ?_ _)); refine blk_put (cs := #[.int .i64 0, .int .i64 1, .int .i64 1, .int .i64 0, .int .i64 (-1), .int .i64 0]) ?_ 5 _ rfl; (with_reducible repeat (first | refine blk_drewN ?_ _ | refine blk_drew ?_ | refine blk_alloc ?_ _)); refine blk_put (cs := #[.int .i64 0, .int .i64 1, .int .i64 1, .int .i64 0, .int .i64 0, .int .i64 0]) ?_ 4 _ rfl; (with_reducible repeat (first | refine blk_drewN ?_ _ | refine blk_drew ?_ | refine blk_alloc ?_ _)); refine blk_put (cs := #[.int .i64 0, .int .i64 1, .int .i64 1, .int .i64 0, .int .i64 0, .int .i64 0]) ?_ 3 _ rfl; (with_reducible repeat (first | refine blk_drewN ?_ _ | refine blk_drew ?_ | refine blk_alloc ?_ _)); refine blk_put (cs := #[.int .i64 0, .int .i64 1, .int .i64 0, .int .i64 0, .int .i64 0, .int .i64 0]) ?_ 2 _ rfl; (with_reducible repeat (first | refine blk_drewN ?_ _ | refine blk_drew ?_ | refine blk_alloc ?_ _)); refine blk_put (cs := #[.int .i64 0, .int .i64 0, .int .i64 0, .int .i64 0, .int .i64 0, .int .i64 0]) ?_ 1 _ rfl; (with_reducible repeat (first | refine blk_drewN ?_ _ | refine blk_drew ?_ | refine blk_alloc ?_ _)); refine blk_put (cs := #[.int .i64 0, .int .i64 0, .int .i64 0, .int .i64 0, .int .i64 0, .int .i64 0]) ?_ 0 _ rfl; (with_reducible repeat (first | refine blk_drewN ?_ _ | refine blk_drew ?_ | refine blk_alloc ?_ _)); exact BK135.out) Try.underlying34 rfl (by kernel_rfl)) rfl ?_
 exact ⟨by first | rfl | (simp [errW_none, errW_some] <;> rfl) | (simp [*, errW_none, errW_some] <;> rfl), by repeat (first | (with_reducible first | exact HB.out | apply ba | apply bn | apply bd | refine below_set ?_ GE135.out) | exact HB.out)⟩
end Go.Proofs.Ytgleaefhflamnaa.T
namespace Go.Proofs.Ytgleaefhflamnaa.T
open Go.RowKit Go.Proofs.YtgleaefhflamnaaW.PrintWords Go.Proofs.YtgleaefhflamnaaW.PrintLast Go.Proofs.YtgleaefhflamnaaW.PrintMore
attribute [local go_sem] max2_int min2_int max_two min_two max_three min_three max_four min_four   -- for this text's walks alone
set_option linter.unusedVariables false
set_option linter.unusedSimpArgs false
mutual
def table_sub.l0 : Nat → List (S34) → List Int → List Int → List Int → Int → Int → Option ((List (S34)))
 | 0, _, _, _, _, _, _ => none
 | k + 1, x0, x5, x6, x19, x20, x21 => if x21 < x20 then (if 0 ≤ x21 then (if x21 < (x19.length : Int) then (if 0 ≤ (rd x19 x21) then (if (rd x19 x21) < (x6.length : Int) then (table_sub.l0 k x0 x5 (x6.set ((rd x19 x21) : Int).toNat x21) x19 x20 (wrap64 (x21 + 1))) else (none)) else (none)) else (none)) else (none)) else (if 0 ≤ (x5.length : Int) then (if ((x5.length : Int) : Int).toNat ≤ 5864062014805 then (table_sub.l1 k x0 x6 (([] : List (S34))) x5 (x5.length : Int) 0) else (none)) else (none))
def table_sub.l1 : Nat → List (S34) → List Int → List (S34) → List Int → Int → Int → Option ((List (S34)))
 | 0, _, _, _, _, _, _ => none
 | k + 1, x0, x6, x9, x34, x35, x36 => if x36 < x35 then (if 0 ≤ x36 then (if x36 < (x34.length : Int) then (if 0 ≤ (rd x34 x36) then (if (rd x34 x36) < (x0.length : Int) then ((table_isLeaf.f ((rd_T34 x0 (rd x34 x36)).f0) ((rd_T34 x0 (rd x34 x36)).f1) ((rd_T34 x0 (rd x34 x36)).f2) ((rd_T34 x0 (rd x34 x36)).f3) ((rd_T34 x0 (rd x34 x36)).f4) ((rd_T34 x0 (rd x34 x36)).f5)).bind fun t287 => (if t287 = true then (if x9.length < 2932031007402 then (table_sub.l1 k x0 x6 (x9 ++ [(⟨(rd_T34 x0 (rd x34 x36)).f0, (rd_T34 x0 (rd x34 x36)).f1, (rd_T34 x0 (rd x34 x36)).f2, (rd_T34 x0 (rd x34 x36)).f3, (rd_T34 x0 (rd x34 x36)).f4, (rd_T34 x0 (rd x34 x36)).f5⟩ : S34)]) x34 x35 (wrap64 (x36 + 1))) else (none)) else (if 0 ≤ ((rd_T34 x0 (rd x34 x36)).f4) then (if ((rd_T34 x0 (rd x34 x36)).f4) < (x6.length : Int) then (if 0 ≤ ((rd_T34 x0 (rd x34 x36)).f5) then (if ((rd_T34 x0 (rd x34 x36)).f5) < (x6.length : Int) then (if x9.length < 2932031007402 then (table_sub.l1 k x0 x6 (x9 ++ [(⟨(rd_T34 x0 (rd x34 x36)).f0, (rd_T34 x0 (rd x34 x36)).f1, (rd_T34 x0 (rd x34 x36)).f2, (rd_T34 x0 (rd x34 x36)).f3, rd x6 ((rd_T34 x0 (rd x34 x36)).f4), rd x6 ((rd_T34 x0 (rd x34 x36)).f5)⟩ : S34)]) x34 x35 (wrap64 (x36 + 1))) else (none)) else (none)) else (none)) else (none)) else (none)))) else (none)) else (none)) else (none)) else (none)) else (some x9)
end
def table_sub.f (k : Nat) (l0 : List (S34)) (a1 : Int) : Option ((List (S34))) := (table_order.f k l0 a1).bind fun t273 => (if 0 ≤ (l0.length : Int) then (if ((l0.length : Int) : Int).toNat ≤ 35184372088832 then (table_sub.l0 k l0 t273 (List.replicate ((l0.length : Int) : Int).toNat 0) t273 (t273.length : Int) 0) else (none)) else (none))
theorem table_sub.mono_l : ∀ k, (∀ y0 y1 y2 y3 y4 y5, LeO (table_sub.l0 k y0 y1 y2 y3 y4 y5) (table_sub.l0 (k + 1) y0 y1 y2 y3 y4 y5)) ∧ (∀ y0 y1 y2 y3 y4 y5, LeO (table_sub.l1 k y0 y1 y2 y3 y4 y5) (table_sub.l1 (k + 1) y0 y1 y2 y3 y4 y5))
 | 0 => ⟨fun _ _ _ _ _ _ r h => by simp [table_sub.l0] at h, fun _ _ _ _ _ _ r h => by simp [table_sub.l1] at h⟩
 | k + 1 => by
  obtain ⟨ih0, ih1⟩ := table_sub.mono_l k
  refine ⟨?_, ?_⟩
  ·intro y0 y1 y2 y3 y4 y5
   unfold table_sub.l0
   repeat' first
   | (with_reducible exact ih0 _ _ _ _ _ _)
   | (with_reducible exact ih1 _ _ _ _ _ _)
   | (with_reducible exact table_order.mono _ _ _)
   | (with_reducible exact LeO.refl _)
   | (with_reducible exact LeO.none _)
   | (with_reducible refine LeO.ite ?_ ?_)
   | (with_reducible refine LeO.bind ?_ (fun _ => ?_))
   | exact ih0 _ _ _ _ _ _
   | exact ih1 _ _ _ _ _ _
   | exact table_order.mono _ _ _
   | exact LeO.none _
   | refine LeO.ite ?_ ?_
   | refine LeO.bind ?_ (fun _ => ?_)
  ·intro y0 y1 y2 y3 y4 y5
   unfold table_sub.l1
   repeat' first
   | (with_reducible exact ih0 _ _ _ _ _ _)
   | (with_reducible exact ih1 _ _ _ _ _ _)
   | (with_reducible exact table_order.mono _ _ _)
   | (with_reducible exact LeO.refl _)
   | (with_reducible exact LeO.none _)
   | (with_reducible refine LeO.ite ?_ ?_)
   | (with_reducible refine LeO.bind ?_ (fun _ => ?_))
   | exact ih0 _ _ _ _ _ _
   | exact ih1 _ _ _ _ _ _
   | exact table_order.mono _ _ _
   | exact LeO.none _
   | refine LeO.ite ?_ ?_
   | refine LeO.bind ?_ (fun _ => ?_)
theorem table_sub.mono : ∀ a0 a1 k, LeO (table_sub.f k a0 a1) (table_sub.f (k + 1) a0 a1) := by
 intro a0 a1 k
 obtain ⟨ih0, ih1⟩ := table_sub.mono_l k
 unfold table_sub.f
 repeat' first
   | (with_reducible exact ih0 _ _ _ _ _ _)
   | (with_reducible exact ih1 _ _ _ _ _ _)
   | (with_reducible exact table_order.mono _ _ _)
   | (with_reducible exact LeO.refl _)
   | (with_reducible exact LeO.none _)
   | (with_reducible refine LeO.ite ?_ ?_)
   | (with_reducible refine LeO.bind ?_ (fun _ => ?_))
   | exact ih0 _ _ _ _ _ _
   | exact ih1 _ _ _ _ _ _
   | exact table_order.mono _ _ _
   | exact LeO.none _
   | refine LeO.ite ?_ ?_
   | refine LeO.bind ?_ (fun _ => ?_)
set_option maxHeartbeats 8000000 in
set_option maxRecDepth 100000 in
theorem table_sub.calls (k : Nat) (A0 : Option Addr) (c0 : Nat) (l0 : List (S34)) (a1 : Int) (r : List (S34)) (w : World) (hr0 : Kd.C k34 w A0 l0.length l0) (hc0 : l0.length ≤ c0) (h : table_sub.f k l0 a1 = some r) :
  Calls Try.prog 70 #[.slice A0 l0.length c0, .int .i64 a1] w fun e w' => ∃ v0_ : Value, e = .returned (v0_) ∧ Kd.R k34 34 w' w.heap.size (fun _ => True) v0_ r ∧ Below w.heap.size w w' := by
 have hu34 := Try.underlying34
 have HR0 := Am hr0
 have HC0 := Am hc0
 clear hr0 hc0
 have HB := Am (Below.refl w.heap.size w)
 have H : ((table_order.f k l0 a1).bind fun t273 => (if 0 ≤ (l0.length : Int) then (if ((l0.length : Int) : Int).toNat ≤ 35184372088832 then (table_sub.l0 k l0 t273 (List.replicate ((l0.length : Int) : Int).toNat 0) t273 (t273.length : Int) 0) else (none)) else (none))) = some r := h
 clear h
 replace H := Option.bind_eq_some_iff.mp H
 obtain ⟨t273, A30, H⟩ := H
 replace H : (if 0 ≤ (l0.length : Int) then (if ((l0.length : Int) : Int).toNat ≤ 35184372088832 then (table_sub.l0 k l0 t273 (List.replicate ((l0.length : Int) : Int).toNat 0) t273 (t273.length : Int) 0) else (none)) else (none)) = some r := H
 have A3 := Am A30
 clear A30
 by_cases c4 : 0 ≤ (l0.length : Int)
 ·rw [if_pos c4] at H
  have c4b0 := eq_true c4
  have c4b1 : decide (0 ≤ (l0.length : Int)) = true := decide_eq_true c4
  clear c4
  by_cases c5 : ((l0.length : Int) : Int).toNat ≤ 35184372088832
  ·rw [if_pos c5] at H
   have c5b0 := eq_true c5
   have c5b1 : decide (((l0.length : Int) : Int).toNat ≤ 35184372088832) = true := decide_eq_true c5
   clear c5
   obtain ⟨y276, hy276⟩ : ∃ y_ : List Int, y_ = (List.replicate ((l0.length : Int) : Int).toNat 0) := ⟨_, rfl⟩
   replace H : (table_sub.l0 k l0 t273 y276 t273 (t273.length : Int) 0) = some r := by first | (rw [hy276]; with_reducible exact H) | (have H2_ := (Option.bind_some _ _).symm.trans H; rw [hy276]; with_reducible exact H2_) | (have H2_ := (Option.bind_some _ _).symm.trans H; with_reducible exact H2_) | with_reducible exact H | (rw [hy276]; exact H) | exact H
   have Ny276 := Am hy276
   clear hy276
   have H' := Am H
   clear H
   go_enter Try.func70, Try.ntmps70
   go_wp2_with (first | ((with_reducible refine gate_callee (f := 44) rfl ?_); refine goesL_ (some 15) rfl rfl Try.func44 (by kernel_rfl) rfl #[.slice A0 l0.length c0, .int .i64 a1] rfl (by (try simp only [List.map_toArray, List.map_cons, List.map_nil]); first | done | rfl | (simp only [List.length_drop, List.length_take]; rfl)) ?_; (with_reducible refine (table_order.calls k _ _ l0 a1 t273 _ ?side1 ?side2 A3.out).mono ?_); (case side1 => repeat (first | exact HR0.out | (with_reducible refine Kd.C_alloc ?_ _) | (with_reducible refine Kd.C_drewN ?_ _) | (with_reducible refine Kd.C_drew ?_))); (case side2 => exact HC0.out); rintro e w6 ⟨v274, rfl, ho0, hb⟩; refine ⟨_, rfl, ?_⟩; have n0_ := Am (Kd.R_lower ho0 (below_size (by repeat (first | (with_reducible first | exact HB.out | apply ba | apply bn | apply bd) | exact HB.out)))); have n1_ := Am (below_step (by repeat (first | (with_reducible first | exact HB.out | apply ba | apply bn | apply bd) | exact HB.out)) hb); clear HB; have HO275 := n0_; have HB := n1_; clear n0_ n1_; (try clear hb); (try clear hb2); (try clear hk); (try clear hi); (try clear ho0)) | ((with_reducible refine gate_dst (N := 18) rfl ?_); refine Kd.R_make (Kd.int .i64) _ 3 rfl (N := 18) rfl 31 _ _ rfl (l0.length : Int) rfl rfl Try.underlying31 (.int .i64 0) 8 info3 rfl (by decide) (by omega) 0 (ok := fun _ => True) (okp := fun _ => True) rfl (fun _ hk => hk) trivial (of_decide_eq_true (by first | (with_reducible assumption) | assumption)) (Nat.le_trans (Nat.mul_le_mul_right _ (of_decide_eq_true (by first | (with_reducible assumption) | assumption) : (l0.length : Int).toNat ≤ 35184372088832)) (by omega)) (Below.refl _ _) (Nat.le_refl _) ?_; intro v277 w7 ho8 hb hg_ hnew_; clear hg_ hnew_; (first | rw [← Ny276.out] at ho8 | (simp only [Int.reduceToNat] at ho8; rw [← Ny276.out] at ho8)); have n0_ := Am (Kd.R_elder' (by (with_reducible repeat (first | apply Kd.R_alloc | apply Kd.R_drewN | apply Kd.R_drew)); exact HO275.out) (Kd.R_base ho8) hb); have n1_ := Am (Kd.R_lower (Kd.R_new' ho8 (Kd.R_lt (by (with_reducible repeat (first | apply Kd.R_alloc | apply Kd.R_drewN | apply Kd.R_drew)); exact HO275.out))) (below_size (by repeat (first | (with_reducible first | exact HB.out | apply ba | apply bn | apply bd) | exact HB.out)))); have n2_ := Am (below_step (by repeat (first | (with_reducible first | exact HB.out | apply ba | apply bn | apply bd) | exact HB.out)) hb); clear HO275; clear HB; have HO275 := n0_; have HO278 := n1_; have HB := n2_; clear n0_ n1_ n2_; clear hb ho8; obtain ⟨Ao9, co9, eo9⟩ := Kd.R_slice HO275.out; subst eo9))
   go_loopg [21] k (fun kq v21 w' => ∃ (x6_1 : List Int) (x21_1 : Int), v21 = .int .i64 x21_1 ∧ Aside0 (table_sub.l0 kq l0 t273 x6_1 t273 (t273.length : Int) x21_1 = some r) ∧ Aside0 (kq ≤ k) ∧ Aside0 (Kd.R (Kd.int .i64) 3 w' w.heap.size (fun k_ => some k_ ≠ (v277 : Value).ownBlock) (.slice Ao9 t273.length co9) t273) ∧ Aside0 (Kd.R (Kd.int .i64) 3 w' w.heap.size (fun k_ => some k_ ≠ ((.slice Ao9 t273.length co9) : Value).ownBlock ∧ some k_ ≠ ((.slice Ao9 t273.length co9) : Value).ownBlock) v277 x6_1) ∧ Aside0 (Kd.R (Kd.int .i64) 3 w' w.heap.size (fun k_ => some k_ ≠ (v277 : Value).ownBlock) (.slice Ao9 t273.length co9) t273) ∧ Aside0 (Below w.heap.size w w'))
   case atStart => exact ⟨(y276), (0), (by first | rfl | (simp; done) | (simp [*]; done)), H', ⟨Nat.le_refl _⟩, ⟨by (with_reducible repeat (first | apply Kd.R_alloc | apply Kd.R_drewN | apply Kd.R_drew)); exact Kd.R_mono HO275.out (fun _ hk => hk.2)⟩, ⟨by (with_reducible repeat (first | apply Kd.R_alloc | apply Kd.R_drewN | apply Kd.R_drew)); exact Kd.R_mono HO278.out (fun _ hk => ⟨hk.2, hk.2⟩)⟩, ⟨by (with_reducible repeat (first | apply Kd.R_alloc | apply Kd.R_drewN | apply Kd.R_drew)); exact Kd.R_mono HO275.out (fun _ hk => hk.2)⟩, ⟨by repeat (first | (with_reducible first | exact HB.out | apply ba | apply bn | apply bd) | exact HB.out)⟩⟩
   case round =>
    clear H'
    try clear p2
    try clear c4
    try clear c4b0
    try clear c4b1
    try clear c5
    try clear c5b0
    try clear c5b1
    try clear c7
    obtain ⟨x6_1, x21_1, rfl, HA, HK1, HO_5, HO_6, HO_19, HB⟩ := hrel
    cases gk with
    | zero => exact absurd HA.out (by simp [table_sub.l0])
    | succ k1 =>
     have H := HA.out
     clear HA
     simp only [table_sub.l0] at H
     by_cases c10 : x21_1 < (t273.length : Int)
     ·rw [if_pos c10] at H
      have c10b0 : decide (x21_1 < (t273.length : Int)) = true := decide_eq_true c10
      clear c10
      by_cases c11 : 0 ≤ x21_1
      ·rw [if_pos c11] at H
       have c11b0 : decide (0 ≤ x21_1) = true := decide_eq_true c11
       clear c11
       by_cases c12 : x21_1 < (t273.length : Int)
       ·rw [if_pos c12] at H
        have c12b0 : decide (x21_1 < (t273.length : Int)) = true := decide_eq_true c12
        clear c12
        by_cases c13 : 0 ≤ (rd t273 x21_1)
        ·rw [if_pos c13] at H
         have c13b0 : decide (0 ≤ (rd t273 x21_1)) = true := decide_eq_true c13
         clear c13
         by_cases c14 : (rd t273 x21_1) < (x6_1.length : Int)
         ·rw [if_pos c14] at H
          have c14b0 : decide ((rd t273 x21_1) < (x6_1.length : Int)) = true := decide_eq_true c14
          clear c14
          obtain ⟨y280, hy280⟩ : ∃ y_ : List Int, y_ = (x6_1.set ((rd t273 x21_1) : Int).toNat x21_1) := ⟨_, rfl⟩
          replace H : (table_sub.l0 k1 l0 t273 y280 t273 (t273.length : Int) (wrap64 (x21_1 + 1))) = some r := by first | (rw [hy280]; with_reducible exact H) | (have H2_ := (Option.bind_some _ _).symm.trans H; rw [hy280]; with_reducible exact H2_) | (have H2_ := (Option.bind_some _ _).symm.trans H; with_reducible exact H2_) | with_reducible exact H | (rw [hy280]; exact H) | exact H
          have Ny280 := Am hy280
          clear hy280
          have H' := Am H
          clear H
          have p279 : 0 ≤ (x21_1 : Int) := of_decide_eq_true (by first | (with_reducible assumption) | assumption)
          have q279 : x21_1 < (t273.length : Int) := of_decide_eq_true (by first | (with_reducible assumption) | assumption)
          obtain ⟨ad279, e279, hx279_0⟩ := Kd.at_int (Kd.R_reads' HO_19.out).2.2 x21_1 p279 q279
          cases e279
          replace p279 := eq_true p279
          replace q279 := eq_true q279
          have p15 : 0 ≤ ((rd t273 x21_1) : Int) := of_decide_eq_true (by first | (with_reducible assumption) | assumption)
          have q15 : ((rd t273 x21_1) : Int) < ((x6_1.length : Int) : Int) := of_decide_eq_true (by first | (with_reducible assumption) | assumption)
          obtain ⟨go15, co15, eo15, gb15, gl15, cl15, HG15⟩ := Kd.R_form HO_6.out (by omega)
          (first | cases eo15 | (injection eo15 with ea_ en_ ec_; (first | subst ea_ | (injection ea_ with ea_; subst ea_)); subst ec_; clear en_))
          have GB15 := Am gb15
          have GG15 := Am HG15
          clear gb15 gl15 HG15
          obtain ⟨hx15_0, hf15_0⟩ := Kd.R_celln 0 HO_6.out ((rd t273 x21_1) : Int) p15 q15
          replace p15 := eq_true p15
          replace q15 := eq_true q15
          have HP16 := Kd.R_putg HO_6.out ((rd t273 x21_1) : Int) x21_1
          go_wp2_with (first | ((with_reducible refine gate_store (t := 3) (p := 29) rfl ?_); refine store_event (t := 3) (p := 29) (v := ?vo_w17) (w1 := (wr.setCell ⟨go15, ((rd t273 x21_1) : Int).toNat, none⟩ (.int .i64 x21_1))) ?hg ?ho ?hn ?hr ?_; (case ho => rfl); (case hg => rfl); (case hn => rfl); (case hr => first | (go_simp; done) | (go_simp; rfl)); intro w17 hw; have hg : wr.grownBy w17 (some go15) := (by rw [hw]; exact HP16.2); have hp_ : Kd.R (Kd.int .i64) 3 w17 w.heap.size (fun k_ => some k_ ≠ (.slice (some ad279) t273.length co9 : Value).ownBlock ∧ some k_ ≠ (.slice (some ad279) t273.length co9 : Value).ownBlock) (.slice (some ⟨go15, 0, none⟩) x6_1.length co15) y280 := (by rw [hw, Ny280.out]; exact HP16.1); clear HP16; have n0_ := Am (Kd.R_after (v := (.slice (some ⟨go15, 0, none⟩) x6_1.length co15)) (v1 := (.slice (some ⟨go15, 0, none⟩) x6_1.length co15)) (ok := (fun _ => True)) (by (with_reducible repeat (first | apply Kd.R_alloc | apply Kd.R_drewN | apply Kd.R_drew)); exact Kd.R_mono HO_5.out (fun _ hk => ⟨trivial, hk⟩)) hg (.inl rfl)); have n1_ := Am (hp_); have n2_ := Am (Kd.R_after (v := (.slice (some ⟨go15, 0, none⟩) x6_1.length co15)) (v1 := (.slice (some ⟨go15, 0, none⟩) x6_1.length co15)) (ok := (fun _ => True)) (by (with_reducible repeat (first | apply Kd.R_alloc | apply Kd.R_drewN | apply Kd.R_drew)); exact Kd.R_mono HO_19.out (fun _ hk => ⟨trivial, hk⟩)) hg (.inl rfl)); have n3_ := Am ((by rw [hw]; exact below_set (HB.out) GB15.out : Below w.heap.size w w17)); clear HO_5; clear HO_6; clear HO_19; clear HB; have HO_5 := n0_; have HO_6 := n1_; have HO_19 := n2_; have HB := n3_; clear n0_ n1_ n2_ n3_; clear hg hw hp_))
          go_roundg k1
          case measure => have := HK1.out; omega
          case rel => exact ⟨(y280), (wrap64 (x21_1 + 1)), (by first | rfl | (simp; done) | (simp [*]; done)), H', ⟨by have := HK1.out; omega⟩, ⟨by (with_reducible repeat (first | apply Kd.R_alloc | apply Kd.R_drewN | apply Kd.R_drew)); exact Kd.R_mono HO_5.out (fun _ hk => hk.2)⟩, ⟨by (with_reducible repeat (first | apply Kd.R_alloc | apply Kd.R_drewN | apply Kd.R_drew)); exact HO_6.out⟩, ⟨by (with_reducible repeat (first | apply Kd.R_alloc | apply Kd.R_drewN | apply Kd.R_drew)); exact Kd.R_mono HO_19.out (fun _ hk => hk.2)⟩, ⟨by repeat (first | (with_reducible first | exact HB.out | apply ba | apply bn | apply bd) | exact HB.out)⟩⟩
         ·rw [if_neg c14] at H
          exact absurd H (by simp)
        ·rw [if_neg c13] at H
         exact absurd H (by simp)
       ·rw [if_neg c12] at H
        exact absurd H (by simp)
      ·rw [if_neg c11] at H
       exact absurd H (by simp)
     ·rw [if_neg c10] at H
      have c10b0 : decide (x21_1 < (t273.length : Int)) = false := decide_eq_false c10
      clear c10
      by_cases c18 : 0 ≤ (t273.length : Int)
      ·rw [if_pos c18] at H
       have c18b0 := eq_true c18
       have c18b1 : decide (0 ≤ (t273.length : Int)) = true := decide_eq_true c18
       clear c18
       by_cases c19 : ((t273.length : Int) : Int).toNat ≤ 5864062014805
       ·rw [if_pos c19] at H
        have c19b0 := eq_true c19
        have c19b1 : decide (((t273.length : Int) : Int).toNat ≤ 5864062014805) = true := decide_eq_true c19
        clear c19
        obtain ⟨y281, hy281⟩ : ∃ y_ : List (S34), y_ = (([] : List (S34))) := ⟨_, rfl⟩
        replace H : (table_sub.l1 k1 l0 x6_1 y281 t273 (t273.length : Int) 0) = some r := by first | (rw [hy281]; with_reducible exact H) | (have H2_ := (Option.bind_some _ _).symm.trans H; rw [hy281]; with_reducible exact H2_) | (have H2_ := (Option.bind_some _ _).symm.trans H; with_reducible exact H2_) | with_reducible exact H | (rw [hy281]; exact H) | exact H
        have Ny281 := Am hy281
        clear hy281
        have H' := Am H
        clear H
        go_wp2_with (first | ((with_reducible refine gate_dst (N := 33) rfl ?_); refine Kd.R_makecap k34 _ 34 rfl (N := 33) rfl 22 _ _ rfl (t273.length : Int) rfl rfl Try.underlying22 (.agg #[(.int .i64 0), (.int .i64 0), (.int .i64 0), (.int .i64 0), (.int .i64 0), (.int .i64 0)]) 48 info34 rfl (by decide) (by omega) z34 (ok := fun _ => True) (okp := fun _ => True) (k34_mkM _ _ _ z34 ) (fun _ hk => hk) trivial (of_decide_eq_true (by first | (with_reducible assumption) | assumption)) (Nat.le_trans (Nat.mul_le_mul_right _ (of_decide_eq_true (by first | (with_reducible assumption) | assumption) : (t273.length : Int).toNat ≤ 5864062014805)) (by omega)) (Below.refl _ _) (Nat.le_refl _) ?_; intro v282 w20 ho21 hb hg_ hnew_; clear hg_ hnew_; (first | rw [← Ny281.out] at ho21 | (simp only [Int.reduceToNat] at ho21; rw [← Ny281.out] at ho21)); have n0_ := Am (Kd.R_below (by (with_reducible repeat (first | apply Kd.R_alloc | apply Kd.R_drewN | apply Kd.R_drew)); exact HO_5.out) hb); have n1_ := Am (Kd.R_below (by (with_reducible repeat (first | apply Kd.R_alloc | apply Kd.R_drewN | apply Kd.R_drew)); exact HO_6.out) hb); have n2_ := Am (Kd.R_below (by (with_reducible repeat (first | apply Kd.R_alloc | apply Kd.R_drewN | apply Kd.R_drew)); exact HO_19.out) hb); have n3_ := Am (Kd.R_lower ho21 (below_size (by repeat (first | (with_reducible first | exact HB.out | apply ba | apply bn | apply bd) | exact HB.out)))); have n4_ := Am (below_step (by repeat (first | (with_reducible first | exact HB.out | apply ba | apply bn | apply bd) | exact HB.out)) hb); clear HO_5; clear HO_6; clear HO_19; clear HB; have HO_5 := n0_; have HO_6 := n1_; have HO_19 := n2_; have HO283 := n3_; have HB := n4_; clear n0_ n1_ n2_ n3_ n4_; clear hb ho21))
        go_loopg [9, 36] k1 (fun kq v9 v36 w' => ∃ (x9_2 : List (S34)) (x36_2 : Int), v36 = .int .i64 x36_2 ∧ Aside0 (table_sub.l1 kq l0 x6_1 x9_2 t273 (t273.length : Int) x36_2 = some r) ∧ Aside0 (kq ≤ k1) ∧ Aside0 (Kd.R (Kd.int .i64) 3 w' w.heap.size (fun k_ => some k_ ≠ ((.slice Ao9 t273.length co9) : Value).ownBlock) v277 x6_1) ∧ Aside0 (Kd.R k34 34 w' w.heap.size (fun _ => True) v9 x9_2) ∧ Aside0 (Kd.R (Kd.int .i64) 3 w' w.heap.size (fun k_ => some k_ ≠ (v277 : Value).ownBlock) (.slice Ao9 t273.length co9) t273) ∧ Aside0 (Below w.heap.size w w'))
        case atStart => exact ⟨(y281), (0), (by first | rfl | (simp; done) | (simp [*]; done)), H', ⟨Nat.le_refl _⟩, ⟨by (with_reducible repeat (first | apply Kd.R_alloc | apply Kd.R_drewN | apply Kd.R_drew)); exact Kd.R_mono HO_6.out (fun _ hk => hk.1)⟩, ⟨by (with_reducible repeat (first | apply Kd.R_alloc | apply Kd.R_drewN | apply Kd.R_drew)); exact HO283.out⟩, ⟨by (with_reducible repeat (first | apply Kd.R_alloc | apply Kd.R_drewN | apply Kd.R_drew)); exact HO_5.out⟩, ⟨by repeat (first | (with_reducible first | exact HB.out | apply ba | apply bn | apply bd) | exact HB.out)⟩⟩
        case round =>
         clear H'
         try clear c1
         try clear p1
         try clear q1
         try clear hx1
         try clear p2
         try clear q2
         try clear hx2
         try clear c4
         try clear c4b0
         try clear c4b1
         try clear c5
         try clear c5b0
         try clear c5b1
         try clear p6
         try clear c7
         try clear c10
         try clear c10b0
         try clear c11
         try clear c11b0
         try clear c12
         try clear c12b0
         try clear c13
         try clear c13b0
         try clear c14
         try clear c14b0
         try clear p15
         try clear q15
         try clear hx15
         try clear hf15
         try clear c18
         try clear c18b0
         try clear c18b1
         try clear c19
         try clear c19b0
         try clear c19b1
         try clear hx15_0
         try clear hx279_0
         try clear p15
         try clear p2
         try clear p279
         try clear q15
         try clear q279
         obtain ⟨x9_2, x36_2, rfl, HA, HK2, HO_6, HO_9, HO_34, HB⟩ := hrel
         cases gk with
         | zero => exact absurd HA.out (by simp [table_sub.l1])
         | succ k2 =>
          have H := HA.out
          clear HA
          simp only [table_sub.l1] at H
          by_cases c22 : x36_2 < (t273.length : Int)
          ·rw [if_pos c22] at H
           have c22b0 : decide (x36_2 < (t273.length : Int)) = true := decide_eq_true c22
           clear c22
           by_cases c23 : 0 ≤ x36_2
           ·rw [if_pos c23] at H
            have c23b0 : decide (0 ≤ x36_2) = true := decide_eq_true c23
            clear c23
            by_cases c24 : x36_2 < (t273.length : Int)
            ·rw [if_pos c24] at H
             have c24b0 : decide (x36_2 < (t273.length : Int)) = true := decide_eq_true c24
             clear c24
             by_cases c25 : 0 ≤ (rd t273 x36_2)
             ·rw [if_pos c25] at H
              have c25b0 : decide (0 ≤ (rd t273 x36_2)) = true := decide_eq_true c25
              clear c25
              by_cases c26 : (rd t273 x36_2) < (l0.length : Int)
              ·rw [if_pos c26] at H
               have c26b0 : decide ((rd t273 x36_2) < (l0.length : Int)) = true := decide_eq_true c26
               clear c26
               replace H := Option.bind_eq_some_iff.mp H
               obtain ⟨t287, A270, H⟩ := H
               replace H : (if t287 = true then (if x9_2.length < 2932031007402 then (table_sub.l1 k2 l0 x6_1 (x9_2 ++ [(⟨(rd_T34 l0 (rd t273 x36_2)).f0, (rd_T34 l0 (rd t273 x36_2)).f1, (rd_T34 l0 (rd t273 x36_2)).f2, (rd_T34 l0 (rd t273 x36_2)).f3, (rd_T34 l0 (rd t273 x36_2)).f4, (rd_T34 l0 (rd t273 x36_2)).f5⟩ : S34)]) t273 (t273.length : Int) (wrap64 (x36_2 + 1))) else (none)) else (if 0 ≤ ((rd_T34 l0 (rd t273 x36_2)).f4) then (if ((rd_T34 l0 (rd t273 x36_2)).f4) < (x6_1.length : Int) then (if 0 ≤ ((rd_T34 l0 (rd t273 x36_2)).f5) then (if ((rd_T34 l0 (rd t273 x36_2)).f5) < (x6_1.length : Int) then (if x9_2.length < 2932031007402 then (table_sub.l1 k2 l0 x6_1 (x9_2 ++ [(⟨(rd_T34 l0 (rd t273 x36_2)).f0, (rd_T34 l0 (rd t273 x36_2)).f1, (rd_T34 l0 (rd t273 x36_2)).f2, (rd_T34 l0 (rd t273 x36_2)).f3, rd x6_1 ((rd_T34 l0 (rd t273 x36_2)).f4), rd x6_1 ((rd_T34 l0 (rd t273 x36_2)).f5)⟩ : S34)]) t273 (t273.length : Int) (wrap64 (x36_2 + 1))) else (none)) else (none)) else (none)) else (none)) else (none))) = some r := H
               have A27 := Am A270
               clear A270
               by_cases c28 : t287 = true
               ·subst c28
                have H1 : (if x9_2.length < 2932031007402 then (table_sub.l1 k2 l0 x6_1 (x9_2 ++ [(⟨(rd_T34 l0 (rd t273 x36_2)).f0, (rd_T34 l0 (rd t273 x36_2)).f1, (rd_T34 l0 (rd t273 x36_2)).f2, (rd_T34 l0 (rd t273 x36_2)).f3, (rd_T34 l0 (rd t273 x36_2)).f4, (rd_T34 l0 (rd t273 x36_2)).f5⟩ : S34)]) t273 (t273.length : Int) (wrap64 (x36_2 + 1))) else (none)) = some r := by rw [if_pos rfl] at H; exact H
                clear H
                have H := H1
                clear H1
                by_cases c29 : x9_2.length < 2932031007402
                ·rw [if_pos c29] at H
                 have LMc29 := Am c29
                 clear c29
                 obtain ⟨y288, hy288⟩ : ∃ y_ : List (S34), y_ = (x9_2 ++ [(⟨(rd_T34 l0 (rd t273 x36_2)).f0, (rd_T34 l0 (rd t273 x36_2)).f1, (rd_T34 l0 (rd t273 x36_2)).f2, (rd_T34 l0 (rd t273 x36_2)).f3, (rd_T34 l0 (rd t273 x36_2)).f4, (rd_T34 l0 (rd t273 x36_2)).f5⟩ : S34)]) := ⟨_, rfl⟩
                 replace H : (table_sub.l1 k2 l0 x6_1 y288 t273 (t273.length : Int) (wrap64 (x36_2 + 1))) = some r := by first | (rw [hy288]; with_reducible exact H) | (have H2_ := (Option.bind_some _ _).symm.trans H; rw [hy288]; with_reducible exact H2_) | (have H2_ := (Option.bind_some _ _).symm.trans H; with_reducible exact H2_) | with_reducible exact H | (rw [hy288]; exact H) | exact H
                 have Ny288 := Am hy288
                 clear hy288
                 have H' := Am H
                 clear H
                 have p284 : 0 ≤ (x36_2 : Int) := of_decide_eq_true (by first | (with_reducible assumption) | assumption)
                 have q284 : x36_2 < (t273.length : Int) := of_decide_eq_true (by first | (with_reducible assumption) | assumption)
                 obtain ⟨ad284, e284, hx284_0⟩ := Kd.at_int (Kd.R_reads' HO_34.out).2.2 x36_2 p284 q284
                 cases e284
                 replace p284 := eq_true p284
                 replace q284 := eq_true q284
                 have p285 : 0 ≤ ((rd t273 x36_2) : Int) := of_decide_eq_true (by first | (with_reducible assumption) | assumption)
                 have q285 : (rd t273 x36_2) < (l0.length : Int) := of_decide_eq_true (by first | (with_reducible assumption) | assumption)
                 obtain ⟨ad285, e285, hx285_0, hx285_1, hx285_2, hx285_3, hx285_4, hx285_5⟩ := at_T34 HR0.out (rd t273 x36_2) p285 q285
                 cases e285
                 replace hx285_0 := (HB.out.cell (blt w _ hx285_0)).trans hx285_0
                 replace hx285_1 := (HB.out.cell (blt w _ hx285_1)).trans hx285_1
                 replace hx285_2 := (HB.out.cell (blt w _ hx285_2)).trans hx285_2
                 replace hx285_3 := (HB.out.cell (blt w _ hx285_3)).trans hx285_3
                 replace hx285_4 := (HB.out.cell (blt w _ hx285_4)).trans hx285_4
                 replace hx285_5 := (HB.out.cell (blt w _ hx285_5)).trans hx285_5
                 replace p285 := eq_true p285
                 replace q285 := eq_true q285
                 go_wp2_with (first | ((with_reducible refine gate_dst (N := 12) rfl ?_); refine box_event ?hg (N := 12) ?hd (cs := #[.int .i64 0, .int .i64 0, .int .i64 0, .int .i64 0, .int .i64 0, .int .i64 0]) (t := 34) ?hr ?_; (case hd => rfl); (case hg => rfl); (case hr => first | (go_simp; done) | (go_simp; rfl)); intro gb286 hg w30 hbox hb; have n0_ := Am (Kd.R_below (by (with_reducible repeat (first | apply Kd.R_alloc | apply Kd.R_drewN | apply Kd.R_drew)); exact HO_6.out) hb); have n1_ := Am (Kd.R_below (Kd.R_elderB (by (with_reducible repeat (first | apply Kd.R_alloc | apply Kd.R_drewN | apply Kd.R_drew)); exact HO_9.out) gb286 (Nat.le_of_eq hg.symm)) hb); have n2_ := Am (Kd.R_below (by (with_reducible repeat (first | apply Kd.R_alloc | apply Kd.R_drewN | apply Kd.R_drew)); exact HO_34.out) hb); have n3_ := Am (below_step (by repeat (first | (with_reducible first | exact HB.out | apply ba | apply bn | apply bd) | exact HB.out)) hb); have n4_ := Am (hbox); have n5_ := Am ((by rw [hg]; exact (below_size (by repeat (first | (with_reducible first | exact HB.out | apply ba | apply bn | apply bd) | exact HB.out))) : w.heap.size ≤ gb286)); have n6_ := Am ((by rw [hg]; exact (below_size (by repeat (first | (with_reducible first | exact HB.out | apply ba | apply bn | apply bd) | exact HB.out))) : w.heap.size ≤ gb286)); clear HO_6; clear HO_9; clear HO_34; clear HB; have HO_6 := n0_; have HO_9 := n1_; have HO_34 := n2_; have HB := n3_; have BK286 := n4_; have GW286 := n5_; have GE286 := n6_; clear n0_ n1_ n2_ n3_ n4_ n5_ n6_; clear hb hbox hg; have hcz31_0 : w30.cell? ⟨gb286, 0, none⟩ = some (.int .i64 0) := (blk_cell BK286.out 0).trans rfl; have hcz31_1 : w30.cell? ⟨gb286, 1, none⟩ = some (.int .i64 0) := (blk_cell BK286.out 1).trans rfl; have hcz31_2 : w30.cell? ⟨gb286, 2, none⟩ = some (.int .i64 0) := (blk_cell BK286.out 2).trans rfl; have hcz31_3 : w30.cell? ⟨gb286, 3, none⟩ = some (.int .i64 0) := (blk_cell BK286.out 3).trans rfl; have hcz31_4 : w30.cell? ⟨gb286, 4, none⟩ = some (.int .i64 0) := (blk_cell BK286.out 4).trans rfl; have hcz31_5 : w30.cell? ⟨gb286, 5, none⟩ = some (.int .i64 0) := (blk_cell BK286.out 5).trans rfl; have hfz31_0 := blk_frozen BK286.out 0; have hfz31_1 := blk_frozen BK286.out 1; have hfz31_2 := blk_frozen BK286.out 2; have hfz31_3 := blk_frozen BK286.out 3; have hfz31_4 := blk_frozen BK286.out 4; have hfz31_5 := blk_frozen BK286.out 5) | ((with_reducible refine gate_callee (f := 72) rfl ?_); refine goesL_ (some 45) rfl rfl Try.func72 (by kernel_rfl) rfl #[.agg #[.int .i64 ((rd_T34 l0 (rd t273 x36_2)).f0), .int .i64 ((rd_T34 l0 (rd t273 x36_2)).f1), .int .i64 ((rd_T34 l0 (rd t273 x36_2)).f2), .int .i64 ((rd_T34 l0 (rd t273 x36_2)).f3), .int .i64 ((rd_T34 l0 (rd t273 x36_2)).f4), .int .i64 ((rd_T34 l0 (rd t273 x36_2)).f5)]] rfl (by (try simp only [List.map_toArray, List.map_cons, List.map_nil]); first | done | rfl | (simp only [List.length_drop, List.length_take]; rfl)) ?_; (with_reducible refine (table_isLeaf.calls ((rd_T34 l0 (rd t273 x36_2)).f0) ((rd_T34 l0 (rd t273 x36_2)).f1) ((rd_T34 l0 (rd t273 x36_2)).f2) ((rd_T34 l0 (rd t273 x36_2)).f3) ((rd_T34 l0 (rd t273 x36_2)).f4) ((rd_T34 l0 (rd t273 x36_2)).f5) true _ A27.out).mono ?_); rintro e w32 ⟨rfl, hb⟩; refine ⟨_, rfl, ?_⟩; have n0_ := Am (Kd.R_below (by (with_reducible repeat (first | apply Kd.R_alloc | apply Kd.R_drewN | apply Kd.R_drew)); exact (Kd.R_mono (Kd.R_far (p := ⟨gb286, 5, none⟩) (Kd.R_far (p := ⟨gb286, 4, none⟩) (Kd.R_far (p := ⟨gb286, 3, none⟩) (Kd.R_far (p := ⟨gb286, 2, none⟩) (Kd.R_far (p := ⟨gb286, 1, none⟩) (Kd.R_far (p := ⟨gb286, 0, none⟩) (Kd.R_types HO_6.out BK286.out (by decide)) (fun _ hk => hk.2) (.int .i64 ((rd_T34 l0 (rd t273 x36_2)).f0))) (fun _ hk => hk.2) (.int .i64 ((rd_T34 l0 (rd t273 x36_2)).f1))) (fun _ hk => hk.2) (.int .i64 ((rd_T34 l0 (rd t273 x36_2)).f2))) (fun _ hk => hk.2) (.int .i64 ((rd_T34 l0 (rd t273 x36_2)).f3))) (fun _ hk => hk.2) (.int .i64 ((rd_T34 l0 (rd t273 x36_2)).f4))) (fun _ hk => hk.2) (.int .i64 ((rd_T34 l0 (rd t273 x36_2)).f5))) (fun _ h_ => h_.1))) hb); have n1_ := Am (Kd.R_below (by (with_reducible repeat (first | apply Kd.R_alloc | apply Kd.R_drewN | apply Kd.R_drew)); exact (Kd.R_mono (Kd.R_far (p := ⟨gb286, 5, none⟩) (Kd.R_far (p := ⟨gb286, 4, none⟩) (Kd.R_far (p := ⟨gb286, 3, none⟩) (Kd.R_far (p := ⟨gb286, 2, none⟩) (Kd.R_far (p := ⟨gb286, 1, none⟩) (Kd.R_far (p := ⟨gb286, 0, none⟩) (Kd.R_mono HO_9.out (fun k_ hk => (⟨hk, hk.2⟩ : _ ∧ k_ ≠ gb286))) (fun _ hk => hk.2) (.int .i64 ((rd_T34 l0 (rd t273 x36_2)).f0))) (fun _ hk => hk.2) (.int .i64 ((rd_T34 l0 (rd t273 x36_2)).f1))) (fun _ hk => hk.2) (.int .i64 ((rd_T34 l0 (rd t273 x36_2)).f2))) (fun _ hk => hk.2) (.int .i64 ((rd_T34 l0 (rd t273 x36_2)).f3))) (fun _ hk => hk.2) (.int .i64 ((rd_T34 l0 (rd t273 x36_2)).f4))) (fun _ hk => hk.2) (.int .i64 ((rd_T34 l0 (rd t273 x36_2)).f5))) (fun _ h_ => h_.1))) hb); have n2_ := Am (Kd.R_below (by (with_reducible repeat (first | apply Kd.R_alloc | apply Kd.R_drewN | apply Kd.R_drew)); exact (Kd.R_mono (Kd.R_far (p := ⟨gb286, 5, none⟩) (Kd.R_far (p := ⟨gb286, 4, none⟩) (Kd.R_far (p := ⟨gb286, 3, none⟩) (Kd.R_far (p := ⟨gb286, 2, none⟩) (Kd.R_far (p := ⟨gb286, 1, none⟩) (Kd.R_far (p := ⟨gb286, 0, none⟩) (Kd.R_types HO_34.out BK286.out (by decide)) (fun _ hk => hk.2) (.int .i64 ((rd_T34 l0 (rd t273 x36_2)).f0))) (fun _ hk => hk.2) (.int .i64 ((rd_T34 l0 (rd t273 x36_2)).f1))) (fun _ hk => hk.2) (.int .i64 ((rd_T34 l0 (rd t273 x36_2)).f2))) (fun _ hk => hk.2) (.int .i64 ((rd_T34 l0 (rd t273 x36_2)).f3))) (fun _ hk => hk.2) (.int .i64 ((rd_T34 l0 (rd t273 x36_2)).f4))) (fun _ hk => hk.2) (.int .i64 ((rd_T34 l0 (rd t273 x36_2)).f5))) (fun _ h_ => h_.1))) hb); have n3_ := Am (blk_below (g := gb286) (o := .cells #[.int .i64 ((rd_T34 l0 (rd t273 x36_2)).f0), .int .i64 ((rd_T34 l0 (rd t273 x36_2)).f1), .int .i64 ((rd_T34 l0 (rd t273 x36_2)).f2), .int .i64 ((rd_T34 l0 (rd t273 x36_2)).f3), .int .i64 ((rd_T34 l0 (rd t273 x36_2)).f4), .int .i64 ((rd_T34 l0 (rd t273 x36_2)).f5)] 34 (0, 0)) (by (with_reducible repeat (first | refine blk_drewN ?_ _ | refine blk_drew ?_ | refine blk_alloc ?_ _)); refine blk_put (cs := #[.int .i64 ((rd_T34 l0 (rd t273 x36_2)).f0), .int .i64 ((rd_T34 l0 (rd t273 x36_2)).f1), .int .i64 ((rd_T34 l0 (rd t273 x36_2)).f2), .int .i64 ((rd_T34 l0 (rd t273 x36_2)).f3), .int .i64 ((rd_T34 l0 (rd t273 x36_2)).f4), .int .i64 0]) ?_ 5 _ rfl; (with_reducible repeat (first | refine blk_drewN ?_ _ | refine blk_drew ?_ | refine blk_alloc ?_ _)); refine blk_put (cs := #[.int .i64 ((rd_T34 l0 (rd t273 x36_2)).f0), .int .i64 ((rd_T34 l0 (rd t273 x36_2)).f1), .int .i64 ((rd_T34 l0 (rd t273 x36_2)).f2), .int .i64 ((rd_T34 l0 (rd t273 x36_2)).f3), .int .i64 0, .int .i64 0]) ?_ 4 _ rfl; (with_reducible repeat (first | refine blk_drewN ?_ _ | refine blk_drew ?_ | refine blk_alloc ?_ _)); refine blk_put (cs := #[.int .i64 ((rd_T34 l0 (rd t273 x36_2)).f0), .int .i64 ((rd_T34 l0 (rd t273 x36_2)).f1), .int .i64 ((rd_T34 l0 (rd t273 x36_2)).f2), .int .i64 0, .int .i64 0, .int .i64 0]) ?_ 3 _ rfl; (with_reducible repeat (first | refine blk_drewN ?_ _ | refine blk_drew ?_ | refine blk_alloc ?_ _)); refine blk_put (cs := #[.int .i64 ((rd_T34 l0 (rd t273 x36_2)).f0), .int .i64 ((rd_T34 l0 (rd t273 x36_2)).f1), .int .i64 0, .int .i64 0, .int .i64 0, .int .i64 0]) ?_ 2 _ rfl; (with_reducible repeat (first | refine blk_drewN ?_ _ | refine blk_drew ?_ | refine blk_alloc ?_ _)); refine blk_put (cs := #[.int .i64 ((rd_T34 l0 (rd t273 x36_2)).f0), .int .i64 0, .int .i64 0, .int .i64 0, .int .i64 0, .int .i64 0]) ?_ 1 _ rfl; (with_reducible repeat (first | refine blk_drewN ?_ _ | refine blk_drew ?_ | refine blk_alloc ?_ _)); refine blk_put (cs := #[.int .i64 0, .int .i64 0, .int .i64 0, .int .i64 0, .int .i64 0, .int .i64 0]) ?_ 0 _ rfl; (with_reducible repeat (first | refine blk_drewN ?_ _ | refine blk_drew ?_ | refine blk_alloc ?_ _)); exact BK286.out) hb); have n4_ := Am (below_step (by repeat (first | (with_reducible first | exact HB.out | apply ba | apply bn | apply bd | refine below_set ?_ GE286.out) | exact HB.out)) hb); clear HO_6; clear HO_9; clear HO_34; clear BK286; clear HB; have HO_6 := n0_; have HO_9 := n1_; have HO_34 := n2_; have BK286 := n3_; have HB := n4_; clear n0_ n1_ n2_ n3_ n4_; (try clear hb); (try clear hb2); (try clear hk); (try clear hi); have hcz33_0 : w32.cell? ⟨gb286, 0, none⟩ = some (.int .i64 ((rd_T34 l0 (rd t273 x36_2)).f0)) := (blk_cell BK286.out 0).trans rfl; have hcz33_1 : w32.cell? ⟨gb286, 1, none⟩ = some (.int .i64 ((rd_T34 l0 (rd t273 x36_2)).f1)) := (blk_cell BK286.out 1).trans rfl; have hcz33_2 : w32.cell? ⟨gb286, 2, none⟩ = some (.int .i64 ((rd_T34 l0 (rd t273 x36_2)).f2)) := (blk_cell BK286.out 2).trans rfl; have hcz33_3 : w32.cell? ⟨gb286, 3, none⟩ = some (.int .i64 ((rd_T34 l0 (rd t273 x36_2)).f3)) := (blk_cell BK286.out 3).trans rfl; have hcz33_4 : w32.cell? ⟨gb286, 4, none⟩ = some (.int .i64 ((rd_T34 l0 (rd t273 x36_2)).f4)) := (blk_cell BK286.out 4).trans rfl; have hcz33_5 : w32.cell? ⟨gb286, 5, none⟩ = some (.int .i64 ((rd_T34 l0 (rd t273 x36_2)).f5)) := (blk_cell BK286.out 5).trans rfl; have hfz33_0 := blk_frozen BK286.out 0; have hfz33_1 := blk_frozen BK286.out 1; have hfz33_2 := blk_frozen BK286.out 2; have hfz33_3 := blk_frozen BK286.out 3; have hfz33_4 := blk_frozen BK286.out 4; have hfz33_5 := blk_frozen BK286.out 5) | ((with_reducible refine gate_builtin (b := .append) (xs := #[.tmp 59, .tmp 61]) rfl ?_); at_builtin; refine Kd.R_append k34 (w0 := w) w.heap.size rfl (.tmp 59) (.tmp 61) 22 34 (.agg #[(.int .i64 0), (.int .i64 0), (.int .i64 0), (.int .i64 0), (.int .i64 0), (.int .i64 0)]) 48 rfl Try.underlying22 info34 rfl (by decide) (by omega) u9 x9_2 (⟨(rd_T34 l0 (rd t273 x36_2)).f0, (rd_T34 l0 (rd t273 x36_2)).f1, (rd_T34 l0 (rd t273 x36_2)).f2, (rd_T34 l0 (rd t273 x36_2)).f3, (rd_T34 l0 (rd t273 x36_2)).f4, (rd_T34 l0 (rd t273 x36_2)).f5⟩ : S34) [.int .i64 ((rd_T34 l0 (rd t273 x36_2)).f0), .int .i64 ((rd_T34 l0 (rd t273 x36_2)).f1), .int .i64 ((rd_T34 l0 (rd t273 x36_2)).f2), .int .i64 ((rd_T34 l0 (rd t273 x36_2)).f3), .int .i64 ((rd_T34 l0 (rd t273 x36_2)).f4), .int .i64 ((rd_T34 l0 (rd t273 x36_2)).f5)] (fun k_ => k_ ≠ gb286) (fun _ => False) rfl rfl ?aP (fun _ hk => hk.elim) ?aF ?aO ?aB ?aS ?aL ?_; (case aP => exact k34_mkM _ _ _ (⟨(rd_T34 l0 (rd t273 x36_2)).f0, (rd_T34 l0 (rd t273 x36_2)).f1, (rd_T34 l0 (rd t273 x36_2)).f2, (rd_T34 l0 (rd t273 x36_2)).f3, (rd_T34 l0 (rd t273 x36_2)).f4, (rd_T34 l0 (rd t273 x36_2)).f5⟩ : S34)); (case aB => exact (by repeat (first | (with_reducible first | exact HB.out | apply ba | apply bn | apply bd | refine below_set ?_ GE286.out) | exact HB.out))); (case aF => exact (fun k_ hk => Kd.freshB (g := gb286) (o := .cells #[.int .i64 ((rd_T34 l0 (rd t273 x36_2)).f0), .int .i64 ((rd_T34 l0 (rd t273 x36_2)).f1), .int .i64 ((rd_T34 l0 (rd t273 x36_2)).f2), .int .i64 ((rd_T34 l0 (rd t273 x36_2)).f3), .int .i64 ((rd_T34 l0 (rd t273 x36_2)).f4), .int .i64 ((rd_T34 l0 (rd t273 x36_2)).f5)] 34 (0, 0)) (by (with_reducible repeat (first | refine blk_drewN ?_ _ | refine blk_drew ?_ | refine blk_alloc ?_ _)); exact BK286.out) k_ hk)); (case aO => exact (by (with_reducible repeat (first | apply Kd.R_alloc | apply Kd.R_drewN | apply Kd.R_drew)); exact Kd.R_mono HO_9.out (fun _ hk => hk.2))); (case aS => exact (below_size (by repeat (first | (with_reducible first | exact HB.out | apply ba | apply bn | apply bd | refine below_set ?_ GE286.out) | exact HB.out)))); (case aL => have := LMc29.out; omega); intro v289 w34 ho hb hg hat; rw [← Ny288.out] at ho; have n0_ := Am (Kd.R_over' (by (with_reducible repeat (first | apply Kd.R_alloc | apply Kd.R_drewN | apply Kd.R_drew)); exact HO_6.out) (Kd.R_typed (by (with_reducible repeat (first | apply Kd.R_alloc | apply Kd.R_drewN | apply Kd.R_drew)); exact HO_9.out)) (by decide) hg); have n1_ := Am (Kd.R_over' (by (with_reducible repeat (first | apply Kd.R_alloc | apply Kd.R_drewN | apply Kd.R_drew)); exact HO_34.out) (Kd.R_typed (by (with_reducible repeat (first | apply Kd.R_alloc | apply Kd.R_drewN | apply Kd.R_drew)); exact HO_9.out)) (by decide) hg); have n2_ := Am (blk_grown (g := gb286) (o := .cells #[.int .i64 ((rd_T34 l0 (rd t273 x36_2)).f0), .int .i64 ((rd_T34 l0 (rd t273 x36_2)).f1), .int .i64 ((rd_T34 l0 (rd t273 x36_2)).f2), .int .i64 ((rd_T34 l0 (rd t273 x36_2)).f3), .int .i64 ((rd_T34 l0 (rd t273 x36_2)).f4), .int .i64 ((rd_T34 l0 (rd t273 x36_2)).f5)] 34 (0, 0)) (by (with_reducible repeat (first | refine blk_drewN ?_ _ | refine blk_drew ?_ | refine blk_alloc ?_ _)); exact BK286.out) hg (Kd.R_away HO_9.out (fun _ hk => hk.2))); have n3_ := Am (hb); have n4_ := Am (ho); clear HO_6; clear HO_34; clear BK286; clear HB; clear HO_9; have HO_6 := n0_; have HO_34 := n1_; have BK286 := n2_; have HB := n3_; have HO290 := n4_; clear n0_ n1_ n2_ n3_ n4_; clear ho hb hg hat))
                 go_roundg k2
                 case measure => have := HK1.out; have := HK2.out; omega
                 case rel => exact ⟨(y288), (wrap64 (x36_2 + 1)), (by first | rfl | (simp; done) | (simp [*]; done)), H', ⟨by have := HK1.out; have := HK2.out; omega⟩, ⟨by (with_reducible repeat (first | apply Kd.R_alloc | apply Kd.R_drewN | apply Kd.R_drew)); exact HO_6.out⟩, ⟨by (with_reducible repeat (first | apply Kd.R_alloc | apply Kd.R_drewN | apply Kd.R_drew)); exact Kd.R_mono HO290.out (fun _ hk => trivial)⟩, ⟨by (with_reducible repeat (first | apply Kd.R_alloc | apply Kd.R_drewN | apply Kd.R_drew)); exact HO_34.out⟩, ⟨by repeat (first | (with_reducible first | exact HB.out | apply ba | apply bn | apply bd | refine below_set ?_ GE286.out) | exact HB.out)⟩⟩
                ·rw [if_neg c29] at H
                 exact absurd H (by simp)
               ·replace c28 := Bool.eq_false_iff.mpr c28
                subst c28
                have H1 : (if 0 ≤ ((rd_T34 l0 (rd t273 x36_2)).f4) then (if ((rd_T34 l0 (rd t273 x36_2)).f4) < (x6_1.length : Int) then (if 0 ≤ ((rd_T34 l0 (rd t273 x36_2)).f5) then (if ((rd_T34 l0 (rd t273 x36_2)).f5) < (x6_1.length : Int) then (if x9_2.length < 2932031007402 then (table_sub.l1 k2 l0 x6_1 (x9_2 ++ [(⟨(rd_T34 l0 (rd t273 x36_2)).f0, (rd_T34 l0 (rd t273 x36_2)).f1, (rd_T34 l0 (rd t273 x36_2)).f2, (rd_T34 l0 (rd t273 x36_2)).f3, rd x6_1 ((rd_T34 l0 (rd t273 x36_2)).f4), rd x6_1 ((rd_T34 l0 (rd t273 x36_2)).f5)⟩ : S34)]) t273 (t273.length : Int) (wrap64 (x36_2 + 1))) else (none)) else (none)) else (none)) else (none)) else (none)) = some r := by rw [if_neg (show ¬ (false = true) by decide)] at H; exact H
                clear H
                have H := H1
                clear H1
                by_cases c35 : 0 ≤ ((rd_T34 l0 (rd t273 x36_2)).f4)
                ·rw [if_pos c35] at H
                 have c35b0 : decide (0 ≤ ((rd_T34 l0 (rd t273 x36_2)).f4)) = true := decide_eq_true c35
                 clear c35
                 by_cases c36 : ((rd_T34 l0 (rd t273 x36_2)).f4) < (x6_1.length : Int)
                 ·rw [if_pos c36] at H
                  have c36b0 : decide (((rd_T34 l0 (rd t273 x36_2)).f4) < (x6_1.length : Int)) = true := decide_eq_true c36
                  clear c36
                  by_cases c37 : 0 ≤ ((rd_T34 l0 (rd t273 x36_2)).f5)
                  ·rw [if_pos c37] at H
                   have c37b0 : decide (0 ≤ ((rd_T34 l0 (rd t273 x36_2)).f5)) = true := decide_eq_true c37
                   clear c37
                   by_cases c38 : ((rd_T34 l0 (rd t273 x36_2)).f5) < (x6_1.length : Int)
                   ·rw [if_pos c38] at H
                    have c38b0 : decide (((rd_T34 l0 (rd t273 x36_2)).f5) < (x6_1.length : Int)) = true := decide_eq_true c38
                    clear c38
                    by_cases c39 : x9_2.length < 2932031007402
                    ·rw [if_pos c39] at H
                     have LMc39 := Am c39
                     clear c39
                     obtain ⟨y293, hy293⟩ : ∃ y_ : List (S34), y_ = (x9_2 ++ [(⟨(rd_T34 l0 (rd t273 x36_2)).f0, (rd_T34 l0 (rd t273 x36_2)).f1, (rd_T34 l0 (rd t273 x36_2)).f2, (rd_T34 l0 (rd t273 x36_2)).f3, rd x6_1 ((rd_T34 l0 (rd t273 x36_2)).f4), rd x6_1 ((rd_T34 l0 (rd t273 x36_2)).f5)⟩ : S34)]) := ⟨_, rfl⟩
                     replace H : (table_sub.l1 k2 l0 x6_1 y293 t273 (t273.length : Int) (wrap64 (x36_2 + 1))) = some r := by first | (rw [hy293]; with_reducible exact H) | (have H2_ := (Option.bind_some _ _).symm.trans H; rw [hy293]; with_reducible exact H2_) | (have H2_ := (Option.bind_some _ _).symm.trans H; with_reducible exact H2_) | with_reducible exact H | (rw [hy293]; exact H) | exact H
                     have Ny293 := Am hy293
                     clear hy293
                     have H' := Am H
                     clear H
                     have p284 : 0 ≤ (x36_2 : Int) := of_decide_eq_true (by first | (with_reducible assumption) | assumption)
                     have q284 : x36_2 < (t273.length : Int) := of_decide_eq_true (by first | (with_reducible assumption) | assumption)
                     obtain ⟨ad284, e284, hx284_0⟩ := Kd.at_int (Kd.R_reads' HO_34.out).2.2 x36_2 p284 q284
                     cases e284
                     replace p284 := eq_true p284
                     replace q284 := eq_true q284
                     have p285 : 0 ≤ ((rd t273 x36_2) : Int) := of_decide_eq_true (by first | (with_reducible assumption) | assumption)
                     have q285 : (rd t273 x36_2) < (l0.length : Int) := of_decide_eq_true (by first | (with_reducible assumption) | assumption)
                     obtain ⟨ad285, e285, hx285_0, hx285_1, hx285_2, hx285_3, hx285_4, hx285_5⟩ := at_T34 HR0.out (rd t273 x36_2) p285 q285
                     cases e285
                     replace hx285_0 := (HB.out.cell (blt w _ hx285_0)).trans hx285_0
                     replace hx285_1 := (HB.out.cell (blt w _ hx285_1)).trans hx285_1
                     replace hx285_2 := (HB.out.cell (blt w _ hx285_2)).trans hx285_2
                     replace hx285_3 := (HB.out.cell (blt w _ hx285_3)).trans hx285_3
                     replace hx285_4 := (HB.out.cell (blt w _ hx285_4)).trans hx285_4
                     replace hx285_5 := (HB.out.cell (blt w _ hx285_5)).trans hx285_5
                     replace p285 := eq_true p285
                     replace q285 := eq_true q285
                     go_wp2_with (first | ((with_reducible refine gate_dst (N := 12) rfl ?_); refine box_event ?hg (N := 12) ?hd (cs := #[.int .i64 0, .int .i64 0, .int .i64 0, .int .i64 0, .int .i64 0, .int .i64 0]) (t := 34) ?hr ?_; (case hd => rfl); (case hg => rfl); (case hr => first | (go_simp; done) | (go_simp; rfl)); intro gb286 hg w40 hbox hb; have n0_ := Am (Kd.R_below (by (with_reducible repeat (first | apply Kd.R_alloc | apply Kd.R_drewN | apply Kd.R_drew)); exact HO_6.out) hb); have n1_ := Am (Kd.R_below (Kd.R_elderB (by (with_reducible repeat (first | apply Kd.R_alloc | apply Kd.R_drewN | apply Kd.R_drew)); exact HO_9.out) gb286 (Nat.le_of_eq hg.symm)) hb); have n2_ := Am (Kd.R_below (by (with_reducible repeat (first | apply Kd.R_alloc | apply Kd.R_drewN | apply Kd.R_drew)); exact HO_34.out) hb); have n3_ := Am (below_step (by repeat (first | (with_reducible first | exact HB.out | apply ba | apply bn | apply bd) | exact HB.out)) hb); have n4_ := Am (hbox); have n5_ := Am ((by rw [hg]; exact (below_size (by repeat (first | (with_reducible first | exact HB.out | apply ba | apply bn | apply bd) | exact HB.out))) : w.heap.size ≤ gb286)); have n6_ := Am ((by rw [hg]; exact (below_size (by repeat (first | (with_reducible first | exact HB.out | apply ba | apply bn | apply bd) | exact HB.out))) : w.heap.size ≤ gb286)); clear HO_6; clear HO_9; clear HO_34; clear HB; have HO_6 := n0_; have HO_9 := n1_; have HO_34 := n2_; have HB := n3_; have BK286 := n4_; have GW286 := n5_; have GE286 := n6_; clear n0_ n1_ n2_ n3_ n4_ n5_ n6_; clear hb hbox hg; have hcz41_0 : w40.cell? ⟨gb286, 0, none⟩ = some (.int .i64 0) := (blk_cell BK286.out 0).trans rfl; have hcz41_1 : w40.cell? ⟨gb286, 1, none⟩ = some (.int .i64 0) := (blk_cell BK286.out 1).trans rfl; have hcz41_2 : w40.cell? ⟨gb286, 2, none⟩ = some (.int .i64 0) := (blk_cell BK286.out 2).trans rfl; have hcz41_3 : w40.cell? ⟨gb286, 3, none⟩ = some (.int .i64 0) := (blk_cell BK286.out 3).trans rfl; have hcz41_4 : w40.cell? ⟨gb286, 4, none⟩ = some (.int .i64 0) := (blk_cell BK286.out 4).trans rfl; have hcz41_5 : w40.cell? ⟨gb286, 5, none⟩ = some (.int .i64 0) := (blk_cell BK286.out 5).trans rfl; have hfz41_0 := blk_frozen BK286.out 0; have hfz41_1 := blk_frozen BK286.out 1; have hfz41_2 := blk_frozen BK286.out 2; have hfz41_3 := blk_frozen BK286.out 3; have hfz41_4 := blk_frozen BK286.out 4; have hfz41_5 := blk_frozen BK286.out 5) | ((with_reducible refine gate_callee (f := 72) rfl ?_); refine goesL_ (some 45) rfl rfl Try.func72 (by kernel_rfl) rfl #[.agg #[.int .i64 ((rd_T34 l0 (rd t273 x36_2)).f0), .int .i64 ((rd_T34 l0 (rd t273 x36_2)).f1), .int .i64 ((rd_T34 l0 (rd t273 x36_2)).f2), .int .i64 ((rd_T34 l0 (rd t273 x36_2)).f3), .int .i64 ((rd_T34 l0 (rd t273 x36_2)).f4), .int .i64 ((rd_T34 l0 (rd t273 x36_2)).f5)]] rfl (by (try simp only [List.map_toArray, List.map_cons, List.map_nil]); first | done | rfl | (simp only [List.length_drop, List.length_take]; rfl)) ?_; (with_reducible refine (table_isLeaf.calls ((rd_T34 l0 (rd t273 x36_2)).f0) ((rd_T34 l0 (rd t273 x36_2)).f1) ((rd_T34 l0 (rd t273 x36_2)).f2) ((rd_T34 l0 (rd t273 x36_2)).f3) ((rd_T34 l0 (rd t273 x36_2)).f4) ((rd_T34 l0 (rd t273 x36_2)).f5) false _ A27.out).mono ?_); rintro e w42 ⟨rfl, hb⟩; refine ⟨_, rfl, ?_⟩; have n0_ := Am (Kd.R_below (by (with_reducible repeat (first | apply Kd.R_alloc | apply Kd.R_drewN | apply Kd.R_drew)); exact (Kd.R_mono (Kd.R_far (p := ⟨gb286, 5, none⟩) (Kd.R_far (p := ⟨gb286, 4, none⟩) (Kd.R_far (p := ⟨gb286, 3, none⟩) (Kd.R_far (p := ⟨gb286, 2, none⟩) (Kd.R_far (p := ⟨gb286, 1, none⟩) (Kd.R_far (p := ⟨gb286, 0, none⟩) (Kd.R_types HO_6.out BK286.out (by decide)) (fun _ hk => hk.2) (.int .i64 ((rd_T34 l0 (rd t273 x36_2)).f0))) (fun _ hk => hk.2) (.int .i64 ((rd_T34 l0 (rd t273 x36_2)).f1))) (fun _ hk => hk.2) (.int .i64 ((rd_T34 l0 (rd t273 x36_2)).f2))) (fun _ hk => hk.2) (.int .i64 ((rd_T34 l0 (rd t273 x36_2)).f3))) (fun _ hk => hk.2) (.int .i64 ((rd_T34 l0 (rd t273 x36_2)).f4))) (fun _ hk => hk.2) (.int .i64 ((rd_T34 l0 (rd t273 x36_2)).f5))) (fun _ h_ => h_.1))) hb); have n1_ := Am (Kd.R_below (by (with_reducible repeat (first | apply Kd.R_alloc | apply Kd.R_drewN | apply Kd.R_drew)); exact (Kd.R_mono (Kd.R_far (p := ⟨gb286, 5, none⟩) (Kd.R_far (p := ⟨gb286, 4, none⟩) (Kd.R_far (p := ⟨gb286, 3, none⟩) (Kd.R_far (p := ⟨gb286, 2, none⟩) (Kd.R_far (p := ⟨gb286, 1, none⟩) (Kd.R_far (p := ⟨gb286, 0, none⟩) (Kd.R_mono HO_9.out (fun k_ hk => (⟨hk, hk.2⟩ : _ ∧ k_ ≠ gb286))) (fun _ hk => hk.2) (.int .i64 ((rd_T34 l0 (rd t273 x36_2)).f0))) (fun _ hk => hk.2) (.int .i64 ((rd_T34 l0 (rd t273 x36_2)).f1))) (fun _ hk => hk.2) (.int .i64 ((rd_T34 l0 (rd t273 x36_2)).f2))) (fun _ hk => hk.2) (.int .i64 ((rd_T34 l0 (rd t273 x36_2)).f3))) (fun _ hk => hk.2) (.int .i64 ((rd_T34 l0 (rd t273 x36_2)).f4))) (fun _ hk => hk.2) (.int .i64 ((rd_T34 l0 (rd t273 x36_2)).f5))) (fun _ h_ => h_.1))) hb); have n2_ := Am (Kd.R_below (by (with_reducible repeat (first | apply Kd.R_alloc | apply Kd.R_drewN | apply Kd.R_drew)); exact (Kd.R_mono (Kd.R_far (p := ⟨gb286, 5, none⟩) (Kd.R_far (p := ⟨gb286, 4, none⟩) (Kd.R_far (p := ⟨gb286, 3, none⟩) (Kd.R_far (p := ⟨gb286, 2, none⟩) (Kd.R_far (p := ⟨gb286, 1, none⟩) (Kd.R_far (p := ⟨gb286, 0, none⟩) (Kd.R_types HO_34.out BK286.out (by decide)) (fun _ hk => hk.2) (.int .i64 ((rd_T34 l0 (rd t273 x36_2)).f0))) (fun _ hk => hk.2) (.int .i64 ((rd_T34 l0 (rd t273 x36_2)).f1))) (fun _ hk => hk.2) (.int .i64 ((rd_T34 l0 (rd t273 x36_2)).f2))) (fun _ hk => hk.2) (.int .i64 ((rd_T34 l0 (rd t273 x36_2)).f3))) (fun _ hk => hk.2) (.int .i64 ((rd_T34 l0 (rd t273 x36_2)).f4))) (fun _ hk => hk.2) (.int .i64 ((rd_T34 l0 (rd t273 x36_2)).f5))) (fun _ h_ => h_.1))) hb); have n3_ := Am (blk_below (g := gb286) (o := .cells #[.int .i64 ((rd_T34 l0 (rd t273 x36_2)).f0), .int .i64 ((rd_T34 l0 (rd t273 x36_2)).f1), .int .i64 ((rd_T34 l0 (rd t273 x36_2)).f2), .int .i64 ((rd_T34 l0 (rd t273 x36_2)).f3), .int .i64 ((rd_T34 l0 (rd t273 x36_2)).f4), .int .i64 ((rd_T34 l0 (rd t273 x36_2)).f5)] 34 (0, 0)) (by (with_reducible repeat (first | refine blk_drewN ?_ _ | refine blk_drew ?_ | refine blk_alloc ?_ _)); refine blk_put (cs := #[.int .i64 ((rd_T34 l0 (rd t273 x36_2)).f0), .int .i64 ((rd_T34 l0 (rd t273 x36_2)).f1), .int .i64 ((rd_T34 l0 (rd t273 x36_2)).f2), .int .i64 ((rd_T34 l0 (rd t273 x36_2)).f3), .int .i64 ((rd_T34 l0 (rd t273 x36_2)).f4), .int .i64 0]) ?_ 5 _ rfl; (with_reducible repeat (first | refine blk_drewN ?_ _ | refine blk_drew ?_ | refine blk_alloc ?_ _)); refine blk_put (cs := #[.int .i64 ((rd_T34 l0 (rd t273 x36_2)).f0), .int .i64 ((rd_T34 l0 (rd t273 x36_2)).f1), .int .i64 ((rd_T34 l0 (rd t273 x36_2)).f2), .int .i64 ((rd_T34 l0 (rd t273 x36_2)).f3), .int .i64 0, .int .i64 0]) ?_ 4 _ rfl; (with_reducible repeat (first | refine blk_drewN ?_ _ | refine blk_drew ?_ | refine blk_alloc ?_ _)); refine blk_put (cs := #[.int .i64 ((rd_T34 l0 (rd t273 x36_2)).f0), .int .i64 ((rd_T34 l0 (rd t273 x36_2)).f1), .int .i64 ((rd_T34 l0 (rd t273 x36_2)).f2), .int .i64 0, .int .i64 0, .int .i64 0]) ?_ 3 _ rfl; (with_reducible repeat (first | refine blk_drewN ?_ _ | refine blk_drew ?_ | refine blk_alloc ?_ _)); refine blk_put (cs := #[.int .i64 ((rd_T34 l0 (rd t273 x36_2)).f0), .int .i64 ((rd_T34 l0 (rd t273 x36_2)).f1), .int .i64 0, .int .i64 0, .int .i64 0, .int .i64 0]) ?_ 2 _ rfl; (with_reducible repeat (first | refine blk_drewN ?_ _ | refine blk_drew ?_ | refine blk_alloc ?_ _)); refine blk_put (cs := #[.int .i64 ((rd_T34 l0 (rd t273 x36_2)).f0), .int .i64 0, .int .i64 0, .int .i64 0, .int .i64 0, .int .i64 0]) ?_ 1 _ rfl; (with_reducible repeat (first | refine blk_drewN ?_ _ | refine blk_drew ?_ | refine blk_alloc ?_ _)); refine blk_put (cs := #[.int .i64 0, .int .i64 0, .int .i64 0, .int .i64 0, .int .i64 0, .int .i64 0]) ?_ 0 _ rfl; (with_reducible repeat (first | refine blk_drewN ?_ _ | refine blk_drew ?_ | refine blk_alloc ?_ _)); exact BK286.out) hb); have n4_ := Am (below_step (by repeat (first | (with_reducible first | exact HB.out | apply ba | apply bn | apply bd | refine below_set ?_ GE286.out) | exact HB.out)) hb); clear HO_6; clear HO_9; clear HO_34; clear BK286; clear HB; have HO_6 := n0_; have HO_9 := n1_; have HO_34 := n2_; have BK286 := n3_; have HB := n4_; clear n0_ n1_ n2_ n3_ n4_; (try clear hb); (try clear hb2); (try clear hk); (try clear hi); have hcz43_0 : w42.cell? ⟨gb286, 0, none⟩ = some (.int .i64 ((rd_T34 l0 (rd t273 x36_2)).f0)) := (blk_cell BK286.out 0).trans rfl; have hcz43_1 : w42.cell? ⟨gb286, 1, none⟩ = some (.int .i64 ((rd_T34 l0 (rd t273 x36_2)).f1)) := (blk_cell BK286.out 1).trans rfl; have hcz43_2 : w42.cell? ⟨gb286, 2, none⟩ = some (.int .i64 ((rd_T34 l0 (rd t273 x36_2)).f2)) := (blk_cell BK286.out 2).trans rfl; have hcz43_3 : w42.cell? ⟨gb286, 3, none⟩ = some (.int .i64 ((rd_T34 l0 (rd t273 x36_2)).f3)) := (blk_cell BK286.out 3).trans rfl; have hcz43_4 : w42.cell? ⟨gb286, 4, none⟩ = some (.int .i64 ((rd_T34 l0 (rd t273 x36_2)).f4)) := (blk_cell BK286.out 4).trans rfl; have hcz43_5 : w42.cell? ⟨gb286, 5, none⟩ = some (.int .i64 ((rd_T34 l0 (rd t273 x36_2)).f5)) := (blk_cell BK286.out 5).trans rfl; have hfz43_0 := blk_frozen BK286.out 0; have hfz43_1 := blk_frozen BK286.out 1; have hfz43_2 := blk_frozen BK286.out 2; have hfz43_3 := blk_frozen BK286.out 3; have hfz43_4 := blk_frozen BK286.out 4; have hfz43_5 := blk_frozen BK286.out 5; obtain ⟨Ao44, co44, eo44⟩ := Kd.R_slice HO_6.out; subst eo44; have p291 : 0 ≤ (((rd_T34 l0 (rd t273 x36_2)).f4) : Int) := of_decide_eq_true (by first | (with_reducible assumption) | assumption); have q291 : ((rd_T34 l0 (rd t273 x36_2)).f4) < (x6_1.length : Int) := of_decide_eq_true (by first | (with_reducible assumption) | assumption); obtain ⟨ad291, e291, hx291_0⟩ := Kd.at_int (Kd.R_reads' HO_6.out).2.2 ((rd_T34 l0 (rd t273 x36_2)).f4) p291 q291; cases e291; replace p291 := eq_true p291; replace q291 := eq_true q291; have p292 : 0 ≤ (((rd_T34 l0 (rd t273 x36_2)).f5) : Int) := of_decide_eq_true (by first | (with_reducible assumption) | assumption); have q292 : ((rd_T34 l0 (rd t273 x36_2)).f5) < (x6_1.length : Int) := of_decide_eq_true (by first | (with_reducible assumption) | assumption); obtain ⟨ad292, e292, hx292_0⟩ := Kd.at_int (Kd.R_reads' HO_6.out).2.2 ((rd_T34 l0 (rd t273 x36_2)).f5) p292 q292; obtain rfl : ad291 = ad292 := (by injection e292); replace p292 := eq_true p292; replace q292 := eq_true q292))
                     have hneB : ad291.block ≠ gb286 := ((Kd.R_types HO_6.out BK286.out (by decide)).1 _ rfl).2
                     have hne5 : (⟨gb286, 4, none⟩ : Addr) ≠ ad291.add (((rd_T34 l0 (rd t273 x36_2)).f5) : Int).toNat := fun e_ => hneB (by rw [← add_block ad291 (((rd_T34 l0 (rd t273 x36_2)).f5) : Int).toNat, ← e_])
                     go_region
                     rw [show ((w42.setCell ⟨gb286, 4, none⟩ (.int .i64 (rd x6_1 ((rd_T34 l0 (rd t273 x36_2)).f4)))).setCell ⟨gb286, 5, none⟩ (.int .i64 (rd x6_1 ((rd_T34 l0 (rd t273 x36_2)).f5)))).drew = ((w42.drew.setCell ⟨gb286, 4, none⟩ (.int .i64 (rd x6_1 ((rd_T34 l0 (rd t273 x36_2)).f4)))).setCell ⟨gb286, 5, none⟩ (.int .i64 (rd x6_1 ((rd_T34 l0 (rd t273 x36_2)).f5)))) from rfl]
                     have n0_ := Am (Kd.R_drew HO_6.out)
                     have n1_ := Am (Kd.R_drew HO_9.out)
                     have n2_ := Am (Kd.R_drew HO_34.out)
                     have n3_ := Am (blk_drew BK286.out)
                     have n4_ := Am (bd HB.out)
                     clear HO_6 HO_9 HO_34 BK286 HB hcz43_0 hfz43_0 hcz43_1 hfz43_1 hcz43_2 hfz43_2 hcz43_3 hfz43_3 hcz43_4 hfz43_4 hcz43_5 hfz43_5 hx291_0 hx292_0 hneB hne5
                     generalize w42.drew = w42d at n0_ n1_ n2_ n3_ n4_ ⊢
                     have HO_6 := n0_
                     have HO_9 := n1_
                     have HO_34 := n2_
                     have BK286 := n3_
                     have HB := n4_
                     clear n0_ n1_ n2_ n3_ n4_
                     have hcz43_0 : w42d.cell? ⟨gb286, 0, none⟩ = some (.int .i64 ((rd_T34 l0 (rd t273 x36_2)).f0)) := (blk_cell BK286.out 0).trans rfl
                     have hcz43_1 : w42d.cell? ⟨gb286, 1, none⟩ = some (.int .i64 ((rd_T34 l0 (rd t273 x36_2)).f1)) := (blk_cell BK286.out 1).trans rfl
                     have hcz43_2 : w42d.cell? ⟨gb286, 2, none⟩ = some (.int .i64 ((rd_T34 l0 (rd t273 x36_2)).f2)) := (blk_cell BK286.out 2).trans rfl
                     have hcz43_3 : w42d.cell? ⟨gb286, 3, none⟩ = some (.int .i64 ((rd_T34 l0 (rd t273 x36_2)).f3)) := (blk_cell BK286.out 3).trans rfl
                     have hcz43_4 : w42d.cell? ⟨gb286, 4, none⟩ = some (.int .i64 ((rd_T34 l0 (rd t273 x36_2)).f4)) := (blk_cell BK286.out 4).trans rfl
                     have hcz43_5 : w42d.cell? ⟨gb286, 5, none⟩ = some (.int .i64 ((rd_T34 l0 (rd t273 x36_2)).f5)) := (blk_cell BK286.out 5).trans rfl
                     go_wp2_with (first | ((with_reducible refine gate_builtin (b := .append) (xs := #[.tmp 59, .tmp 61]) rfl ?_); at_builtin; refine Kd.R_append k34 (w0 := w) w.heap.size rfl (.tmp 59) (.tmp 61) 22 34 (.agg #[(.int .i64 0), (.int .i64 0), (.int .i64 0), (.int .i64 0), (.int .i64 0), (.int .i64 0)]) 48 rfl Try.underlying22 info34 rfl (by decide) (by omega) u9 x9_2 (⟨(rd_T34 l0 (rd t273 x36_2)).f0, (rd_T34 l0 (rd t273 x36_2)).f1, (rd_T34 l0 (rd t273 x36_2)).f2, (rd_T34 l0 (rd t273 x36_2)).f3, rd x6_1 ((rd_T34 l0 (rd t273 x36_2)).f4), rd x6_1 ((rd_T34 l0 (rd t273 x36_2)).f5)⟩ : S34) [.int .i64 ((rd_T34 l0 (rd t273 x36_2)).f0), .int .i64 ((rd_T34 l0 (rd t273 x36_2)).f1), .int .i64 ((rd_T34 l0 (rd t273 x36_2)).f2), .int .i64 ((rd_T34 l0 (rd t273 x36_2)).f3), .int .i64 (rd x6_1 ((rd_T34 l0 (rd t273 x36_2)).f4)), .int .i64 (rd x6_1 ((rd_T34 l0 (rd t273 x36_2)).f5))] (fun k_ => k_ ≠ gb286) (fun _ => False) rfl (by first | (go_simp; done) | (go_simp; rfl)) ?aP (fun _ hk => hk.elim) ?aF ?aO ?aB ?aS ?aL ?_; (case aP => exact k34_mkM _ _ _ (⟨(rd_T34 l0 (rd t273 x36_2)).f0, (rd_T34 l0 (rd t273 x36_2)).f1, (rd_T34 l0 (rd t273 x36_2)).f2, (rd_T34 l0 (rd t273 x36_2)).f3, rd x6_1 ((rd_T34 l0 (rd t273 x36_2)).f4), rd x6_1 ((rd_T34 l0 (rd t273 x36_2)).f5)⟩ : S34)); (case aB => exact (by repeat (first | (with_reducible first | exact HB.out | apply ba | apply bn | apply bd | refine below_set ?_ GE286.out) | exact HB.out))); (case aF => exact (fun k_ hk => Kd.freshB (g := gb286) (o := .cells #[.int .i64 ((rd_T34 l0 (rd t273 x36_2)).f0), .int .i64 ((rd_T34 l0 (rd t273 x36_2)).f1), .int .i64 ((rd_T34 l0 (rd t273 x36_2)).f2), .int .i64 ((rd_T34 l0 (rd t273 x36_2)).f3), .int .i64 (rd x6_1 ((rd_T34 l0 (rd t273 x36_2)).f4)), .int .i64 (rd x6_1 ((rd_T34 l0 (rd t273 x36_2)).f5))] 34 (0, 0)) (by (with_reducible repeat (first | refine blk_drewN ?_ _ | refine blk_drew ?_ | refine blk_alloc ?_ _)); refine blk_put (cs := #[.int .i64 ((rd_T34 l0 (rd t273 x36_2)).f0), .int .i64 ((rd_T34 l0 (rd t273 x36_2)).f1), .int .i64 ((rd_T34 l0 (rd t273 x36_2)).f2), .int .i64 ((rd_T34 l0 (rd t273 x36_2)).f3), .int .i64 (rd x6_1 ((rd_T34 l0 (rd t273 x36_2)).f4)), .int .i64 ((rd_T34 l0 (rd t273 x36_2)).f5)]) ?_ 5 _ rfl; (with_reducible repeat (first | refine blk_drewN ?_ _ | refine blk_drew ?_ | refine blk_alloc ?_ _)); refine blk_put (cs := #[.int .i64 ((rd_T34 l0 (rd t273 x36_2)).f0), .int .i64 ((rd_T34 l0 (rd t273 x36_2)).f1), .int .i64 ((rd_T34 l0 (rd t273 x36_2)).f2), .int .i64 ((rd_T34 l0 (rd t273 x36_2)).f3), .int .i64 ((rd_T34 l0 (rd t273 x36_2)).f4), .int .i64 ((rd_T34 l0 (rd t273 x36_2)).f5)]) ?_ 4 _ rfl; (with_reducible repeat (first | refine blk_drewN ?_ _ | refine blk_drew ?_ | refine blk_alloc ?_ _)); exact BK286.out) k_ hk)); (case aO => exact (by (with_reducible repeat (first | apply Kd.R_alloc | apply Kd.R_drewN | apply Kd.R_drew)); exact Kd.R_mono (Kd.R_far (p := ⟨gb286, 5, none⟩) (Kd.R_far (p := ⟨gb286, 4, none⟩) (Kd.R_mono HO_9.out (fun k_ hk => (⟨hk, hk.2⟩ : _ ∧ k_ ≠ gb286))) (fun _ hk => hk.2) (.int .i64 (rd x6_1 ((rd_T34 l0 (rd t273 x36_2)).f4)))) (fun _ hk => hk.2) (.int .i64 (rd x6_1 ((rd_T34 l0 (rd t273 x36_2)).f5)))) (fun _ hk => hk.1.2))); (case aS => exact (below_size (by repeat (first | (with_reducible first | exact HB.out | apply ba | apply bn | apply bd | refine below_set ?_ GE286.out) | exact HB.out)))); (case aL => have := LMc39.out; omega); intro v294 w45 ho hb hg hat; rw [← Ny293.out] at ho; have n0_ := Am (Kd.R_over' (by (with_reducible repeat (first | apply Kd.R_alloc | apply Kd.R_drewN | apply Kd.R_drew)); exact (Kd.R_mono (Kd.R_far (p := ⟨gb286, 5, none⟩) (Kd.R_far (p := ⟨gb286, 4, none⟩) (Kd.R_types HO_6.out BK286.out (by decide)) (fun _ hk => hk.2) (.int .i64 (rd x6_1 ((rd_T34 l0 (rd t273 x36_2)).f4)))) (fun _ hk => hk.2) (.int .i64 (rd x6_1 ((rd_T34 l0 (rd t273 x36_2)).f5)))) (fun _ h_ => h_.1))) (Kd.R_typed (by (with_reducible repeat (first | apply Kd.R_alloc | apply Kd.R_drewN | apply Kd.R_drew)); exact (Kd.R_mono (Kd.R_far (p := ⟨gb286, 5, none⟩) (Kd.R_far (p := ⟨gb286, 4, none⟩) (Kd.R_mono HO_9.out (fun k_ hk => (⟨hk, hk.2⟩ : _ ∧ k_ ≠ gb286))) (fun _ hk => hk.2) (.int .i64 (rd x6_1 ((rd_T34 l0 (rd t273 x36_2)).f4)))) (fun _ hk => hk.2) (.int .i64 (rd x6_1 ((rd_T34 l0 (rd t273 x36_2)).f5)))) (fun _ h_ => h_.1)))) (by decide) hg); have n1_ := Am (Kd.R_over' (by (with_reducible repeat (first | apply Kd.R_alloc | apply Kd.R_drewN | apply Kd.R_drew)); exact (Kd.R_mono (Kd.R_far (p := ⟨gb286, 5, none⟩) (Kd.R_far (p := ⟨gb286, 4, none⟩) (Kd.R_types HO_34.out BK286.out (by decide)) (fun _ hk => hk.2) (.int .i64 (rd x6_1 ((rd_T34 l0 (rd t273 x36_2)).f4)))) (fun _ hk => hk.2) (.int .i64 (rd x6_1 ((rd_T34 l0 (rd t273 x36_2)).f5)))) (fun _ h_ => h_.1))) (Kd.R_typed (by (with_reducible repeat (first | apply Kd.R_alloc | apply Kd.R_drewN | apply Kd.R_drew)); exact (Kd.R_mono (Kd.R_far (p := ⟨gb286, 5, none⟩) (Kd.R_far (p := ⟨gb286, 4, none⟩) (Kd.R_mono HO_9.out (fun k_ hk => (⟨hk, hk.2⟩ : _ ∧ k_ ≠ gb286))) (fun _ hk => hk.2) (.int .i64 (rd x6_1 ((rd_T34 l0 (rd t273 x36_2)).f4)))) (fun _ hk => hk.2) (.int .i64 (rd x6_1 ((rd_T34 l0 (rd t273 x36_2)).f5)))) (fun _ h_ => h_.1)))) (by decide) hg); have n2_ := Am (blk_grown (g := gb286) (o := .cells #[.int .i64 ((rd_T34 l0 (rd t273 x36_2)).f0), .int .i64 ((rd_T34 l0 (rd t273 x36_2)).f1), .int .i64 ((rd_T34 l0 (rd t273 x36_2)).f2), .int .i64 ((rd_T34 l0 (rd t273 x36_2)).f3), .int .i64 (rd x6_1 ((rd_T34 l0 (rd t273 x36_2)).f4)), .int .i64 (rd x6_1 ((rd_T34 l0 (rd t273 x36_2)).f5))] 34 (0, 0)) (by (with_reducible repeat (first | refine blk_drewN ?_ _ | refine blk_drew ?_ | refine blk_alloc ?_ _)); refine blk_put (cs := #[.int .i64 ((rd_T34 l0 (rd t273 x36_2)).f0), .int .i64 ((rd_T34 l0 (rd t273 x36_2)).f1), .int .i64 ((rd_T34 l0 (rd t273 x36_2)).f2), .int .i64 ((rd_T34 l0 (rd t273 x36_2)).f3), .int .i64 (rd x6_1 ((rd_T34 l0 (rd t273 x36_2)).f4)), .int .i64 ((rd_T34 l0 (rd t273 x36_2)).f5)]) ?_ 5 _ rfl; (with_reducible repeat (first | refine blk_drewN ?_ _ | refine blk_drew ?_ | refine blk_alloc ?_ _)); refine blk_put (cs := #[.int .i64 ((rd_T34 l0 (rd t273 x36_2)).f0), .int .i64 ((rd_T34 l0 (rd t273 x36_2)).f1), .int .i64 ((rd_T34 l0 (rd t273 x36_2)).f2), .int .i64 ((rd_T34 l0 (rd t273 x36_2)).f3), .int .i64 ((rd_T34 l0 (rd t273 x36_2)).f4), .int .i64 ((rd_T34 l0 (rd t273 x36_2)).f5)]) ?_ 4 _ rfl; (with_reducible repeat (first | refine blk_drewN ?_ _ | refine blk_drew ?_ | refine blk_alloc ?_ _)); exact BK286.out) hg (Kd.R_away HO_9.out (fun _ hk => hk.2))); have n3_ := Am (hb); have n4_ := Am (ho); clear HO_6; clear HO_34; clear BK286; clear HB; clear HO_9; have HO_6 := n0_; have HO_34 := n1_; have BK286 := n2_; have HB := n3_; have HO295 := n4_; clear n0_ n1_ n2_ n3_ n4_; clear ho hb hg hat))
                     go_roundg k2
                     case measure => have := HK1.out; have := HK2.out; omega
                     case rel => exact ⟨(y293), (wrap64 (x36_2 + 1)), (by first | rfl | (simp; done) | (simp [*]; done)), H', ⟨by have := HK1.out; have := HK2.out; omega⟩, ⟨by (with_reducible repeat (first | apply Kd.R_alloc | apply Kd.R_drewN | apply Kd.R_drew)); exact HO_6.out⟩, ⟨by (with_reducible repeat (first | apply Kd.R_alloc | apply Kd.R_drewN | apply Kd.R_drew)); exact Kd.R_mono HO295.out (fun _ hk => trivial)⟩, ⟨by (with_reducible repeat (first | apply Kd.R_alloc | apply Kd.R_drewN | apply Kd.R_drew)); exact HO_34.out⟩, ⟨by repeat (first | (with_reducible first | exact HB.out | apply ba | apply bn | apply bd | refine below_set ?_ GE286.out) | exact HB.out)⟩⟩
                    ·rw [if_neg c39] at H
                     exact absurd H (by simp)
                   ·rw [if_neg c38] at H
                    exact absurd H (by simp)
                  ·rw [if_neg c37] at H
                   exact absurd H (by simp)
                 ·rw [if_neg c36] at H
                  exact absurd H (by simp)
                ·rw [if_neg c35] at H
                 exact absurd H (by simp)
              ·rw [if_neg c26] at H
               exact absurd H (by simp)
             ·rw [if_neg c25] at H
              exact absurd H (by simp)
            ·rw [if_neg c24] at H
             exact absurd H (by simp)
           ·rw [if_neg c23] at H
            exact absurd H (by simp)
          ·rw [if_neg c22] at H
           have c22b0 : decide (x36_2 < (t273.length : Int)) = false := decide_eq_false c22
           clear c22
           obtain rfl := Option.some.inj H
           go_wp2
           go_ret
           exact ⟨_, by first | rfl | (simp [errW_none, errW_some] <;> rfl) | (simp [*, errW_none, errW_some] <;> rfl), by (with_reducible repeat (first | apply Kd.R_alloc | apply Kd.R_drewN | apply Kd.R_drew)); exact HO_9.out, by repeat (first | (with_reducible first | exact HB.out | apply ba | apply bn | apply bd) | exact HB.out)⟩
       ·rw [if_neg c19] at H
        exact absurd H (by simp)
      ·rw [if_neg c18] at H
       exact absurd H (by simp)
  ·rw [if_neg c5] at H
   exact absurd H (by simp)
 ·rw [if_neg c4] at H
  exact absurd H (by simp)
def table_Norm.f (k : Nat) (l0 : List (S34)) : Option ((List (S34)) × Int) := (table_Check.f k l0).bind fun t296 => (if t296 = 0 then ((table_sub.f k l0 0).bind fun t297 => (some (t297, 0))) else (some (([] : List (S34)), t296)))
theorem table_Norm.mono : ∀ a0 k, LeO (table_Norm.f k a0) (table_Norm.f (k + 1) a0) := by
 intro a0 k
 unfold table_Norm.f
 repeat' first
   | (with_reducible exact table_Check.mono _ _)
   | (with_reducible exact table_sub.mono _ _ _)
   | (with_reducible exact LeO.refl _)
   | (with_reducible exact LeO.none _)
   | (with_reducible refine LeO.ite ?_ ?_)
   | (with_reducible refine LeO.bind ?_ (fun _ => ?_))
   | exact table_Check.mono _ _
   | exact table_sub.mono _ _ _
   | exact LeO.none _
   | refine LeO.ite ?_ ?_
   | refine LeO.bind ?_ (fun _ => ?_)
set_option maxHeartbeats 8000000 in
set_option maxRecDepth 100000 in
theorem table_Norm.calls (k : Nat) (A0 : Option Addr) (c0 : Nat) (l0 : List (S34)) (r1 : List (S34)) (r2 : Int) (w : World) (hr0 : Kd.C k34 w A0 l0.length l0) (hc0 : l0.length ≤ c0) (h : table_Norm.f k l0 = some (r1, r2)) :
  Calls Try.prog 35 #[.slice A0 l0.length c0] w fun e w' => ∃ v0_ : Value, e = .returned (.tuple #[v0_, .int .i64 r2]) ∧ Kd.R k34 34 w' w.heap.size (fun _ => True) v0_ r1 ∧ Below w.heap.size w w' := by
 have HR0 := Am hr0
 have HC0 := Am hc0
 clear hr0 hc0
 have HB := Am (Below.refl w.heap.size w)
 have H : ((table_Check.f k l0).bind fun t296 => (if t296 = 0 then ((table_sub.f k l0 0).bind fun t297 => (some (t297, 0))) else (some (([] : List (S34)), t296)))) = some (r1, r2) := h
 clear h
 replace H := Option.bind_eq_some_iff.mp H
 obtain ⟨t296, A20, H⟩ := H
 replace H : (if t296 = 0 then ((table_sub.f k l0 0).bind fun t297 => (some (t297, 0))) else (some (([] : List (S34)), t296))) = some (r1, r2) := H
 have A2 := Am A20
 clear A20
 by_cases c3 : t296 = 0
 ·rw [if_pos c3] at H
  have c3b0 : (t296 == 0) = true := beq_iff_eq.mpr c3
  have c3b1 : (t296 != 0) = false := bne_eq_false_iff_eq.mpr c3
  clear c3
  replace H := Option.bind_eq_some_iff.mp H
  obtain ⟨t297, A40, H⟩ := H
  replace H : (some (t297, 0)) = some (r1, r2) := H
  have A4 := Am A40
  clear A40
  simp only [Option.some.injEq, Prod.mk.injEq] at H
  obtain ⟨rfl, rfl⟩ := H
  go_enter Try.func35, Try.ntmps35
  go_wp2_with (first | ((with_reducible refine gate_callee (f := 41) rfl ?_); refine goesL_ (some 6) rfl rfl Try.func41 (by kernel_rfl) rfl #[.slice A0 l0.length c0] rfl (by (try simp only [List.map_toArray, List.map_cons, List.map_nil]); first | done | rfl | (simp only [List.length_drop, List.length_take]; rfl)) ?_; (with_reducible refine (table_Check.calls k _ _ l0 t296 _ ?side1 ?side2 A2.out).mono ?_); (case side1 => repeat (first | exact HR0.out | (with_reducible refine Kd.C_alloc ?_ _) | (with_reducible refine Kd.C_drewN ?_ _) | (with_reducible refine Kd.C_drew ?_))); (case side2 => exact HC0.out); rintro e w5 ⟨rfl, hb⟩; refine ⟨_, rfl, ?_⟩; have n0_ := Am (below_step (by repeat (first | (with_reducible first | exact HB.out | apply ba | apply bn | apply bd) | exact HB.out)) hb); clear HB; have HB := n0_; clear n0_; (try clear hb); (try clear hb2); (try clear hk); (try clear hi)) | ((with_reducible refine gate_callee (f := 70) rfl ?_); refine goesL_ (some 11) rfl rfl Try.func70 (by kernel_rfl) rfl #[.slice A0 l0.length c0, .int .i64 0] rfl (by (try simp only [List.map_toArray, List.map_cons, List.map_nil]); first | done | rfl | (simp only [List.length_drop, List.length_take]; rfl)) ?_; (with_reducible refine (table_sub.calls k _ _ l0 0 t297 _ ?side1 ?side2 A4.out).mono ?_); (case side1 => repeat (first | exact (Kd.C_below HR0.out HB.out) | (with_reducible refine Kd.C_alloc ?_ _) | (with_reducible refine Kd.C_drewN ?_ _) | (with_reducible refine Kd.C_drew ?_))); (case side2 => exact HC0.out); rintro e w6 ⟨v298, rfl, ho0, hb⟩; refine ⟨_, rfl, ?_⟩; have n0_ := Am (Kd.R_lower ho0 (below_size (by repeat (first | (with_reducible first | exact HB.out | apply ba | apply bn | apply bd) | exact HB.out)))); have n1_ := Am (below_step (by repeat (first | (with_reducible first | exact HB.out | apply ba | apply bn | apply bd) | exact HB.out)) hb); clear HB; have HO299 := n0_; have HB := n1_; clear n0_ n1_; (try clear hb); (try clear hb2); (try clear hk); (try clear hi); (try clear ho0)))
  go_ret2
  exact ⟨_, by first | rfl | (simp [errW_none, errW_some] <;> rfl) | (simp [*, errW_none, errW_some] <;> rfl), by (with_reducible repeat (first | apply Kd.R_alloc | apply Kd.R_drewN | apply Kd.R_drew)); exact HO299.out, by repeat (first | (with_reducible first | exact HB.out | apply ba | apply bn | apply bd) | exact HB.out)⟩
 ·rw [if_neg c3] at H
  have c3b0 : (t296 == 0) = false := beq_eq_false_iff_ne.mpr c3
  have c3b1 : (t296 != 0) = true := bne_iff_ne.mpr c3
  simp only [Option.some.injEq, Prod.mk.injEq] at H
  obtain ⟨rfl, rfl⟩ := H
  go_enter Try.func35, Try.ntmps35
  go_wp2_with (first | ((with_reducible refine gate_callee (f := 41) rfl ?_); refine goesL_ (some 6) rfl rfl Try.func41 (by kernel_rfl) rfl #[.slice A0 l0.length c0] rfl (by (try simp only [List.map_toArray, List.map_cons, List.map_nil]); first | done | rfl | (simp only [List.length_drop, List.length_take]; rfl)) ?_; (with_reducible refine (table_Check.calls k _ _ l0 t296 _ ?side1 ?side2 A2.out).mono ?_); (case side1 => repeat (first | exact HR0.out | (with_reducible refine Kd.C_alloc ?_ _) | (with_reducible refine Kd.C_drewN ?_ _) | (with_reducible refine Kd.C_drew ?_))); (case side2 => exact HC0.out); rintro e w7 ⟨rfl, hb⟩; refine ⟨_, rfl, ?_⟩; have n0_ := Am (below_step (by repeat (first | (with_reducible first | exact HB.out | apply ba | apply bn | apply bd) | exact HB.out)) hb); clear HB; have HB := n0_; clear n0_; (try clear hb); (try clear hb2); (try clear hk); (try clear hi)))
  go_ret2
  exact ⟨_, by first | rfl | (simp [errW_none, errW_some] <;> rfl) | (simp [*, errW_none, errW_some] <;> rfl), by first | exact Kd.R_nil _ _ _ _ _ | exact Kd.N_nil _ _ _ _ _ | exact Kd.V_nil _ _ _ _ _ | exact Kd.Q_nil _ _ _ _ _ | exact Kd.S_nil _ _ _ _ _, by repeat (first | (with_reducible first | exact HB.out | apply ba | apply bn | apply bd) | exact HB.out)⟩
def table_Leaves.l0 : Nat → List (S34) → List Int → List Int → Int → Int → Option (List Int × Int)
 | 0, _, _, _, _, _ => none
 | k + 1, x0, x5, x14, x15, x16 => if x16 < x15 then (if 0 ≤ x16 then (if x16 < (x14.length : Int) then (if 0 ≤ (rd x14 x16) then (if (rd x14 x16) < (x0.length : Int) then ((table_isLeaf.f ((rd_T34 x0 (rd x14 x16)).f0) ((rd_T34 x0 (rd x14 x16)).f1) ((rd_T34 x0 (rd x14 x16)).f2) ((rd_T34 x0 (rd x14 x16)).f3) ((rd_T34 x0 (rd x14 x16)).f4) ((rd_T34 x0 (rd x14 x16)).f5)).bind fun t306 => (if t306 = true then (if x5.length < 17592186044416 then (table_Leaves.l0 k x0 (x5 ++ [rd x14 x16]) x14 x15 (wrap64 (x16 + 1))) else (none)) else (table_Leaves.l0 k x0 x5 x14 x15 (wrap64 (x16 + 1))))) else (none)) else (none)) else (none)) else (none)) else (some (x5, 0))
def table_Leaves.f (k : Nat) (l0 : List (S34)) : Option (List Int × Int) := (table_Check.f k l0).bind fun t300 => (if t300 = 0 then ((table_order.f k l0 0).bind fun t301 => (table_Leaves.l0 k l0 ([] : List Int) t301 (t301.length : Int) 0)) else (some (([] : List Int), t300)))
theorem table_Leaves.mono_l : ∀ k, (∀ y0 y1 y2 y3 y4, LeO (table_Leaves.l0 k y0 y1 y2 y3 y4) (table_Leaves.l0 (k + 1) y0 y1 y2 y3 y4))
 | 0 => fun _ _ _ _ _ r h => by simp [table_Leaves.l0] at h
 | k + 1 => by
  have ih0 := table_Leaves.mono_l k
  ·intro y0 y1 y2 y3 y4
   unfold table_Leaves.l0
   repeat' first
   | (with_reducible exact ih0 _ _ _ _ _)
   | (with_reducible exact table_Check.mono _ _)
   | (with_reducible exact table_order.mono _ _ _)
   | (with_reducible exact LeO.refl _)
   | (with_reducible exact LeO.none _)
   | (with_reducible refine LeO.ite ?_ ?_)
   | (with_reducible refine LeO.bind ?_ (fun _ => ?_))
   | exact ih0 _ _ _ _ _
   | exact table_Check.mono _ _
   | exact table_order.mono _ _ _
   | exact LeO.none _
   | refine LeO.ite ?_ ?_
   | refine LeO.bind ?_ (fun _ => ?_)
theorem table_Leaves.mono : ∀ a0 k, LeO (table_Leaves.f k a0) (table_Leaves.f (k + 1) a0) := by
 intro a0 k
 have ih0 := table_Leaves.mono_l k
 unfold table_Leaves.f
 repeat' first
   | (with_reducible exact ih0 _ _ _ _ _)
   | (with_reducible exact table_Check.mono _ _)
   | (with_reducible exact table_order.mono _ _ _)
   | (with_reducible exact LeO.refl _)
   | (with_reducible exact LeO.none _)
   | (with_reducible refine LeO.ite ?_ ?_)
   | (with_reducible refine LeO.bind ?_ (fun _ => ?_))
   | exact ih0 _ _ _ _ _
   | exact table_Check.mono _ _
   | exact table_order.mono _ _ _
   | exact LeO.none _
   | refine LeO.ite ?_ ?_
   | refine LeO.bind ?_ (fun _ => ?_)
set_option maxHeartbeats 8000000 in
set_option maxRecDepth 100000 in
theorem table_Leaves.calls (k : Nat) (A0 : Option Addr) (c0 : Nat) (l0 : List (S34)) (r1 : List Int) (r2 : Int) (w : World) (hr0 : Kd.C k34 w A0 l0.length l0) (hc0 : l0.length ≤ c0) (h : table_Leaves.f k l0 = some (r1, r2)) :
  Calls Try.prog 71 #[.slice A0 l0.length c0] w fun e w' => ∃ v0_ : Value, e = .returned (.tuple #[v0_, .int .i64 r2]) ∧ Kd.R (Kd.int .i64) 3 w' w.heap.size (fun _ => True) v0_ r1 ∧ Below w.heap.size w w' := by
 have hu34 := Try.underlying34
 have HR0 := Am hr0
 have HC0 := Am hc0
 clear hr0 hc0
 have HB := Am (Below.refl w.heap.size w)
 have H : ((table_Check.f k l0).bind fun t300 => (if t300 = 0 then ((table_order.f k l0 0).bind fun t301 => (table_Leaves.l0 k l0 ([] : List Int) t301 (t301.length : Int) 0)) else (some (([] : List Int), t300)))) = some (r1, r2) := h
 clear h
 replace H := Option.bind_eq_some_iff.mp H
 obtain ⟨t300, A20, H⟩ := H
 replace H : (if t300 = 0 then ((table_order.f k l0 0).bind fun t301 => (table_Leaves.l0 k l0 ([] : List Int) t301 (t301.length : Int) 0)) else (some (([] : List Int), t300))) = some (r1, r2) := H
 have A2 := Am A20
 clear A20
 by_cases c3 : t300 = 0
 ·rw [if_pos c3] at H
  have c3b0 : (t300 == 0) = true := beq_iff_eq.mpr c3
  have c3b1 : (t300 != 0) = false := bne_eq_false_iff_eq.mpr c3
  clear c3
  replace H := Option.bind_eq_some_iff.mp H
  obtain ⟨t301, A40, H⟩ := H
  replace H : (table_Leaves.l0 k l0 ([] : List Int) t301 (t301.length : Int) 0) = some (r1, r2) := H
  have A4 := Am A40
  clear A40
  have H' := Am H
  clear H
  go_enter Try.func71, Try.ntmps71
  go_wp2_with (first | ((with_reducible refine gate_callee (f := 41) rfl ?_); refine goesL_ (some 9) rfl rfl Try.func41 (by kernel_rfl) rfl #[.slice A0 l0.length c0] rfl (by (try simp only [List.map_toArray, List.map_cons, List.map_nil]); first | done | rfl | (simp only [List.length_drop, List.length_take]; rfl)) ?_; (with_reducible refine (table_Check.calls k _ _ l0 t300 _ ?side1 ?side2 A2.out).mono ?_); (case side1 => repeat (first | exact HR0.out | (with_reducible refine Kd.C_alloc ?_ _) | (with_reducible refine Kd.C_drewN ?_ _) | (with_reducible refine Kd.C_drew ?_))); (case side2 => exact HC0.out); rintro e w5 ⟨rfl, hb⟩; refine ⟨_, rfl, ?_⟩; have n0_ := Am (below_step (by repeat (first | (with_reducible first | exact HB.out | apply ba | apply bn | apply bd) | exact HB.out)) hb); clear HB; have HB := n0_; clear n0_; (try clear hb); (try clear hb2); (try clear hk); (try clear hi)) | ((with_reducible refine gate_callee (f := 44) rfl ?_); refine goesL_ (some 14) rfl rfl Try.func44 (by kernel_rfl) rfl #[.slice A0 l0.length c0, .int .i64 0] rfl (by (try simp only [List.map_toArray, List.map_cons, List.map_nil]); first | done | rfl | (simp only [List.length_drop, List.length_take]; rfl)) ?_; (with_reducible refine (table_order.calls k _ _ l0 0 t301 _ ?side1 ?side2 A4.out).mono ?_); (case side1 => repeat (first | exact (Kd.C_below HR0.out HB.out) | (with_reducible refine Kd.C_alloc ?_ _) | (with_reducible refine Kd.C_drewN ?_ _) | (with_reducible refine Kd.C_drew ?_))); (case side2 => exact HC0.out); rintro e w6 ⟨v302, rfl, ho0, hb⟩; refine ⟨_, rfl, ?_⟩; have n0_ := Am (Kd.R_lower ho0 (below_size (by repeat (first | (with_reducible first | exact HB.out | apply ba | apply bn | apply bd) | exact HB.out)))); have n1_ := Am (below_step (by repeat (first | (with_reducible first | exact HB.out | apply ba | apply bn | apply bd) | exact HB.out)) hb); clear HB; have HO303 := n0_; have HB := n1_; clear n0_ n1_; (try clear hb); (try clear hb2); (try clear hk); (try clear hi); (try clear ho0); obtain ⟨Ao7, co7, eo7⟩ := Kd.R_slice HO303.out; subst eo7))
  go_loopg [5, 16] k (fun kq v5 v16 w' => ∃ (x5_1 : List Int) (x16_1 : Int), v16 = .int .i64 x16_1 ∧ Aside0 (table_Leaves.l0 kq l0 x5_1 t301 (t301.length : Int) x16_1 = some (r1, r2)) ∧ Aside0 (kq ≤ k) ∧ Aside0 (Kd.R (Kd.int .i64) 3 w' w.heap.size (fun k_ => some k_ ≠ ((.slice Ao7 t301.length co7) : Value).ownBlock) v5 x5_1) ∧ Aside0 (Kd.R (Kd.int .i64) 3 w' w.heap.size (fun k_ => some k_ ≠ (v5 : Value).ownBlock) (.slice Ao7 t301.length co7) t301) ∧ Aside0 (Below w.heap.size w w'))
  case atStart => exact ⟨(([] : List Int)), (0), (by first | rfl | (simp; done) | (simp [*]; done)), H', ⟨Nat.le_refl _⟩, ⟨by first | exact Kd.R_nil _ _ _ _ _ | exact Kd.N_nil _ _ _ _ _ | exact Kd.V_nil _ _ _ _ _ | exact Kd.Q_nil _ _ _ _ _ | exact Kd.S_nil _ _ _ _ _⟩, ⟨by (with_reducible repeat (first | apply Kd.R_alloc | apply Kd.R_drewN | apply Kd.R_drew)); exact Kd.R_mono HO303.out (fun _ hk => (by simp [Value.ownBlock]))⟩, ⟨by repeat (first | (with_reducible first | exact HB.out | apply ba | apply bn | apply bd) | exact HB.out)⟩⟩
  case round =>
   clear H'
   try clear p2
   try clear c3
   try clear c3b0
   try clear c3b1
   try clear c4
   try clear c7
   obtain ⟨x5_1, x16_1, rfl, HA, HK1, HO_5, HO_14, HB⟩ := hrel
   cases gk with
   | zero => exact absurd HA.out (by simp [table_Leaves.l0])
   | succ k1 =>
    have H := HA.out
    clear HA
    simp only [table_Leaves.l0] at H
    by_cases c8 : x16_1 < (t301.length : Int)
    ·rw [if_pos c8] at H
     have c8b0 : decide (x16_1 < (t301.length : Int)) = true := decide_eq_true c8
     clear c8
     by_cases c9 : 0 ≤ x16_1
     ·rw [if_pos c9] at H
      have c9b0 : decide (0 ≤ x16_1) = true := decide_eq_true c9
      clear c9
      by_cases c10 : x16_1 < (t301.length : Int)
      ·rw [if_pos c10] at H
       have c10b0 : decide (x16_1 < (t301.length : Int)) = true := decide_eq_true c10
       clear c10
       by_cases c11 : 0 ≤ (rd t301 x16_1)
       ·rw [if_pos c11] at H
        have c11b0 : decide (0 ≤ (rd t301 x16_1)) = true := decide_eq_true c11
        clear c11
        by_cases c12 : (rd t301 x16_1) < (l0.length : Int)
        ·rw [if_pos c12] at H
         have c12b0 : decide ((rd t301 x16_1) < (l0.length : Int)) = true := decide_eq_true c12
         clear c12
         replace H := Option.bind_eq_some_iff.mp H
         obtain ⟨t306, A130, H⟩ := H
         replace H : (if t306 = true then (if x5_1.length < 17592186044416 then (table_Leaves.l0 k1 l0 (x5_1 ++ [rd t301 x16_1]) t301 (t301.length : Int) (wrap64 (x16_1 + 1))) else (none)) else (table_Leaves.l0 k1 l0 x5_1 t301 (t301.length : Int) (wrap64 (x16_1 + 1)))) = some (r1, r2) := H
         have A13 := Am A130
         clear A130
         by_cases c14 : t306 = true
         ·subst c14
          have H1 : (if x5_1.length < 17592186044416 then (table_Leaves.l0 k1 l0 (x5_1 ++ [rd t301 x16_1]) t301 (t301.length : Int) (wrap64 (x16_1 + 1))) else (none)) = some (r1, r2) := by rw [if_pos rfl] at H; exact H
          clear H
          have H := H1
          clear H1
          by_cases c15 : x5_1.length < 17592186044416
          ·rw [if_pos c15] at H
           have LMc15 := Am c15
           clear c15
           obtain ⟨y307, hy307⟩ : ∃ y_ : List Int, y_ = (x5_1 ++ [rd t301 x16_1]) := ⟨_, rfl⟩
           replace H : (table_Leaves.l0 k1 l0 y307 t301 (t301.length : Int) (wrap64 (x16_1 + 1))) = some (r1, r2) := by first | (rw [hy307]; with_reducible exact H) | (have H2_ := (Option.bind_some _ _).symm.trans H; rw [hy307]; with_reducible exact H2_) | (have H2_ := (Option.bind_some _ _).symm.trans H; with_reducible exact H2_) | with_reducible exact H | (rw [hy307]; exact H) | exact H
           have Ny307 := Am hy307
           clear hy307
           have H' := Am H
           clear H
           have p304 : 0 ≤ (x16_1 : Int) := of_decide_eq_true (by first | (with_reducible assumption) | assumption)
           have q304 : x16_1 < (t301.length : Int) := of_decide_eq_true (by first | (with_reducible assumption) | assumption)
           obtain ⟨ad304, e304, hx304_0⟩ := Kd.at_int (Kd.R_reads' HO_14.out).2.2 x16_1 p304 q304
           cases e304
           replace p304 := eq_true p304
           replace q304 := eq_true q304
           have p305 : 0 ≤ ((rd t301 x16_1) : Int) := of_decide_eq_true (by first | (with_reducible assumption) | assumption)
           have q305 : (rd t301 x16_1) < (l0.length : Int) := of_decide_eq_true (by first | (with_reducible assumption) | assumption)
           obtain ⟨ad305, e305, hx305_0, hx305_1, hx305_2, hx305_3, hx305_4, hx305_5⟩ := at_T34 HR0.out (rd t301 x16_1) p305 q305
           cases e305
           replace hx305_0 := (HB.out.cell (blt w _ hx305_0)).trans hx305_0
           replace hx305_1 := (HB.out.cell (blt w _ hx305_1)).trans hx305_1
           replace hx305_2 := (HB.out.cell (blt w _ hx305_2)).trans hx305_2
           replace hx305_3 := (HB.out.cell (blt w _ hx305_3)).trans hx305_3
           replace hx305_4 := (HB.out.cell (blt w _ hx305_4)).trans hx305_4
           replace hx305_5 := (HB.out.cell (blt w _ hx305_5)).trans hx305_5
           replace p305 := eq_true p305
           replace q305 := eq_true q305
           go_wp2_with (first | ((with_reducible refine gate_callee (f := 72) rfl ?_); refine goesL_ (some 24) rfl rfl Try.func72 (by kernel_rfl) rfl #[.agg #[.int .i64 ((rd_T34 l0 (rd t301 x16_1)).f0), .int .i64 ((rd_T34 l0 (rd t301 x16_1)).f1), .int .i64 ((rd_T34 l0 (rd t301 x16_1)).f2), .int .i64 ((rd_T34 l0 (rd t301 x16_1)).f3), .int .i64 ((rd_T34 l0 (rd t301 x16_1)).f4), .int .i64 ((rd_T34 l0 (rd t301 x16_1)).f5)]] rfl (by (try simp only [List.map_toArray, List.map_cons, List.map_nil]); first | done | rfl | (simp only [List.length_drop, List.length_take]; rfl)) ?_; (with_reducible refine (table_isLeaf.calls ((rd_T34 l0 (rd t301 x16_1)).f0) ((rd_T34 l0 (rd t301 x16_1)).f1) ((rd_T34 l0 (rd t301 x16_1)).f2) ((rd_T34 l0 (rd t301 x16_1)).f3) ((rd_T34 l0 (rd t301 x16_1)).f4) ((rd_T34 l0 (rd t301 x16_1)).f5) true _ A13.out).mono ?_); rintro e w16 ⟨rfl, hb⟩; refine ⟨_, rfl, ?_⟩; have n0_ := Am (Kd.R_below (by (with_reducible repeat (first | apply Kd.R_alloc | apply Kd.R_drewN | apply Kd.R_drew)); exact HO_5.out) hb); have n1_ := Am (Kd.R_below (by (with_reducible repeat (first | apply Kd.R_alloc | apply Kd.R_drewN | apply Kd.R_drew)); exact HO_14.out) hb); have n2_ := Am (below_step (by repeat (first | (with_reducible first | exact HB.out | apply ba | apply bn | apply bd) | exact HB.out)) hb); clear HO_5; clear HO_14; clear HB; have HO_5 := n0_; have HO_14 := n1_; have HB := n2_; clear n0_ n1_ n2_; (try clear hb); (try clear hb2); (try clear hk); (try clear hi)) | ((with_reducible refine gate_builtin (b := .append) (xs := #[.tmp 25, .tmp 27]) rfl ?_); at_builtin; refine Kd.R_append (Kd.int .i64) (w0 := w) w.heap.size rfl (.tmp 25) (.tmp 27) 31 3 (.int .i64 0) 8 rfl Try.underlying31 info3 rfl (by decide) (by omega) u5 x5_1 (rd t301 x16_1) [.int .i64 (rd t301 x16_1)] (fun k_ => some k_ ≠ (.slice (some ad304) t301.length co7 : Value).ownBlock) (fun _ => False) rfl rfl ?aP (fun _ hk => hk.elim) ?aF ?aO ?aB ?aS ?aL ?_; (case aP => exact rfl); (case aB => exact (by repeat (first | (with_reducible first | exact HB.out | apply ba | apply bn | apply bd) | exact HB.out))); (case aF => exact (fun k_ hk => Kd.fresh' (Kd.R_lt (by (with_reducible repeat (first | apply Kd.R_alloc | apply Kd.R_drewN | apply Kd.R_drew)); exact HO_14.out)) k_ hk)); (case aO => exact (by (with_reducible repeat (first | apply Kd.R_alloc | apply Kd.R_drewN | apply Kd.R_drew)); exact HO_5.out)); (case aS => exact (below_size (by repeat (first | (with_reducible first | exact HB.out | apply ba | apply bn | apply bd) | exact HB.out)))); (case aL => have := LMc15.out; omega); intro v308 w17 ho hb hg hat; rw [← Ny307.out] at ho; have n0_ := Am (Kd.R_after (ok := (fun _ => True)) (by (with_reducible repeat (first | apply Kd.R_alloc | apply Kd.R_drewN | apply Kd.R_drew)); exact Kd.R_mono HO_14.out (fun _ hk => ⟨trivial, hk⟩)) hg hat); have n1_ := Am (hb); have n2_ := Am (ho); clear HO_14; clear HB; clear HO_5; have HO_14 := n0_; have HB := n1_; have HO309 := n2_; clear n0_ n1_ n2_; clear ho hb hg hat))
           go_roundg k1
           case measure => have := HK1.out; omega
           case rel => exact ⟨(y307), (wrap64 (x16_1 + 1)), (by first | rfl | (simp; done) | (simp [*]; done)), H', ⟨by have := HK1.out; omega⟩, ⟨by (with_reducible repeat (first | apply Kd.R_alloc | apply Kd.R_drewN | apply Kd.R_drew)); exact HO309.out⟩, ⟨by (with_reducible repeat (first | apply Kd.R_alloc | apply Kd.R_drewN | apply Kd.R_drew)); exact Kd.R_mono HO_14.out (fun _ hk => hk.2)⟩, ⟨by repeat (first | (with_reducible first | exact HB.out | apply ba | apply bn | apply bd) | exact HB.out)⟩⟩
          ·rw [if_neg c15] at H
           exact absurd H (by simp)
         ·replace c14 := Bool.eq_false_iff.mpr c14
          subst c14
          have H1 : (table_Leaves.l0 k1 l0 x5_1 t301 (t301.length : Int) (wrap64 (x16_1 + 1))) = some (r1, r2) := by rw [if_neg (show ¬ (false = true) by decide)] at H; exact H
          clear H
          have H := H1
          clear H1
          have H' := Am H
          clear H
          have p304 : 0 ≤ (x16_1 : Int) := of_decide_eq_true (by first | (with_reducible assumption) | assumption)
          have q304 : x16_1 < (t301.length : Int) := of_decide_eq_true (by first | (with_reducible assumption) | assumption)
          obtain ⟨ad304, e304, hx304_0⟩ := Kd.at_int (Kd.R_reads' HO_14.out).2.2 x16_1 p304 q304
          cases e304
          replace p304 := eq_true p304
          replace q304 := eq_true q304
          have p305 : 0 ≤ ((rd t301 x16_1) : Int) := of_decide_eq_true (by first | (with_reducible assumption) | assumption)
          have q305 : (rd t301 x16_1) < (l0.length : Int) := of_decide_eq_true (by first | (with_reducible assumption) | assumption)
          obtain ⟨ad305, e305, hx305_0, hx305_1, hx305_2, hx305_3, hx305_4, hx305_5⟩ := at_T34 HR0.out (rd t301 x16_1) p305 q305
          cases e305
          replace hx305_0 := (HB.out.cell (blt w _ hx305_0)).trans hx305_0
          replace hx305_1 := (HB.out.cell (blt w _ hx305_1)).trans hx305_1
          replace hx305_2 := (HB.out.cell (blt w _ hx305_2)).trans hx305_2
          replace hx305_3 := (HB.out.cell (blt w _ hx305_3)).trans hx305_3
          replace hx305_4 := (HB.out.cell (blt w _ hx305_4)).trans hx305_4
          replace hx305_5 := (HB.out.cell (blt w _ hx305_5)).trans hx305_5
          replace p305 := eq_true p305
          replace q305 := eq_true q305
          go_wp2_with (first | ((with_reducible refine gate_callee (f := 72) rfl ?_); refine goesL_ (some 24) rfl rfl Try.func72 (by kernel_rfl) rfl #[.agg #[.int .i64 ((rd_T34 l0 (rd t301 x16_1)).f0), .int .i64 ((rd_T34 l0 (rd t301 x16_1)).f1), .int .i64 ((rd_T34 l0 (rd t301 x16_1)).f2), .int .i64 ((rd_T34 l0 (rd t301 x16_1)).f3), .int .i64 ((rd_T34 l0 (rd t301 x16_1)).f4), .int .i64 ((rd_T34 l0 (rd t301 x16_1)).f5)]] rfl (by (try simp only [List.map_toArray, List.map_cons, List.map_nil]); first | done | rfl | (simp only [List.length_drop, List.length_take]; rfl)) ?_; (with_reducible refine (table_isLeaf.calls ((rd_T34 l0 (rd t301 x16_1)).f0) ((rd_T34 l0 (rd t301 x16_1)).f1) ((rd_T34 l0 (rd t301 x16_1)).f2) ((rd_T34 l0 (rd t301 x16_1)).f3) ((rd_T34 l0 (rd t301 x16_1)).f4) ((rd_T34 l0 (rd t301 x16_1)).f5) false _ A13.out).mono ?_); rintro e w18 ⟨rfl, hb⟩; refine ⟨_, rfl, ?_⟩; have n0_ := Am (Kd.R_below (by (with_reducible repeat (first | apply Kd.R_alloc | apply Kd.R_drewN | apply Kd.R_drew)); exact HO_5.out) hb); have n1_ := Am (Kd.R_below (by (with_reducible repeat (first | apply Kd.R_alloc | apply Kd.R_drewN | apply Kd.R_drew)); exact HO_14.out) hb); have n2_ := Am (below_step (by repeat (first | (with_reducible first | exact HB.out | apply ba | apply bn | apply bd) | exact HB.out)) hb); clear HO_5; clear HO_14; clear HB; have HO_5 := n0_; have HO_14 := n1_; have HB := n2_; clear n0_ n1_ n2_; (try clear hb); (try clear hb2); (try clear hk); (try clear hi)))
          go_roundg k1
          case measure => have := HK1.out; omega
          case rel => exact ⟨(x5_1), (wrap64 (x16_1 + 1)), (by first | rfl | (simp; done) | (simp [*]; done)), H', ⟨by have := HK1.out; omega⟩, ⟨by (with_reducible repeat (first | apply Kd.R_alloc | apply Kd.R_drewN | apply Kd.R_drew)); exact HO_5.out⟩, ⟨by (with_reducible repeat (first | apply Kd.R_alloc | apply Kd.R_drewN | apply Kd.R_drew)); exact HO_14.out⟩, ⟨by repeat (first | (with_reducible first | exact HB.out | apply ba | apply bn | apply bd) | exact HB.out)⟩⟩
        ·rw [if_neg c12] at H
         exact absurd H (by simp)
       ·rw [if_neg c11] at H
        exact absurd H (by simp)
      ·rw [if_neg c10] at H
       exact absurd H (by simp)
     ·rw [if_neg c9] at H
      exact absurd H (by simp)
    ·rw [if_neg c8] at H
     have c8b0 : decide (x16_1 < (t301.length : Int)) = false := decide_eq_false c8
     clear c8
     simp only [Option.some.injEq, Prod.mk.injEq] at H
     obtain ⟨rfl, rfl⟩ := H
     go_wp2
     go_ret2
     exact ⟨_, by first | rfl | (simp [errW_none, errW_some] <;> rfl) | (simp [*, errW_none, errW_some] <;> rfl), by (with_reducible repeat (first | apply Kd.R_alloc | apply Kd.R_drewN | apply Kd.R_drew)); exact Kd.R_mono HO_5.out (fun _ hk => trivial), by repeat (first | (with_reducible first | exact HB.out | apply ba | apply bn | apply bd) | exact HB.out)⟩
 ·rw [if_neg c3] at H
  have c3b0 : (t300 == 0) = false := beq_eq_false_iff_ne.mpr c3
  have c3b1 : (t300 != 0) = true := bne_iff_ne.mpr c3
  simp only [Option.some.injEq, Prod.mk.injEq] at H
  obtain ⟨rfl, rfl⟩ := H
  go_enter Try.func71, Try.ntmps71
  go_wp2_with (first | ((with_reducible refine gate_callee (f := 41) rfl ?_); refine goesL_ (some 9) rfl rfl Try.func41 (by kernel_rfl) rfl #[.slice A0 l0.length c0] rfl (by (try simp only [List.map_toArray, List.map_cons, List.map_nil]); first | done | rfl | (simp only [List.length_drop, List.length_take]; rfl)) ?_; (with_reducible refine (table_Check.calls k _ _ l0 t300 _ ?side1 ?side2 A2.out).mono ?_); (case side1 => repeat (first | exact HR0.out | (with_reducible refine Kd.C_alloc ?_ _) | (with_reducible refine Kd.C_drewN ?_ _) | (with_reducible refine Kd.C_drew ?_))); (case side2 => exact HC0.out); rintro e w19 ⟨rfl, hb⟩; refine ⟨_, rfl, ?_⟩; have n0_ := Am (below_step (by repeat (first | (with_reducible first | exact HB.out | apply ba | apply bn | apply bd) | exact HB.out)) hb); clear HB; have HB := n0_; clear n0_; (try clear hb); (try clear hb2); (try clear hk); (try clear hi)))
  go_ret2
  exact ⟨_, by first | rfl | (simp [errW_none, errW_some] <;> rfl) | (simp [*, errW_none, errW_some] <;> rfl), by first | exact Kd.R_nil _ _ _ _ _ | exact Kd.N_nil _ _ _ _ _ | exact Kd.V_nil _ _ _ _ _ | exact Kd.Q_nil _ _ _ _ _ | exact Kd.S_nil _ _ _ _ _, by repeat (first | (with_reducible first | exact HB.out | apply ba | apply bn | apply bd) | exact HB.out)⟩
end Go.Proofs.Ytgleaefhflamnaa.T
