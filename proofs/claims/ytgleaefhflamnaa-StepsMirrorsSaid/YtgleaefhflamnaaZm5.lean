/- A part of the proof: see YtgleaefhflamnaaLawStepsMirrors. -/
import Derived.BigQuiet
import Derived.Test.YtgleaefhflamnaaZm4
set_option linter.unusedVariables false
set_option linter.unusedSimpArgs false
/- table.Graft, where it goes well. -/
namespace Go.Proofs.Ytgleaefhflamnaa.T
open Go.RowKit Go.Proofs.YtgleaefhflamnaaW.PrintWords Go.Proofs.YtgleaefhflamnaaW.PrintLast Go.Proofs.YtgleaefhflamnaaW.PrintMore
set_option linter.unusedVariables false
set_option linter.unusedSimpArgs false
theorem graft_l1s {k : Nat} {x0 x9 x77 : List S34} {i : Nat} (hi : i < x77.length) {r : List S34} (h : table_Graft.l1 (k + 1) x0 x9 x77 x77.length i = some (r, 0)) : ∃ e4 e5 : Int, x9.length < 2932031007402 ∧ table_Graft.l1 k x0 (x9 ++ [⟨(x77.getD i z34).f0, (x77.getD i z34).f1, (x77.getD i z34).f2, (x77.getD i z34).f3, e4, e5⟩]) x77 x77.length (wrap64 ((i : Int) + 1)) = some (r, 0) ∧
  ((table_isLeaf.f (x77.getD i z34).f0 (x77.getD i z34).f1 (x77.getD i z34).f2 (x77.getD i z34).f3 (x77.getD i z34).f4 (x77.getD i z34).f5 = some true ∧ e4 = (x77.getD i z34).f4 ∧ e5 = (x77.getD i z34).f5) ∨
   (table_isLeaf.f (x77.getD i z34).f0 (x77.getD i z34).f1 (x77.getD i z34).f2 (x77.getD i z34).f3 (x77.getD i z34).f4 (x77.getD i z34).f5 = some false ∧ e4 = wrap64 ((x77.getD i z34).f4 + (x0.length : Int)) ∧ e5 = wrap64 ((x77.getD i z34).f5 + (x0.length : Int)))) := by
 rw [table_Graft.l1, if_pos (by omega), if_pos (by omega), if_pos (by omega), show rd_T34 x77 (i : Int) = x77.getD i z34 from rfl] at h
 obtain ⟨b, hb, h⟩ := Option.bind_eq_some_iff.1 h
 cases b with
 | true =>
  rw [if_pos rfl] at h
  split at h
  ·exact ⟨_, _, by assumption, h, .inl ⟨hb, rfl, rfl⟩⟩
  ·exact absurd h (by simp)
 | false =>
  rw [if_neg (by simp)] at h
  split at h
  ·exact ⟨_, _, by assumption, h, .inr ⟨hb, rfl, rfl⟩⟩
  ·exact absurd h (by simp)
theorem graft_l0s {k : Nat} {x0 x2 x9 x49 : List S34} {c : Int} {i : Nat} (hi : i < x49.length) {r : List S34} (h : table_Graft.l0 (k + 1) x0 c x2 x9 x49 x49.length i = some (r, 0)) : ∃ e4 e5 : Int, x9.length < 2932031007402 ∧ table_Graft.l0 k x0 c x2 (x9 ++ [⟨(x49.getD i z34).f0, (x49.getD i z34).f1, (x49.getD i z34).f2, (x49.getD i z34).f3, e4, e5⟩]) x49 x49.length (wrap64 ((i : Int) + 1)) = some (r, 0) ∧
  ((table_isLeaf.f (x49.getD i z34).f0 (x49.getD i z34).f1 (x49.getD i z34).f2 (x49.getD i z34).f3 (x49.getD i z34).f4 (x49.getD i z34).f5 = some true ∧ e4 = (x49.getD i z34).f4 ∧ e5 = (x49.getD i z34).f5) ∨
   (table_isLeaf.f (x49.getD i z34).f0 (x49.getD i z34).f1 (x49.getD i z34).f2 (x49.getD i z34).f3 (x49.getD i z34).f4 (x49.getD i z34).f5 = some false ∧ ∃ b4 b5, ((x49.getD i z34).f4 == c) = b4 ∧ ((x49.getD i z34).f5 == c) = b5 ∧ e4 = (if b4 then (x0.length : Int) else (x49.getD i z34).f4) ∧ e5 = (if b5 then (x0.length : Int) else (x49.getD i z34).f5))) := by
 rw [table_Graft.l0, if_pos (by omega), if_pos (by omega), if_pos (by omega), show rd_T34 x49 (i : Int) = x49.getD i z34 from rfl] at h
 obtain ⟨b, hb, h⟩ := Option.bind_eq_some_iff.1 h
 cases b with
 | true =>
  rw [if_pos rfl] at h
  split at h
  ·exact ⟨_, _, by assumption, h, .inl ⟨hb, rfl, rfl⟩⟩
  ·exact absurd h (by simp)
 | false =>
  rw [if_neg (by simp)] at h
  by_cases h4 : (x49.getD i z34).f4 = c <;> by_cases h5 : (x49.getD i z34).f5 = c
  ·rw [if_pos h4, if_pos h5] at h
   split at h
   ·exact ⟨_, _, by assumption, h, .inr ⟨hb, true, true, beq_iff_eq.2 h4, beq_iff_eq.2 h5, rfl, rfl⟩⟩
   ·exact absurd h (by simp)
  ·rw [if_pos h4, if_neg h5] at h
   split at h
   ·exact ⟨_, _, by assumption, h, .inr ⟨hb, true, false, beq_iff_eq.2 h4, beq_eq_false_iff_ne.2 h5, rfl, rfl⟩⟩
   ·exact absurd h (by simp)
  ·rw [if_neg h4, if_pos h5] at h
   split at h
   ·exact ⟨_, _, by assumption, h, .inr ⟨hb, false, true, beq_eq_false_iff_ne.2 h4, beq_iff_eq.2 h5, rfl, rfl⟩⟩
   ·exact absurd h (by simp)
  ·rw [if_neg h4, if_neg h5] at h
   split at h
   ·exact ⟨_, _, by assumption, h, .inr ⟨hb, false, false, beq_eq_false_iff_ne.2 h4, beq_eq_false_iff_ne.2 h5, rfl, rfl⟩⟩
   ·exact absurd h (by simp)
theorem graft_n1 {k : Nat} {x0 x9 x77 : List S34} {i : Int} {r : List S34} (hi : i < x77.length) (h : table_Graft.l1 (k + 1) x0 x9 x77 x77.length i = some (r, 0)) : ∃ j : Nat, i = j := by
 rw [table_Graft.l1, if_pos hi] at h
 by_cases h0 : 0 ≤ i
 ·exact Int.eq_ofNat_of_zero_le h0
 ·rw [if_neg h0] at h; exact absurd h (by simp)
theorem graft_n0 {k : Nat} {x0 x2 x9 x49 : List S34} {c i : Int} {r : List S34} (hi : i < x49.length) (h : table_Graft.l0 (k + 1) x0 c x2 x9 x49 x49.length i = some (r, 0)) : ∃ j : Nat, i = j := by
 rw [table_Graft.l0, if_pos hi] at h
 by_cases h0 : 0 ≤ i
 ·exact Int.eq_ofNat_of_zero_le h0
 ·rw [if_neg h0] at h; exact absurd h (by simp)
theorem graft_j0 {k : Nat} {t w r : List S34} {c : Int} (h : table_Graft.f k t c w = some (r, 0)) : ∃ (k1 : Nat) (s : List Int), table_both.f k t w = some 0 ∧ k = k1 + 1 ∧ 0 ≤ c ∧ c < t.length ∧ table_order.f k1 t c = some s ∧ wrap64 ((wrap64 ((t.length : Int) - (s.length : Int))) + (w.length : Int)) ≤ 100000 ∧
  ((c = 0 ∧ table_sub.f k1 w 0 = some r) ∨ (c ≠ 0 ∧ 0 ≤ wrap64 ((t.length : Int) + w.length) ∧ (wrap64 ((t.length : Int) + w.length)).toNat ≤ 5864062014805 ∧ table_Graft.l0 k1 t c w [] t t.length 0 = some (r, 0))) := by
 unfold table_Graft.f at h
 obtain ⟨q, hq, h⟩ := Option.bind_eq_some_iff.1 h
 by_cases q0 : q = 0
 ·rw [if_pos q0] at h
  subst q0
  cases k with
  | zero => split at h <;> exact absurd h (by simp [table_Graft.j0])
  | succ k1 =>
   by_cases c0 : c < 0
   ·rw [if_pos c0, table_Graft.j0, if_pos rfl] at h; simp at h
   ·rw [if_neg c0, table_Graft.j0] at h
    by_cases c1 : c ≥ t.length
    ·rw [if_pos (by simpa using c1)] at h; simp at h
    ·rw [if_neg (by simpa using c1)] at h
     obtain ⟨s, hs, h⟩ := Option.bind_eq_some_iff.1 h
     by_cases c2 : wrap64 ((wrap64 ((t.length : Int) - (s.length : Int))) + (w.length : Int)) > 100000
     ·rw [if_pos c2] at h; simp at h
     ·rw [if_neg c2] at h
      refine ⟨k1, s, hq, rfl, by omega, by omega, hs, by omega, ?_⟩
      by_cases c3 : c = 0
      ·rw [if_pos c3] at h
       obtain ⟨u, hu, h⟩ := Option.bind_eq_some_iff.1 h
       injection h with h
       injection h with h _
       subst h
       exact .inl ⟨c3, hu⟩
      ·rw [if_neg c3] at h
       by_cases c4 : 0 ≤ wrap64 ((t.length : Int) + w.length)
       ·rw [if_pos c4] at h
        by_cases c5 : (wrap64 ((t.length : Int) + w.length)).toNat ≤ 5864062014805
        ·rw [if_pos c5] at h; exact .inr ⟨c3, c4, c5, h⟩
        ·rw [if_neg c5] at h; exact absurd h (by simp)
       ·rw [if_neg c4] at h; exact absurd h (by simp)
 ·rw [if_neg q0] at h
  injection h with h
  injection h with _ h
  exact absurd h q0
/-- A box of a node at block g beside the row v. -/
structure Bx (w : World) (g : Nat) (v : Value) (xs : List S34) (cs : Array Value) (W : World) : Prop where
 ge : w.heap.size ≤ g
 r : Kd.R k34 34 W w.heap.size (fun k => True ∧ k ≠ g) v xs
 b : Below w.heap.size w W
 k : W.heap[g]? = some (.cells cs 34 (0, 0))
theorem bx_new {w W : World} {v : Value} {xs : List S34} (ho : Kd.R k34 34 W w.heap.size (fun _ => True) v xs) (hb : Below w.heap.size w W) (cs : Array Value) : Bx w W.heap.size v xs cs (W.alloc (.cells cs 34)) :=
 ⟨below_size hb, Kd.R_alloc (Kd.R_elderB ho _ (Nat.le_refl _)) _, ba hb _, blk_new _ _⟩
theorem bx_call {w W W1 : World} {g : Nat} {v : Value} {xs : List S34} {cs : Array Value} (h : Bx w g v xs cs W) (hb : Below W.heap.size W W1) : Bx w g v xs cs W1 :=
 ⟨h.ge, Kd.R_below h.r hb, h.b.trans (hb.mono h.b.size), blk_below h.k hb⟩
theorem bx_set {w W : World} {g : Nat} {v : Value} {xs : List S34} {cs : Array Value} (h : Bx w g v xs cs W) (i : Nat) (u : Value) : Bx w g v xs (cs.setIfInBounds i u) (W.setCell ⟨g, i, none⟩ u) :=
 ⟨h.ge, Kd.R_far h.r (fun _ hk => hk.2) u, below_set h.b h.ge, blk_set h.k i u⟩
theorem bx_append {ops : Array Oper} {rest : List Oper} {o : Oper} {a : Act} {Q : Exit → Act → World → Prop} {w W : World} {g : Nat} {v : Value} {xs : List S34} {cs : Array Value} {a0 a1 a2 a3 a4 a5 : Int} (s x : Operand) (P : Bx w g v xs cs W) (hl : xs.length < 2932031007402) (hgd : o.guard = none) (ho : o.op = .call { callee := .builtin .append, args := #[s, x], argTypes := #[22, 22] })
  (hs : a.eval s = v) (hx : a.eval x = .slice (some ⟨W.heap.size, 0, none⟩) 1 1)
  (h : ∀ v1 w1, Kd.R k34 34 w1 w.heap.size (fun _ => True) v1 (xs ++ [(⟨a0, a1, a2, a3, a4, a5⟩ : S34)]) → Below w.heap.size w w1 → wpList Try.prog ops Q rest (a.put o.dst v1) w1) :
  wpList Try.prog ops Q (o :: rest) a (W.alloc (.cells #[.int .i64 a0, .int .i64 a1, .int .i64 a2, .int .i64 a3, .int .i64 a4, .int .i64 a5] 34)) :=
 Kd.R_append k34 (w0 := w) w.heap.size hgd s x 22 34 zN 48 ho Try.underlying22 info34 rfl (by decide) (by omega) v xs ⟨a0, a1, a2, a3, a4, a5⟩ [.int .i64 a0, .int .i64 a1, .int .i64 a2, .int .i64 a3, .int .i64 a4, .int .i64 a5] (fun k => True ∧ k ≠ g) (fun _ => False) hs hx (k34_mkM _ _ _ ⟨a0, a1, a2, a3, a4, a5⟩) (fun _ hk => hk.elim) (fun k hk => ⟨trivial, Kd.freshB P.k k hk⟩) P.r P.b (below_size P.b) (by omega) (fun v1 w1 ho hb _ _ => h v1 w1 (Kd.R_drop ho) hb)
theorem bx_cells {w W : World} {g : Nat} {v : Value} {xs : List S34} {a b c d e f : Value} (h : Bx w g v xs #[a, b, c, d, e, f] W) : W.cell? ⟨g, 0, none⟩ = some a ∧ W.cell? ⟨g, 1, none⟩ = some b ∧ W.cell? ⟨g, 2, none⟩ = some c ∧ W.cell? ⟨g, 3, none⟩ = some d ∧ W.cell? ⟨g, 4, none⟩ = some e ∧ W.cell? ⟨g, 5, none⟩ = some f ∧ W.frozen? ⟨g, 4, none⟩ = false ∧ W.frozen? ⟨g, 5, none⟩ = false :=
 ⟨(blk_cell h.k 0).trans rfl, (blk_cell h.k 1).trans rfl, (blk_cell h.k 2).trans rfl, (blk_cell h.k 3).trans rfl, (blk_cell h.k 4).trans rfl, (blk_cell h.k 5).trans rfl, blk_frozen h.k 4, blk_frozen h.k 5⟩
set_option maxHeartbeats 4000000 in
set_option maxRecDepth 100000 in
theorem graft_good (k : Nat) (A0 : Option Addr) (c0 : Nat) (l0 : List S34) (a1 : Int) (A2 : Option Addr) (c2 : Nat) (l2 : List S34) (r1 : List S34) (w : World) (hr0 : Kd.C k34 w A0 l0.length l0) (hc0 : l0.length ≤ c0) (hr2 : Kd.C k34 w A2 l2.length l2) (hc2 : l2.length ≤ c2) (h : table_Graft.f k l0 a1 l2 = some (r1, 0)) :
  Calls Try.prog 39 #[.slice A0 l0.length c0, .int .i64 a1, .slice A2 l2.length c2] w fun e w' => ∃ v0_ : Value, e = .returned (.tuple #[v0_, .int .i64 0]) ∧ Kd.R k34 34 w' w.heap.size (fun _ => True) v0_ r1 ∧ Below w.heap.size w w' := by
 obtain ⟨k1, s, h1, rfl, h2, h3, h4, h5, h6⟩ := graft_j0 h
 have hu34 := Try.underlying34
 have HR0 := Am hr0
 have HC0 := Am hc0
 have HR2 := Am hr2
 have HC2 := Am hc2
 have H1 := Am h1
 have H4 := Am h4
 have H6 := Am h6
 have p1 : decide (a1 < 0) = false := decide_eq_false (by omega)
 have p2 : decide (a1 ≥ (l0.length : Int)) = false := decide_eq_false (by omega)
 have p3 : decide (wrap64 ((wrap64 ((l0.length : Int) - (s.length : Int))) + (l2.length : Int)) > 100000) = false := decide_eq_false (by omega)
 clear hr0 hc0 hr2 hc2 h h1 h2 h3 h4 h5 h6
 go_enter Try.func39, Try.ntmps39
 go_wp2_with (fail)
 refine (table_both.calls _ A0 c0 l0 A2 c2 l2 0 _ HR0.out HC0.out HR2.out HC2.out H1.out).mono ?_
 rintro e w1 ⟨rfl, hb⟩
 have HB := Am hb
 clear hb
 go_wp2_with (fail)
 refine (table_order.calls k1 A0 c0 l0 a1 s _ (Kd.C_below HR0.out HB.out) HC0.out H4.out).mono ?_
 rintro e w2 ⟨v1, rfl, ho, hb⟩
 obtain ⟨As, cs, rfl⟩ := Kd.R_slice ho
 have HB2 := Am (HB.out.trans (hb.mono HB.out.size))
 clear ho hb HB H4
 rcases H6.out with ⟨rfl, h7⟩ | ⟨h0, h7, h8, h9⟩
 ·have H7 := Am h7
  clear h7 H6
  go_wp2_with (fail)
  refine (table_sub.calls k1 A2 c2 l2 0 r1 _ (Kd.C_below HR2.out HB2.out) HC2.out H7.out).mono ?_
  rintro e w4 ⟨v6, rfl, ho, hb⟩
  have HO2 := Am (Kd.R_lower ho HB2.out.size)
  have HB3 := Am (HB2.out.trans (hb.mono HB2.out.size))
  clear ho hb
  go_wp2
  go_ret2
  exact ⟨_, rfl, HO2.out, HB3.out⟩
 ·have H9 := Am h9
  have H8 := Am (And.intro h7 h8)
  have p4 : (a1 == 0) = false := beq_eq_false_iff_ne.2 h0
  clear H6 h7 h8 h9
  go_wp2_with ((with_reducible refine gate_dst (N := 48) rfl ?_); refine Kd.R_makecap k34 _ 34 rfl (N := 48) rfl 22 _ _ rfl (wrap64 ((l0.length : Int) + l2.length)) rfl rfl Try.underlying22 zN 48 info34 rfl (by decide) (by omega) z34 (ok := fun _ => True) (okp := fun _ => True) (k34_mkM _ _ _ z34) (fun _ hk => hk) trivial (by have := H8.out.1; omega) (by have := H8.out.2; omega) (Below.refl _ _) (Nat.le_refl _) ?_; intro v9 w3 ho hb hg_ hnew_)
  have HO := Am (Kd.R_lower ho HB2.out.size)
  have HB3 := Am (HB2.out.trans (hb.mono HB2.out.size))
  clear ho hb hg_ hnew_ HB2
  go_wp2
  go_loopg [9, 51] k1 (fun kq v9 v w' => ∃ (x9 : List S34) (i : Int), v = .int .i64 i ∧ Aside0 (table_Graft.l0 kq l0 a1 l2 x9 l0 l0.length i = some (r1, 0)) ∧ Aside0 (Kd.R k34 34 w' w.heap.size (fun _ => True) v9 x9) ∧ Aside0 (Below w.heap.size w w'))
  case atStart => exact ⟨[], 0, rfl, H9, HO, HB3⟩
  case round =>
   clear H9 HO HB3
   obtain ⟨x9, i, rfl, HA, HO, HB⟩ := hrel
   cases gk with
   | zero => exact absurd HA.out (by simp [table_Graft.l0])
   | succ kq1 =>
    by_cases q1 : i < (l0.length : Int)
    ·obtain ⟨i, rfl⟩ := graft_n0 q1 HA.out
     obtain ⟨e4, e5, q2, hA, hD⟩ := graft_l0s (show i < l0.length by omega) HA.out
     have LM := Am q2
     have HA' := Am hA
     obtain ⟨ad, rfl, hz⟩ := rd_cells HR0.out (show i < l0.length by omega)
     obtain ⟨z0, z1, z2, z3, z4, z5⟩ := hz _ HB.out
     have p5 : (0 ≤ (i : Int)) = True := eq_true (by omega)
     have p6 : ((i : Int) < (l0.length : Int)) = True := eq_true q1
     have p7 : decide ((i : Int) < (l0.length : Int)) = true := decide_eq_true q1
     clear HA q1 q2 hA hz
     generalize l0.getD i z34 = n at *
     rcases hD with ⟨hL, rfl, rfl⟩ | ⟨hL, b4, b5, h4, h5, rfl, rfl⟩
     ·go_wp2_with (fail)
      refine (table_isLeaf.calls _ _ _ _ _ _ true _ hL).mono ?_
      rintro e w3 ⟨rfl, hb⟩
      have BX := Am (bx_call (bx_new HO.out HB.out _) hb)
      obtain ⟨y0, y1, y2, y3, y4, y5, y6, y7⟩ := bx_cells BX.out
      clear hL hb z0 z1 z2 z3 z4 z5 HO HB
      generalize wr.heap.size = g at *
      go_wp2_with ((with_reducible refine gate_builtin (b := .append) (xs := #[.tmp 72, .tmp 74]) rfl ?_); at_builtin; (apply bx_append (.tmp 72) (.tmp 74) (g := g) (hl := LM.out)); (case P => first | exact BX.out | exact bx_set BX.out _ _ | exact bx_set (bx_set BX.out _ _) _ _); (case hgd => rfl); (case ho => rfl); (case hs => rfl); (case hx => first | rfl | (go_simp; done) | (go_simp; rfl)); intro v6 w4 ho hb)
      have HO2 := Am ho
      have HB2 := Am hb
      clear ho hb y0 y1 y2 y3 y4 y5 y6 y7 BX
      go_wp2
      go_roundg kq1
      case measure => omega
      case rel => exact ⟨_, _, rfl, HA', HO2, HB2⟩
     ·go_wp2_with (fail)
      refine (table_isLeaf.calls _ _ _ _ _ _ false _ hL).mono ?_
      rintro e w3 ⟨rfl, hb⟩
      have BX := Am (bx_call (bx_new HO.out HB.out _) hb)
      obtain ⟨y0, y1, y2, y3, y4, y5, y6, y7⟩ := bx_cells BX.out
      clear hL hb z0 z1 z2 z3 z4 z5 HO HB
      generalize wr.heap.size = g at *
      cases b4 <;> cases b5
      all_goals
       simp only [if_true, if_false, Bool.false_eq_true, if_pos, if_neg] at HA'
       go_wp2_with ((with_reducible refine gate_builtin (b := .append) (xs := #[.tmp 72, .tmp 74]) rfl ?_); at_builtin; (apply bx_append (.tmp 72) (.tmp 74) (g := g) (hl := LM.out)); (case P => first | exact BX.out | exact bx_set BX.out _ _ | exact bx_set (bx_set BX.out _ _) _ _); (case hgd => rfl); (case ho => rfl); (case hs => rfl); (case hx => first | rfl | (go_simp; done) | (go_simp; rfl)); intro v6 w4 ho hb)
       have HO2 := Am ho
       have HB2 := Am hb
       clear ho hb y0 y1 y2 y3 y4 y5 y6 y7 BX
       go_wp2
       go_roundg kq1
       case measure => omega
       case rel => exact ⟨_, _, rfl, HA', HO2, HB2⟩
    ·have p7 : decide (i < (l0.length : Int)) = false := decide_eq_false q1
     have HA' := Am HA.out
     rw [table_Graft.l0, if_neg q1] at HA'
     clear HA q1
     go_wp2
     go_loopg [9, 79] kq1 (fun kq v9 v w' => ∃ (x9 : List S34) (i : Int), v = .int .i64 i ∧ Aside0 (table_Graft.l1 kq l0 x9 l2 l2.length i = some (r1, 0)) ∧ Aside0 (Kd.R k34 34 w' w.heap.size (fun _ => True) v9 x9) ∧ Aside0 (Below w.heap.size w w'))
     case atStart => exact ⟨x9, 0, rfl, HA', HO, HB⟩
     case round =>
      clear HA' HO HB
      obtain ⟨x9, i, rfl, HA, HO, HB⟩ := hrel
      cases gk with
      | zero => exact absurd HA.out (by simp [table_Graft.l1])
      | succ kq2 =>
       by_cases q1 : i < (l2.length : Int)
       ·obtain ⟨i, rfl⟩ := graft_n1 q1 HA.out
        obtain ⟨e4, e5, q2, hA, hD⟩ := graft_l1s (show i < l2.length by omega) HA.out
        have LM := Am q2
        have HA' := Am hA
        obtain ⟨ad, rfl, hz⟩ := rd_cells HR2.out (show i < l2.length by omega)
        obtain ⟨z0, z1, z2, z3, z4, z5⟩ := hz _ HB.out
        have p5 : (0 ≤ (i : Int)) = True := eq_true (by omega)
        have p6 : ((i : Int) < (l2.length : Int)) = True := eq_true q1
        have p7 : decide ((i : Int) < (l2.length : Int)) = true := decide_eq_true q1
        clear HA q1 q2 hA hz
        generalize l2.getD i z34 = n at *
        rcases hD with ⟨hL, rfl, rfl⟩ | ⟨hL, rfl, rfl⟩
        ·go_wp2_with (fail)
         refine (table_isLeaf.calls _ _ _ _ _ _ true _ hL).mono ?_
         rintro e w3 ⟨rfl, hb⟩
         have BX := Am (bx_call (bx_new HO.out HB.out _) hb)
         obtain ⟨y0, y1, y2, y3, y4, y5, y6, y7⟩ := bx_cells BX.out
         clear hL hb z0 z1 z2 z3 z4 z5 HO HB
         generalize wr.heap.size = g at *
         go_wp2_with ((with_reducible refine gate_builtin (b := .append) (xs := #[.tmp 98, .tmp 100]) rfl ?_); at_builtin; (apply bx_append (.tmp 98) (.tmp 100) (g := g) (hl := LM.out)); (case P => first | exact BX.out | exact bx_set BX.out _ _ | exact bx_set (bx_set BX.out _ _) _ _); (case hgd => rfl); (case ho => rfl); (case hs => rfl); (case hx => first | rfl | (go_simp; done) | (go_simp; rfl)); intro v6 w4 ho hb)
         have HO2 := Am ho
         have HB2 := Am hb
         clear ho hb y0 y1 y2 y3 y4 y5 y6 y7 BX
         go_wp2
         go_roundg kq2
         case measure => omega
         case rel => exact ⟨_, _, rfl, HA', HO2, HB2⟩
        ·go_wp2_with (fail)
         refine (table_isLeaf.calls _ _ _ _ _ _ false _ hL).mono ?_
         rintro e w3 ⟨rfl, hb⟩
         have BX := Am (bx_call (bx_new HO.out HB.out _) hb)
         obtain ⟨y0, y1, y2, y3, y4, y5, y6, y7⟩ := bx_cells BX.out
         clear hL hb z0 z1 z2 z3 z4 z5 HO HB
         generalize wr.heap.size = g at *
         go_wp2_with ((with_reducible refine gate_builtin (b := .append) (xs := #[.tmp 98, .tmp 100]) rfl ?_); at_builtin; (apply bx_append (.tmp 98) (.tmp 100) (g := g) (hl := LM.out)); (case P => first | exact BX.out | exact bx_set BX.out _ _ | exact bx_set (bx_set BX.out _ _) _ _); (case hgd => rfl); (case ho => rfl); (case hs => rfl); (case hx => first | rfl | (go_simp; done) | (go_simp; rfl)); intro v6 w4 ho hb)
         have HO2 := Am ho
         have HB2 := Am hb
         clear ho hb y0 y1 y2 y3 y4 y5 y6 y7 BX
         go_wp2
         go_roundg kq2
         case measure => omega
         case rel => exact ⟨_, _, rfl, HA', HO2, HB2⟩
       ·have p7 : decide (i < (l2.length : Int)) = false := decide_eq_false q1
        rw [table_Graft.l1, if_neg q1] at HA
        obtain ⟨s9, hs, H⟩ := Option.bind_eq_some_iff.1 HA.out
        injection H with H
        injection H with h1 _
        subst h1
        obtain ⟨Ao, co, rfl⟩ := Kd.R_slice HO.out
        have HS := Am hs
        clear hs q1 HA
        go_wp2_with (fail)
        refine (table_sub.calls kq2 _ _ x9 0 _ _ (Kd.R_reads' HO.out).2.2 (Kd.R_reads' HO.out).2.1 HS.out).mono ?_
        rintro e w4 ⟨v6, rfl, ho, hb⟩
        have HO2 := Am (Kd.R_lower ho HB.out.size)
        have HB2 := Am (HB.out.trans (hb.mono HB.out.size))
        clear ho hb
        go_wp2
        go_ret2
        exact ⟨_, rfl, HO2.out, HB2.out⟩
end Go.Proofs.Ytgleaefhflamnaa.T
/- larchlaw18.flipped, where the three calls go well. -/
namespace Go.Proofs.Ytgleaefhflamnaa.T
open Go.RowKit Go.Proofs.YtgleaefhflamnaaW.PrintWords Go.Proofs.YtgleaefhflamnaaW.PrintLast Go.Proofs.YtgleaefhflamnaaW.PrintMore
set_option linter.unusedVariables false
set_option linter.unusedSimpArgs false
theorem mirror_calls (k : Nat) (A0 : Option Addr) (c0 : Nat) (l0 : List S34) (r1 : List S34) (w : World) (hr0 : Kd.C k34 w A0 l0.length l0) (hc0 : l0.length ≤ c0) (h : table_Mirror.f k l0 = some (r1, 0)) :
  Calls Try.prog 51 #[.slice A0 l0.length c0] w fun e w' => ∃ v0_ : Value, e = .returned (.tuple #[v0_, .int .i64 0]) ∧ Kd.R k34 34 w' w.heap.size (fun _ => True) v0_ r1 ∧ Below w.heap.size w w' := by
 unfold table_Mirror.f at h
 obtain ⟨q, hq, h⟩ := Option.bind_eq_some_iff.1 h
 by_cases h0 : q = 0
 ·rw [if_pos h0, if_pos (by omega)] at h
  subst h0
  split at h
  ·rename_i hl
   exact mirror_good k k A0 c0 l0 r1 0 w hr0 hc0 hq (by omega) h
  ·exact absurd h (by simp)
 ·rw [if_neg h0] at h
  injection h with h
  exact absurd (congrArg Prod.snd h) h0
theorem flip_ok {k : Nat} {t u : List S34} {r : Int} (h : larchlaw18_flipped.f k t r = some (u, true)) : ∃ s m, table_Sub.f k t r = some (s, 0) ∧ table_Mirror.f k s = some (m, 0) ∧ table_Graft.f k t r m = some (u, 0) := by
 unfold larchlaw18_flipped.f at h
 obtain ⟨⟨s, e1⟩, h1, h⟩ := Option.bind_eq_some_iff.1 h
 obtain ⟨⟨m, e2⟩, h2, h⟩ := Option.bind_eq_some_iff.1 h
 obtain ⟨⟨v, e3⟩, h3, h⟩ := Option.bind_eq_some_iff.1 h
 simp only at h h2 h3
 by_cases q1 : e1 = 0
 ·by_cases q2 : e2 = 0
  ·rw [if_pos q1, if_pos q2] at h
   injection h with h
   injection h with h4 h5
   have q3 : e3 = 0 := by simpa using h5
   subst q1 q2 q3 h4
   exact ⟨s, m, h1, h2, h3⟩
  ·rw [if_pos q1, if_neg q2] at h; simp at h
 ·rw [if_neg q1] at h; simp at h
set_option maxHeartbeats 4000000 in
set_option maxRecDepth 100000 in
theorem flipped_calls (k : Nat) (A0 : Option Addr) (c0 : Nat) (l0 : List S34) (a1 : Int) (r1 : List S34) (w : World) (hr0 : Kd.C k34 w A0 l0.length l0) (hc0 : l0.length ≤ c0) (h : larchlaw18_flipped.f k l0 a1 = some (r1, true)) :
  Calls Try.prog 22 #[.slice A0 l0.length c0, .int .i64 a1] w fun e w' => ∃ v0_ : Value, e = .returned (.tuple #[v0_, .bool true]) ∧ Kd.R k34 34 w' w.heap.size (fun _ => True) v0_ r1 ∧ Below w.heap.size w w' := by
 obtain ⟨s, m, h1, h2, h3⟩ := flip_ok h
 have HR0 := Am hr0
 have HC0 := Am hc0
 have H1 := Am h1
 have H2 := Am h2
 have H3 := Am h3
 clear hr0 hc0 h h1 h2 h3
 go_enter Try.func22, Try.ntmps22
 go_wp2_with (fail)
 refine (table_Sub.calls k A0 c0 l0 a1 s 0 _ HR0.out HC0.out H1.out).mono ?_
 rintro e w1 ⟨v1, rfl, ho, hb⟩
 obtain ⟨A1, c1, rfl⟩ := Kd.R_slice ho
 have HO := Am ho
 have HB := Am hb
 clear ho hb
 go_wp2_with (fail)
 refine (mirror_calls k A1 c1 s m _ (Kd.R_reads' HO.out).2.2 (Kd.R_reads' HO.out).2.1 H2.out).mono ?_
 rintro e w2 ⟨v2, rfl, ho, hb⟩
 obtain ⟨A2, c2, rfl⟩ := Kd.R_slice ho
 have HO2 := Am ho
 have HB2 := Am (HB.out.trans (hb.mono HB.out.size))
 clear ho hb
 go_wp2_with (fail)
 refine (graft_good k A0 c0 l0 a1 A2 c2 m r1 _ (Kd.C_below HR0.out HB2.out) HC0.out (Kd.R_reads' HO2.out).2.2 (Kd.R_reads' HO2.out).2.1 H3.out).mono ?_
 rintro e w3 ⟨v3, rfl, ho, hb⟩
 have HO3 := Am (Kd.R_lower ho HB2.out.size)
 have HB3 := Am (HB2.out.trans (hb.mono HB2.out.size))
 clear ho hb
 go_wp2
 go_ret2
 exact ⟨_, rfl, HO3.out, HB3.out⟩
end Go.Proofs.Ytgleaefhflamnaa.T
namespace Go.Proofs.Ytgleaefhflamnaa.T
open Go.RowKit Go.Proofs.YtgleaefhflamnaaW.PrintWords Go.Proofs.YtgleaefhflamnaaW.PrintLast Go.Proofs.YtgleaefhflamnaaW.PrintMore
theorem up_to {α : Type} {f : Nat → Option α} (h : ∀ k, LeO (f k) (f (k + 1))) {k k' : Nat} (hk : k ≤ k') {r : α} (hr : f k = some r) : f k' = some r := by
 induction hk with
 | refl => exact hr
 | step _ ih => exact h _ _ ih
def fmN (n : S34) (len : Nat) : Bool := formedB n.f0 n.f1 n.f2 n.f3 n.f4 n.f5 len
theorem fmN_iff (n : S34) (len : Nat) : fmN n len = true ↔ (0 ≤ n.f2 ∧ n.f2 ≤ 1000000) ∧ (n.f1 = 0 ∨ (n.f1 = 1 ∧ n.f0 = 0 ∧ n.f3 = 0)) ∧ ((n.f4 = -1 ∧ n.f5 = -1) ∨ (n.f3 = 0 ∧ 1 ≤ n.f4 ∧ n.f4 < len ∧ 1 ≤ n.f5 ∧ n.f5 < len ∧ n.f4 ≠ n.f5)) := by
 unfold fmN formedB childB
 by_cases h1 : n.f2 < 0 ∨ 1000000 < n.f2 ∨ (n.f1 ≠ 0 ∧ n.f1 ≠ 1)
 ·rw [if_pos h1]; constructor
  ·intro h; exact absurd h (by simp)
  ·intro h; omega
 ·rw [if_neg h1]
  by_cases h2 : n.f1 = 1 ∧ (n.f0 ≠ 0 ∨ n.f3 ≠ 0)
  ·rw [if_pos h2]; constructor
   ·intro h; exact absurd h (by simp)
   ·intro h; omega
  ·rw [if_neg h2]
   by_cases h3 : n.f4 = -1 ∧ n.f5 = -1
   ·rw [if_pos h3]; constructor
    ·intro _; omega
    ·intro _; rfl
   ·rw [if_neg h3]
    simp only [Bool.and_eq_true, decide_eq_true_eq]
    omega
structure Good (t : List S34) (T : Tr) : Prop where
 len : t.length ≤ 100000
 form : ∀ i, i < t.length → fmN (t.getD i z34) t.length = true
 tree : mkT t t.length 0 = some T
 nodup : (plT T).Nodup
 all : (plT T).length = t.length
theorem formT_of {t : List S34} (h : ∀ i, i < t.length → fmN (t.getD i z34) t.length = true) : FormT t := fun i hi => by
 have := (fmN_iff _ _).1 (h i hi)
 omega
theorem Good.pos {t : List S34} {T : Tr} (h : Good t T) : 0 < t.length := by
 have := h.tree
 cases ht : t.length with
 | zero => rw [ht] at this; simp [mkT] at this
 | succ n => omega
theorem sizeN_pl : ∀ T, sizeN T = (plT T).length
 | .nil => rfl
 | .node _ _ l r => by rw [sizeN, plT, List.length_cons, List.length_append, sizeN_pl l, sizeN_pl r]; omega
theorem mkT_size {t : List S34} : ∀ {k i : Nat} {T : Tr}, mkT t k i = some T → mkT t (sizeN T) i = some T := by
 intro k
 induction k with
 | zero => intro i T h; simp [mkT] at h
 | succ k ih =>
  intro i T h
  rw [mkT] at h
  split at h
  case isFalse => exact absurd h (by simp)
  rename_i hi
  split at h
  ·rename_i h4
   obtain ⟨l, hl, h⟩ := Option.bind_eq_some_iff.1 h
   obtain ⟨r, hr, h⟩ := Option.bind_eq_some_iff.1 h
   obtain rfl := Option.some.inj h
   rw [sizeN, show 1 + sizeN l + sizeN r = (sizeN l + sizeN r) + 1 by omega, mkT, if_pos hi, if_pos h4, mkT_le t (Nat.le_add_right _ _) (ih hl), Option.bind_some, mkT_le t (Nat.le_add_left _ _) (ih hr), Option.bind_some]
  ·rename_i h4
   obtain rfl := Option.some.inj h
   rw [sizeN, sizeN, show 1 + 0 + 0 = 0 + 1 by omega, mkT, if_pos hi, if_neg h4]
theorem order_f (k : Nat) (t : List S34) (hlen : t.length ≤ 100000) (a : Int) : table_order.f k t a = table_order.l0 k t (List.replicate t.length false) [] ([a] : List Int).reverse := by
 unfold table_order.f
 rw [if_pos (by omega), if_pos (by omega), Int.toNat_natCast]
 rfl
theorem cntT_replicate : ∀ n, cntT (List.replicate n false) = 0
 | 0 => rfl
 | n + 1 => by rw [List.replicate_succ, cntT, cntT_replicate n]; simp
theorem order_f_total (t : List S34) (hlen : t.length ≤ 100000) (hf : FormT t) (a : Int) (h0 : 0 ≤ a) (ha : a < t.length) (k : Nat) (hk : t.length + 1 ≤ k) : ∃ res, table_order.f k t a = some res := by
 rw [order_f _ _ hlen]
 exact order_total t hlen hf k _ [] [a] List.length_replicate (fun i hi => by rw [List.mem_singleton] at hi; subst hi; exact ⟨h0, ha⟩) (cntT_replicate _) (by simp) (by simp; omega) (by omega)
theorem getD_replicate_false (n i : Nat) : (List.replicate n false).getD i false = false := by
 simp only [List.getD, List.getElem?_replicate]
 split <;> rfl
/-- order of a place over a tree. -/
theorem order_f_tree {t : List S34} (hlen : t.length ≤ 100000) (hf : FormT t) {K : Nat} {a : Int} {T : Tr} (h0 : 0 ≤ a) (hT : mkT t K a.toNat = some T) (hn : (plT T).Nodup) (hl : (plT T).length ≤ 1000000) (k : Nat) (hk : (plT T).length < k) : table_order.f k t a = some (plT T) := by
 rw [order_f _ _ hlen]
 have hp := plF_mk h0 hT (plF.eq_1 t K)
 rw [List.append_nil] at hp
 rw [order_tree t hlen hf K k _ [] [a] (plT T) List.length_replicate hp hn (fun _ _ => getD_replicate_false _ _) hk (by simpa using hl)]
 rfl
theorem good_of_order {t : List S34} (hlen : t.length ≤ 100000) (hpos : 0 < t.length) (hf : ∀ i, i < t.length → fmN (t.getD i z34) t.length = true) {k : Nat} {res : List Int} (h : table_order.f k t 0 = some res) (hr : res.length = t.length) : ∃ T, Good t T := by
 rw [order_f _ _ hlen] at h
 rcases order_inv t (formT_of hf) k _ [] [0] res List.length_replicate (by simp) h with e | ⟨ps, hp, e, hn, _⟩
 ·rw [e] at hr; simp at hr; omega
 ·obtain ⟨T, q, _, hT, hq, rfl⟩ := plF_cons hp
  rw [plF] at hq
  injection hq with hq
  subst hq
  rw [List.append_nil] at e hn
  rw [List.nil_append] at e
  have hT2 := mkT_size hT
  rw [sizeN_pl, ← e, hr] at hT2
  exact ⟨T, hlen, hf, hT2, hn, by rw [← e]; exact hr⟩
theorem formed_f (n : S34) (len : Nat) : table_formed.f n.f0 n.f1 n.f2 n.f3 n.f4 n.f5 len = some (fmN n len) := rfl
theorem check_l0 (t : List S34) (hlen : t.length ≤ 100000) (hpos : 0 < t.length) : ∀ (d i k : Nat), i + d = t.length → t.length + 2 + d ≤ k → (∀ j, j < i → fmN (t.getD j z34) t.length = true) →
  ∃ r, table_Check.l0 k t t t.length i = some r ∧ (r = 0 → ∃ T, Good t T) := by
 intro d
 induction d with
 | zero =>
  intro i k hi hk hpre
  cases k with
  | zero => omega
  | succ k =>
   have hf : ∀ j, j < t.length → fmN (t.getD j z34) t.length = true := fun j hj => hpre j (by omega)
   obtain ⟨res, hr⟩ := order_f_total t hlen (formT_of hf) 0 (by omega) (by omega) k (by omega)
   rw [table_Check.l0, if_neg (by omega), hr, Option.bind_some]
   by_cases e : (res.length : Int) = t.length
   ·exact ⟨0, if_pos e, fun _ => good_of_order hlen hpos hf hr (by omega)⟩
   ·exact ⟨3, if_neg e, fun h => absurd h (by decide)⟩
 | succ d ih =>
  intro i k hi hk hpre
  cases k with
  | zero => omega
  | succ k =>
   rw [table_Check.l0, if_pos (by omega), if_pos (by omega), if_pos (by omega)]
   simp only [rd_T34, formed_f, Option.bind_some, Int.toNat_natCast]
   by_cases e : fmN (t.getD i z34) t.length = true
   ·rw [if_pos e, Go.IntWalk.wrap64_in _ (by omega)]
    exact ih (i + 1) k (by omega) (by omega) (fun j hj => by
     by_cases ej : j = i
     ·rw [ej]; exact e
     ·exact hpre j (by omega))
   ·rw [if_neg e]
    exact ⟨3, rfl, fun h => absurd h (by decide)⟩
theorem check_total (t : List S34) : ∃ k r, table_Check.f k t = some r ∧ (r = 0 → ∃ T, Good t T) := by
 unfold table_Check.f
 by_cases h1 : (t.length : Int) > 100000
 ·exact ⟨0, 2, by rw [if_pos h1], fun h => absurd h (by decide)⟩
 ·by_cases h2 : (t.length : Int) = 0
  ·exact ⟨0, 3, by rw [if_neg h1, if_pos h2], fun h => absurd h (by decide)⟩
  ·obtain ⟨r, h, h'⟩ := check_l0 t (by omega) (by omega) t.length 0 (t.length + 2 + t.length) (by omega) (Nat.le_refl _) (fun j hj => absurd hj (by omega))
   exact ⟨_, r, by rw [if_neg h1, if_neg h2]; exact h, h'⟩
theorem check_l0_good {t : List S34} {T : Tr} (hg : Good t T) : ∀ (d i k : Nat), i + d = t.length → t.length + 2 + d ≤ k → table_Check.l0 k t t t.length i = some 0 := by
 have hlen := hg.len
 intro d
 induction d with
 | zero =>
  intro i k hi hk
  cases k with
  | zero => omega
  | succ k =>
   rw [table_Check.l0, if_neg (by omega), order_f_tree hg.len (formT_of hg.form) (by omega) hg.tree hg.nodup (by rw [hg.all]; omega) k (by rw [hg.all]; omega), Option.bind_some, if_pos (by rw [hg.all])]
 | succ d ih =>
  intro i k hi hk
  cases k with
  | zero => omega
  | succ k =>
   rw [table_Check.l0, if_pos (by omega), if_pos (by omega), if_pos (by omega)]
   simp only [rd_T34, formed_f, Option.bind_some, Int.toNat_natCast]
   rw [if_pos (hg.form i (by omega)), Go.IntWalk.wrap64_in _ (by omega)]
   exact ih (i + 1) k (by omega) (by omega)
theorem check_good {t : List S34} {T : Tr} (hg : Good t T) : ∃ k, table_Check.f k t = some 0 := by
 have h1 := hg.len
 have h2 := hg.pos
 refine ⟨t.length + 2 + t.length, ?_⟩
 unfold table_Check.f
 rw [if_neg (by omega), if_neg (by omega)]
 exact check_l0_good hg t.length 0 _ (by omega) (Nat.le_refl _)
end Go.Proofs.Ytgleaefhflamnaa.T
namespace Go.Proofs.Ytgleaefhflamnaa.T
open Go.RowKit Go.Proofs.YtgleaefhflamnaaW.PrintWords Go.Proofs.YtgleaefhflamnaaW.PrintLast Go.Proofs.YtgleaefhflamnaaW.PrintMore
def sn34 : S34 := ⟨0, 1, 1, 0, -1, -1⟩
def snB (x : S34) : Bool := x.f0 == 0 && (x.f1 == 1 && (x.f2 == 1 && (x.f3 == 0 && (x.f4 == (-1 : Int) && x.f5 == (-1 : Int)))))
theorem sent_iff (x : S34) : snB x = true ↔ x = sn34 := by
 obtain ⟨a, b, c, d, e, f⟩ := x
 simp only [snB, Bool.and_eq_true, beq_iff_eq, sn34, S34.mk.injEq]
def crP (t : List S34) (n : S34) : Prop := ¬ (n.f4 = -1 ∧ n.f5 = -1) ∧ n.f1 = 1 ∧ n.f2 = 1 ∧ t.getD n.f5.toNat z34 = sn34
theorem crowned_f (t : List S34) (n : S34) (hn : fmN n t.length = true) : ∃ b, table_crowned.f t n.f0 n.f1 n.f2 n.f3 n.f4 n.f5 = some b ∧ (b = true ↔ crP t n) := by
 have hn' := (fmN_iff _ _).1 hn
 unfold table_crowned.f
 rw [leaf_f, Option.bind_some]
 by_cases hl : n.f4 = -1 ∧ n.f5 = -1
 ·exact ⟨false, by rw [if_pos (by simpa using hl)], by simp [crP, hl]⟩
 ·rw [if_neg (by simpa using hl)]
  by_cases h1 : n.f1 = 1
  ·rw [if_pos h1]
   by_cases h2 : n.f2 = 1
   ·rw [if_pos h2, if_pos (by omega), if_pos (by omega)]
    refine ⟨_, rfl, ?_⟩
    exact ⟨fun h => ⟨hl, h1, h2, (sent_iff _).1 h⟩, fun h => (sent_iff _).2 h.2.2.2⟩
   ·exact ⟨false, by rw [if_neg h2], by simp [crP, h2]⟩
  ·exact ⟨false, by rw [if_neg h1], by simp [crP, h1]⟩
def allT (P : S34 → Prop) : Tr → Prop
 | .nil => True
 | .node n _ l r => P n ∧ allT P l ∧ allT P r
theorem allT_mkT {t : List S34} {P : S34 → Prop} : ∀ {k i : Nat} {T : Tr}, mkT t k i = some T → (allT P T ↔ ∀ p ∈ plT T, P (t.getD p.toNat z34)) := by
 intro k
 induction k with
 | zero => intro i T h; simp [mkT] at h
 | succ k ih =>
  intro i T h
  rw [mkT] at h
  split at h
  case isFalse => exact absurd h (by simp)
  rename_i hi
  split at h
  ·rename_i h4
   obtain ⟨l, hl, h⟩ := Option.bind_eq_some_iff.1 h
   obtain ⟨r, hr, h⟩ := Option.bind_eq_some_iff.1 h
   obtain rfl := Option.some.inj h
   rw [allT, ih hl, ih hr, plT]
   constructor
   ·rintro ⟨h1, h2, h3⟩ p hp
    simp only [List.mem_cons, List.mem_append] at hp
    rcases hp with rfl | hp | hp
    ·rwa [Int.toNat_natCast]
    ·exact h2 p hp
    ·exact h3 p hp
   ·intro hh
    exact ⟨by have := hh i List.mem_cons_self; rwa [Int.toNat_natCast] at this, fun p hp => hh p (List.mem_cons_of_mem _ (List.mem_append_left _ hp)), fun p hp => hh p (List.mem_cons_of_mem _ (List.mem_append_right _ hp))⟩
  ·obtain rfl := Option.some.inj h
   simp [allT, plT]
def plc : Tr → Int
 | .nil => -1
 | .node _ p _ _ => p
theorem mkT_plc {t : List S34} {k i : Nat} {T : Tr} (h : mkT t k i = some T) : plc T = i := by
 cases k with
 | zero => simp [mkT] at h
 | succ k =>
  rw [mkT] at h
  split at h
  case isFalse => exact absurd h (by simp)
  split at h
  ·obtain ⟨l, hl, h⟩ := Option.bind_eq_some_iff.1 h
   obtain ⟨r, hr, h⟩ := Option.bind_eq_some_iff.1 h
   obtain rfl := Option.some.inj h
   rfl
  ·obtain rfl := Option.some.inj h
   rfl
/-- The crown over the tree of the keys. -/
def Crown (T X0 : Tr) : Prop := ∃ n0 n1 p1 q1 q0, T = .node n0 0 (.node n1 p1 X0 (.node sn34 q1 .nil .nil)) (.node sn34 q0 .nil .nil) ∧ n0.f1 = 1 ∧ n0.f2 = 1 ∧ n1.f1 = 1 ∧ n1.f2 = 1 ∧ allT (fun n => n.f1 = 0) X0 ∧ X0 ≠ .nil
theorem mkT_inner {t : List S34} (hf : ∀ i, i < t.length → fmN (t.getD i z34) t.length = true) {k i : Nat} {T : Tr} (h : mkT t k i = some T) (hl : ¬ ((t.getD i z34).f4 = -1 ∧ (t.getD i z34).f5 = -1)) :
  ∃ k' l r, k = k' + 1 ∧ i < t.length ∧ mkT t k' (t.getD i z34).f4.toNat = some l ∧ mkT t k' (t.getD i z34).f5.toNat = some r ∧ T = .node (t.getD i z34) i l r := by
 cases k with
 | zero => simp [mkT] at h
 | succ k =>
  rw [mkT] at h
  split at h
  case isFalse => exact absurd h (by simp)
  rename_i hi
  have := (fmN_iff _ _).1 (hf i hi)
  rw [if_pos (by omega)] at h
  obtain ⟨l, hl, h⟩ := Option.bind_eq_some_iff.1 h
  obtain ⟨r, hr, h⟩ := Option.bind_eq_some_iff.1 h
  exact ⟨k, l, r, rfl, hi, hl, hr, (Option.some.inj h).symm⟩
theorem mkT_leaf {t : List S34} (hf : ∀ i, i < t.length → fmN (t.getD i z34) t.length = true) {k i : Nat} {T : Tr} (h : mkT t k i = some T) (hl : (t.getD i z34).f4 = -1 ∧ (t.getD i z34).f5 = -1) : i < t.length ∧ T = .node (t.getD i z34) i .nil .nil := by
 cases k with
 | zero => simp [mkT] at h
 | succ k =>
  rw [mkT] at h
  split at h
  case isFalse => exact absurd h (by simp)
  rename_i hi
  rw [if_neg (by omega)] at h
  exact ⟨hi, (Option.some.inj h).symm⟩
theorem mkT_node {t : List S34} (hf : ∀ i, i < t.length → fmN (t.getD i z34) t.length = true) {k i : Nat} {n : S34} {p : Int} {l r : Tr} (h : mkT t k i = some (.node n p l r)) : i < t.length ∧ n = t.getD i z34 ∧ p = i ∧ (l ≠ .nil → ¬ (n.f4 = -1 ∧ n.f5 = -1) ∧ ∃ k', k = k' + 1 ∧ mkT t k' n.f4.toNat = some l ∧ mkT t k' n.f5.toNat = some r) := by
 by_cases hl : (t.getD i z34).f4 = -1 ∧ (t.getD i z34).f5 = -1
 ·obtain ⟨hi, e⟩ := mkT_leaf hf h hl
  injection e with e1 e2 e3 e4
  exact ⟨hi, e1, e2, fun hn => absurd e3 hn⟩
 ·obtain ⟨k', l', r', hk, hi, h1, h2, e⟩ := mkT_inner hf h hl
  injection e with e1 e2 e3 e4
  subst e1 e3 e4
  exact ⟨hi, rfl, e2, fun _ => ⟨hl, k', hk, h1, h2⟩⟩
theorem crown_cr {t : List S34} {T X0 : Tr} (hg : Good t T) (h : Crown T X0) : crP t (t.getD 0 z34) ∧ t.getD (t.getD 0 z34).f4.toNat z34 ≠ sn34 ∧ crP t (t.getD (t.getD 0 z34).f4.toNat z34) := by
 obtain ⟨n0, n1, p1, q1, q0, rfl, c1, c2, c3, c4, _, hXn⟩ := h
 obtain ⟨h1, h2, _, h3⟩ := mkT_node hg.form hg.tree
 obtain ⟨h4, k1, hk1, h5, h6⟩ := h3 (by simp)
 subst h2
 obtain ⟨_, g2, _, _⟩ := mkT_node hg.form h6
 obtain ⟨e1, e2, _, e3⟩ := mkT_node hg.form h5
 obtain ⟨e4, k2, hk2, e5, e6⟩ := e3 hXn
 subst e2
 obtain ⟨_, d2, _, _⟩ := mkT_node hg.form e6
 exact ⟨⟨h4, c1, c2, g2.symm⟩, fun e => e4 (by rw [e]; exact ⟨rfl, rfl⟩), e4, c3, c4, d2.symm⟩
theorem root_l0 (t : List S34) (v0 v1 v2 v3 v4 v5 : Int) (ps : List Int) (hp : ∀ p ∈ ps, 0 ≤ p ∧ p < t.length) (hlen : ps.length ≤ 1000000) : ∀ (d i k : Nat), i + d = ps.length → d < k → (∀ j, j < i → (t.getD (ps.getD j 0).toNat z34).f1 = 0) →
  ∃ r1 r2, table_Root.l0 k t ps ps.length i v0 v1 v2 v3 v4 v5 = some (r1, r2) ∧ (r2 = 0 → r1 = v4 ∧ ∀ j, j < ps.length → (t.getD (ps.getD j 0).toNat z34).f1 = 0) ∧ ((∀ j, j < ps.length → (t.getD (ps.getD j 0).toNat z34).f1 = 0) → r1 = v4 ∧ r2 = 0) := by
 intro d
 induction d with
 | zero =>
  intro i k hi hk hpre
  cases k with
  | zero => omega
  | succ k =>
   rw [table_Root.l0, if_neg (by omega)]
   exact ⟨v4, 0, rfl, fun _ => ⟨rfl, fun j hj => hpre j (by omega)⟩, fun _ => ⟨rfl, rfl⟩⟩
 | succ d ih =>
  intro i k hi hk hpre
  cases k with
  | zero => omega
  | succ k =>
   have hm : ps.getD i 0 ∈ ps := by rw [List.getD, List.getElem?_eq_getElem (by omega), Option.getD_some]; exact List.getElem_mem _
   have hr := hp _ hm
   rw [table_Root.l0, if_pos (by omega), if_pos (by omega), if_pos (by omega)]
   rw [show rd ps (i : Int) = ps.getD i 0 from rfl, show rd_T34 t (ps.getD i 0) = t.getD (ps.getD i 0).toNat z34 from rfl]
   rw [if_pos hr.1, if_pos hr.2]
   by_cases e : (t.getD (ps.getD i 0).toNat z34).f1 = 0
   ·rw [if_pos e, Go.IntWalk.wrap64_in _ (by omega)]
    exact ih (i + 1) k (by omega) (by omega) (fun j hj => by
     by_cases ej : j = i
     ·rw [ej]; exact e
     ·exact hpre j (by omega))
   ·rw [if_neg e]
    exact ⟨0, 3, rfl, fun h => absurd h (by decide), fun h => absurd (h i (by omega)) e⟩
theorem allmem (t : List S34) (ps : List Int) : (∀ j, j < ps.length → (t.getD (ps.getD j 0).toNat z34).f1 = 0) ↔ ∀ p ∈ ps, (t.getD p.toNat z34).f1 = 0 := by
 constructor
 ·intro h p hp
  obtain ⟨j, hj, rfl⟩ := List.getElem_of_mem hp
  have := h j hj
  rwa [show ps.getD j 0 = ps[j] by rw [List.getD, List.getElem?_eq_getElem hj, Option.getD_some]] at this
 ·intro h j hj
  rw [show ps.getD j 0 = ps[j] by rw [List.getD, List.getElem?_eq_getElem hj, Option.getD_some]]
  exact h _ (List.getElem_mem _)
theorem nodup_app_r {α : Type} {a b : List α} (h : (a ++ b).Nodup) : b.Nodup := (List.nodup_append.1 h).2.1
theorem nodup_app_l {α : Type} {a b : List α} (h : (a ++ b).Nodup) : a.Nodup := (List.nodup_append.1 h).1
theorem root_good {t : List S34} {T : Tr} (hg : Good t T) : ∃ k r1 r2, table_Root.f k t = some (r1, r2) ∧ (r2 = 0 → ∃ X0, Crown T X0 ∧ plc X0 = r1) ∧ (∀ X0, Crown T X0 → r2 = 0 ∧ r1 = plc X0) := by
 have hlen := hg.len
 have hpos := hg.pos
 have htr := hg.tree
 obtain ⟨kc, hc⟩ := check_good hg
 have f0 := hg.form 0 hpos
 obtain ⟨b0, hb0, hb0'⟩ := crowned_f t (t.getD 0 z34) f0
 have hroot : ∀ k, kc ≤ k → table_Root.f k t = if b0 = true then (if 0 ≤ (t.getD 0 z34).f4 then (if (t.getD 0 z34).f4 < t.length then
   (if snB (t.getD (t.getD 0 z34).f4.toNat z34) = true then some (0, 4) else
    ((table_crowned.f t (t.getD (t.getD 0 z34).f4.toNat z34).f0 (t.getD (t.getD 0 z34).f4.toNat z34).f1 (t.getD (t.getD 0 z34).f4.toNat z34).f2 (t.getD (t.getD 0 z34).f4.toNat z34).f3 (t.getD (t.getD 0 z34).f4.toNat z34).f4 (t.getD (t.getD 0 z34).f4.toNat z34).f5).bind fun b1 => if b1 = true then
     ((table_order.f k t (t.getD (t.getD 0 z34).f4.toNat z34).f4).bind fun ps => table_Root.l0 k t ps ps.length 0 (t.getD (t.getD 0 z34).f4.toNat z34).f0 (t.getD (t.getD 0 z34).f4.toNat z34).f1 (t.getD (t.getD 0 z34).f4.toNat z34).f2 (t.getD (t.getD 0 z34).f4.toNat z34).f3 (t.getD (t.getD 0 z34).f4.toNat z34).f4 (t.getD (t.getD 0 z34).f4.toNat z34).f5) else some (0, 3))) else none) else none) else some (0, 3) := by
  intro k hk
  unfold table_Root.f
  rw [up_to (fun k => table_Check.mono t k) hk hc, Option.bind_some, if_pos rfl, if_pos (by omega)]
  rw [show rd_T34 t 0 = t.getD 0 z34 from rfl, show rd_T34 t (t.getD 0 z34).f4 = t.getD (t.getD 0 z34).f4.toNat z34 from rfl]
  rw [hb0, Option.bind_some]
  by_cases hb : b0 = true
  ·rw [if_pos hb, if_pos hb]
   simp only [table_sentinel.f, Option.bind_some]
   rfl
  ·rw [if_neg hb, if_neg hb]
 by_cases hb : b0 = true
 ·have hcr := hb0'.1 hb
  have f0' := (fmN_iff _ _).1 f0
  have hA : ¬ ((t.getD 0 z34).f4 = -1 ∧ (t.getD 0 z34).f5 = -1) := hcr.1
  obtain ⟨k1, l, r, hk1, _, hl, hr, hT⟩ := mkT_inner hg.form htr hcr.1
  have hrl := mkT_leaf hg.form hr (by rw [hcr.2.2.2]; exact ⟨rfl, rfl⟩)
  rw [hcr.2.2.2] at hrl
  have f1 := hg.form (t.getD 0 z34).f4.toNat (by omega)
  obtain ⟨b1, hb1, hb1'⟩ := crowned_f t _ f1
  by_cases hs : t.getD (t.getD 0 z34).f4.toNat z34 = sn34
  ·refine ⟨kc, 0, 4, ?_, fun h => absurd h (by decide), ?_⟩
   ·rw [hroot kc (Nat.le_refl _), if_pos hb, if_pos (by omega), if_pos (by omega), if_pos ((sent_iff _).2 hs)]
   ·rintro X0 ⟨n0, n1, p1, q1, q0, e, _⟩
    have := mkT_leaf hg.form hl (by rw [hs]; exact ⟨rfl, rfl⟩)
    rw [hT, this.2] at e
    injection e with _ _ e _
    injection e with _ _ _ e
    exact absurd e (by simp)
  ·by_cases hb1t : b1 = true
   ·have hcr1 := hb1'.1 hb1t
    have f1' := (fmN_iff _ _).1 f1
    have hB : ¬ ((t.getD (t.getD 0 z34).f4.toNat z34).f4 = -1 ∧ (t.getD (t.getD 0 z34).f4.toNat z34).f5 = -1) := hcr1.1
    obtain ⟨k2, X0, r1, hk2, hi2, hl1, hr1, hT1⟩ := mkT_inner hg.form hl hcr1.1
    have hrl1 := mkT_leaf hg.form hr1 (by rw [hcr1.2.2.2]; exact ⟨rfl, rfl⟩)
    rw [hcr1.2.2.2] at hrl1
    have hn := hg.nodup
    have ha := hg.all
    rw [hT, hT1] at hn ha
    simp only [plT, List.nodup_cons, List.cons_append, List.length_cons, List.length_append] at hn ha
    have hnX : (plT X0).Nodup := by
     have h1 := hn.2
     rw [List.append_assoc] at h1
     exact nodup_app_l h1.2
    have hord : ∀ k, t.length ≤ k → table_order.f k t (t.getD (t.getD 0 z34).f4.toNat z34).f4 = some (plT X0) := fun k hk => order_f_tree hlen (formT_of hg.form) (by omega) hl1 hnX (by omega) k (by omega)
    obtain ⟨q1, q2, hq, hq1, hq2⟩ := root_l0 t (t.getD (t.getD 0 z34).f4.toNat z34).f0 (t.getD (t.getD 0 z34).f4.toNat z34).f1 (t.getD (t.getD 0 z34).f4.toNat z34).f2 (t.getD (t.getD 0 z34).f4.toNat z34).f3 (t.getD (t.getD 0 z34).f4.toNat z34).f4 (t.getD (t.getD 0 z34).f4.toNat z34).f5 (plT X0) (plT_mem _ _ _ hl1).2 (by omega) (plT X0).length 0 (max kc (t.length + 1)) (by omega) (by omega) (fun j hj => absurd hj (by omega))
    have hpX : plc X0 = (t.getD (t.getD 0 z34).f4.toNat z34).f4 := by rw [mkT_plc hl1]; omega
    have hXn : X0 ≠ .nil := by rintro rfl; rw [plc] at hpX; omega
    refine ⟨max kc (t.length + 1), q1, q2, ?_, ?_, ?_⟩
    ·rw [hroot _ (Nat.le_max_left _ _), if_pos hb, if_pos (by omega), if_pos (by omega), if_neg (fun h => hs ((sent_iff _).1 h)), hb1, Option.bind_some, if_pos hb1t, hord _ (by omega), Option.bind_some]
     exact hq
    ·intro h0
     have h1 := hq1 h0
     refine ⟨X0, ⟨t.getD 0 z34, t.getD (t.getD 0 z34).f4.toNat z34, ((t.getD 0 z34).f4.toNat : Nat), ((t.getD (t.getD 0 z34).f4.toNat z34).f5.toNat : Nat), ((t.getD 0 z34).f5.toNat : Nat), ?_, hcr.2.1, hcr.2.2.1, hcr1.2.1, hcr1.2.2.1, ?_, hXn⟩, by rw [h1.1, hpX]⟩
     ·rw [hT, hT1, hrl.2, hrl1.2]; rfl
     ·exact (allT_mkT hl1).2 ((allmem t _).1 h1.2)
    ·rintro Y ⟨n0, n1, p1, q1', q0, e, _, _, _, _, hin, _⟩
     rw [hT, hT1] at e
     injection e with _ _ e _
     injection e with _ _ e _
     subst e
     have h1 := hq2 ((allmem t _).2 ((allT_mkT hl1).1 hin))
     exact ⟨h1.2, by rw [h1.1, hpX]⟩
   ·refine ⟨kc, 0, 3, ?_, fun h => absurd h (by decide), ?_⟩
    ·rw [hroot kc (Nat.le_refl _), if_pos hb, if_pos (by omega), if_pos (by omega), if_neg (fun h => hs ((sent_iff _).1 h)), hb1, Option.bind_some, if_neg hb1t]
    ·intro X0 hX
     exact absurd (hb1'.2 (crown_cr hg hX).2.2) hb1t
 ·refine ⟨kc, 0, 3, ?_, fun h => absurd h (by decide), ?_⟩
  ·rw [hroot kc (Nat.le_refl _), if_neg hb]
  ·intro X0 hX
   exact absurd (hb0'.2 (crown_cr hg hX).1) hb
end Go.Proofs.Ytgleaefhflamnaa.T
namespace Go.Proofs.Ytgleaefhflamnaa.T
open Go.RowKit Go.Proofs.YtgleaefhflamnaaW.PrintWords Go.Proofs.YtgleaefhflamnaaW.PrintLast Go.Proofs.YtgleaefhflamnaaW.PrintMore
/-- Trees in form: each node's weight in its bounds, both children or none. -/
def Ok : Tr → Prop
 | .nil => False
 | .node n _ l r => (0 ≤ n.f2 ∧ n.f2 ≤ 1000000) ∧ (n.f1 = 0 ∨ (n.f1 = 1 ∧ n.f0 = 0 ∧ n.f3 = 0)) ∧ ((l = .nil ∧ r = .nil ∧ n.f4 = -1 ∧ n.f5 = -1) ∨ (n.f3 = 0 ∧ Ok l ∧ Ok r))
def sums : Tr → Int → List Int
 | .nil, _ => []
 | .node n _ .nil _, a => [a + n.f2]
 | .node n _ (.node m p x y) r, a => sums (.node m p x y) (a + n.f2) ++ sums r (a + n.f2)
theorem ok_ne {T : Tr} (h : Ok T) : T ≠ .nil := by rintro rfl; exact h
theorem ok_split (m : Bool) {T : Tr} (h : Ok T) (hl : lT m T ≠ .nil ∨ rT m T ≠ .nil) : Ok (lT m T) ∧ Ok (rT m T) := by
 cases T with
 | nil => exact h.elim
 | node n p l r =>
  rw [Ok] at h
  rcases h.2.2 with h1 | h1
  ·obtain ⟨rfl, rfl, _⟩ := h1
   cases m <;> simp [lT, rT] at hl
  ·cases m
   ·exact ⟨h1.2.1, h1.2.2⟩
   ·exact ⟨h1.2.2, h1.2.1⟩
theorem ok_wt {T : Tr} (h : Ok T) : 0 ≤ wt T ∧ wt T ≤ 1000000 := by
 cases T with
 | nil => exact h.elim
 | node n p l r => exact h.1
theorem wt_pos_ne {T : Tr} (h : 0 ≤ wt T) : T ≠ .nil := by rintro rfl; simp [wt] at h
theorem sums_split (m : Bool) {T : Tr} (h : Ok T) (hl : lT m T ≠ .nil) (a : Int) : sums T a = if m then sums (rT m T) (a + wt T) ++ sums (lT m T) (a + wt T) else sums (lT m T) (a + wt T) ++ sums (rT m T) (a + wt T) := by
 have h2 := ok_split m h (.inl hl)
 cases T with
 | nil => exact h.elim
 | node n p l r =>
  cases m with
  | false =>
   cases l with
   | nil => exact absurd rfl hl
   | node _ _ _ _ => rfl
  | true =>
   cases l with
   | nil => exact h2.2.elim
   | node _ _ _ _ => rfl
theorem sums_put (m : Bool) (k x : Int) {L R : Tr} (hL : L ≠ .nil) (hR : R ≠ .nil) (a : Int) : sums (putT m k x L R) a = if m then sums R (a + x) ++ sums L (a + x) else sums L (a + x) ++ sums R (a + x) := by
 cases m with
 | false =>
  cases L with
  | nil => exact absurd rfl hL
  | node _ _ _ _ => rfl
 | true =>
  cases R with
  | nil => exact absurd rfl hR
  | node _ _ _ _ => rfl
theorem sums_as (x : Int) {T : Tr} (h : T ≠ .nil) (a : Int) : sums (asT x T) a = sums T (a + x - wt T) := by
 cases T with
 | nil => exact absurd rfl h
 | node n p l r =>
  cases l with
  | nil => simp only [asT, sums, wt]; congr 1; omega
  | node _ _ _ _ => simp only [asT, sums, wt]; rw [show a + x - n.f2 + n.f2 = a + x by omega]
theorem wt_put (m : Bool) (k x : Int) (L R : Tr) : wt (putT m k x L R) = x := rfl
theorem wt_as (x : Int) {T : Tr} (h : T ≠ .nil) : wt (asT x T) = x := by
 cases T with
 | nil => exact absurd rfl h
 | node _ _ _ _ => rfl
theorem put_ne (m : Bool) (k x : Int) (L R : Tr) : putT m k x L R ≠ .nil := by simp [putT]
theorem as_ne (x : Int) {T : Tr} (h : T ≠ .nil) : asT x T ≠ .nil := by
 cases T with
 | nil => exact absurd rfl h
 | node _ _ _ _ => simp [asT]
theorem ok_put {m : Bool} {k x : Int} {L R : Tr} (hx : 0 ≤ x ∧ x ≤ 1000000) (hL : Ok L) (hR : Ok R) : Ok (putT m k x L R) := by
 cases m
 ·exact ⟨hx, .inl rfl, .inr ⟨rfl, hL, hR⟩⟩
 ·exact ⟨hx, .inl rfl, .inr ⟨rfl, hR, hL⟩⟩
theorem ok_as {x : Int} {T : Tr} (hx : 0 ≤ x ∧ x ≤ 1000000) (h : Ok T) : Ok (asT x T) := by
 cases T with
 | nil => exact h.elim
 | node n p l r => exact ⟨hx, h.2.1, h.2.2⟩
theorem size_split (m : Bool) {T : Tr} (h : T ≠ .nil) : sizeT T = 1 + sizeT (lT m T) + sizeT (rT m T) := by
 cases T with
 | nil => exact absurd rfl h
 | node n p l r => cases m <;> simp only [sizeT, lT, rT, if_true] <;> first | rfl | omega
theorem size_put (m : Bool) (k x : Int) (L R : Tr) : sizeT (putT m k x L R) = 1 + sizeT L + sizeT R := by
 cases m <;> simp only [putT, sizeT, if_true] <;> first | rfl | omega
theorem size_as (x : Int) {T : Tr} : sizeT (asT x T) = sizeT T := by cases T <;> rfl
theorem all_put {P : S34 → Prop} {m : Bool} {k x : Int} {L R : Tr} (hn : P ⟨k, 0, x, 0, 0, 0⟩) (hL : allT P L) (hR : allT P R) : allT P (putT m k x L R) := by
 cases m
 ·exact ⟨hn, hL, hR⟩
 ·exact ⟨hn, hR, hL⟩
theorem all_as {x : Int} {T : Tr} (h : allT (fun n => n.f1 = 0) T) : allT (fun n => n.f1 = 0) (asT x T) := by
 cases T with
 | nil => exact h
 | node n p l r => exact h
theorem all_l {P : S34 → Prop} {m : Bool} {T : Tr} (h : allT P T) : allT P (lT m T) := by
 cases T with
 | nil => exact h
 | node n p l r =>
  cases m
  ·exact h.2.1
  ·exact h.2.2
theorem all_r {P : S34 → Prop} {m : Bool} {T : Tr} (h : allT P T) : allT P (rT m T) := by
 cases T with
 | nil => exact h
 | node n p l r =>
  cases m
  ·exact h.2.2
  ·exact h.2.1
end Go.Proofs.Ytgleaefhflamnaa.T
namespace Go.Proofs.Ytgleaefhflamnaa.T
open Go.RowKit Go.Proofs.YtgleaefhflamnaaW.PrintWords Go.Proofs.YtgleaefhflamnaaW.PrintLast Go.Proofs.YtgleaefhflamnaaW.PrintMore
theorem inner_ne {T : Tr} (h : innerB T = true) : lT false T ≠ .nil ∧ rT true T ≠ .nil := by
 cases T with
 | nil => simp [innerB] at h
 | node n p l r =>
  cases l with
  | nil => simp [innerB] at h
  | node _ _ _ _ => simp [lT, rT]
theorem inner_lT (m : Bool) {T : Tr} (hk : Ok T) (h : innerB T = true) : lT m T ≠ .nil := by
 cases m with
 | false => exact (inner_ne h).1
 | true => exact ok_ne (ok_split true hk (.inr (inner_ne h).2)).1
/-- What a step does: the size, the form, the sums, the violations. -/
structure Does (X Y : Tr) : Prop where
 size : sizeT Y = sizeT X
 top : 0 ≤ wt Y ∧ wt Y ≤ 1000001
 ok : wt Y ≤ 1000000 → Ok Y
 ok1 : Ok (setW Y 1)
 sums : ∀ a, sums Y a = sums X a
 all : allT (fun n => n.f1 = 0) X → allT (fun n => n.f1 = 0) Y
theorem set_put (m : Bool) (k x y : Int) (L R : Tr) : setW (putT m k x L R) y = putT m k y L R := rfl
set_option maxHeartbeats 2000000 in
theorem do1_does (m : Bool) {X : Tr} (hX : Ok X) (hc : can1 m X = true) : Does X (do1 m X) := by
 simp only [can1, Bool.and_eq_true, Bool.or_eq_true, decide_eq_true_eq, beq_iff_eq] at hc
 have ne_L : lT m X ≠ .nil := wt_pos_ne (by omega)
 have k_X := ok_split m hX (.inl ne_L)
 have ok_L := k_X.1
 have ok_R := k_X.2
 have w_L := ok_wt ok_L
 have n_L := ok_ne ok_L
 have w_R := ok_wt ok_R
 have n_R := ok_ne ok_R
 have w_X := ok_wt hX
 have n_X := ok_ne hX
 have s_X := size_split m n_X
 have hw : wrap64 (wt X - 1) = wt X - 1 := Go.IntWalk.wrap64_in _ (by omega)
 have hw1 : wrap64 (wt X + 1) = wt X + 1 := Go.IntWalk.wrap64_in _ (by omega)
 have hw_L : wrap64 (wt (lT m X) - 1) = wt (lT m X) - 1 := Go.IntWalk.wrap64_in _ (by omega)
 have hw_R : wrap64 (wt (rT m X) - 1) = wt (rT m X) - 1 := Go.IntWalk.wrap64_in _ (by omega)
 unfold do1
 try unfold lessT
 try simp only [hw, hw1, hw_L, hw_R]
 refine ⟨?_, ?_, ?_, ?_, ?_, ?_⟩
 ·simp only [size_put, size_as]; omega
 ·simp only [wt_put]; omega
 ·intro hy; simp only [wt_put] at hy; repeat (first | assumption | (refine ok_put (by omega) ?_ ?_) | (refine ok_as (by omega) ?_))
 ·rw [set_put]; repeat (first | assumption | (refine ok_put (by omega) ?_ ?_) | (refine ok_as (by omega) ?_))
 ·intro a
  have e_X : ∀ a, sums (X) a = _ := sums_split m hX n_L
  cases m
  ·simp only [if_true, if_false, Bool.false_eq_true] at e_X
   simp only [e_X]
   repeat rw [sums_put _ _ _ (by first | exact put_ne _ _ _ _ _ | exact as_ne _ (by assumption) | assumption) (by first | exact put_ne _ _ _ _ _ | exact as_ne _ (by assumption) | assumption)]
   try simp only [if_true, if_false, Bool.false_eq_true]
   repeat rw [sums_as _ (by assumption)]
   try simp only [List.append_assoc]
   repeat (first | rfl | (refine congr (congrArg HAppend.hAppend (congrArg _ (by omega))) ?_) | (refine congrArg _ (by omega)))
  ·simp only [if_true, if_false, Bool.false_eq_true] at e_X
   simp only [e_X]
   repeat rw [sums_put _ _ _ (by first | exact put_ne _ _ _ _ _ | exact as_ne _ (by assumption) | assumption) (by first | exact put_ne _ _ _ _ _ | exact as_ne _ (by assumption) | assumption)]
   try simp only [if_true, if_false, Bool.false_eq_true]
   repeat rw [sums_as _ (by assumption)]
   try simp only [List.append_assoc]
   repeat (first | rfl | (refine congr (congrArg HAppend.hAppend (congrArg _ (by omega))) ?_) | (refine congrArg _ (by omega)))
 ·intro ha; repeat (first | assumption | (refine all_put rfl ?_ ?_) | (refine all_as ?_) | (refine all_l ?_) | (refine all_r ?_))
set_option maxHeartbeats 2000000 in
theorem do2_does (m : Bool) {X : Tr} (hX : Ok X) (hc : can2 m X = true) : Does X (do2 m X) := by
 simp only [can2, Bool.and_eq_true, Bool.or_eq_true, decide_eq_true_eq, beq_iff_eq] at hc
 have ne_L : lT m X ≠ .nil := wt_pos_ne (by omega)
 have k_X := ok_split m hX (.inl ne_L)
 have ok_L := k_X.1
 have ok_R := k_X.2
 have ne_LL : lT m (lT m X) ≠ .nil := wt_pos_ne (by omega)
 have k_L := ok_split m ok_L (.inl ne_LL)
 have ok_LL := k_L.1
 have ok_LR := k_L.2
 have w_L := ok_wt ok_L
 have n_L := ok_ne ok_L
 have w_R := ok_wt ok_R
 have n_R := ok_ne ok_R
 have w_LL := ok_wt ok_LL
 have n_LL := ok_ne ok_LL
 have w_LR := ok_wt ok_LR
 have n_LR := ok_ne ok_LR
 have w_X := ok_wt hX
 have n_X := ok_ne hX
 have s_X := size_split m n_X
 have s_L := size_split m n_L
 have hw : wrap64 (wt X - 1) = wt X - 1 := Go.IntWalk.wrap64_in _ (by omega)
 have hw1 : wrap64 (wt X + 1) = wt X + 1 := Go.IntWalk.wrap64_in _ (by omega)
 unfold do2
 try unfold lessT
 try simp only [hw, hw1]
 refine ⟨?_, ?_, ?_, ?_, ?_, ?_⟩
 ·simp only [size_put, size_as]; omega
 ·simp only [wt_put]; omega
 ·intro hy; simp only [wt_put] at hy; repeat (first | assumption | (refine ok_put (by omega) ?_ ?_) | (refine ok_as (by omega) ?_))
 ·rw [set_put]; repeat (first | assumption | (refine ok_put (by omega) ?_ ?_) | (refine ok_as (by omega) ?_))
 ·intro a
  have e_X : ∀ a, sums (X) a = _ := sums_split m hX n_L
  have e_L : ∀ a, sums (lT m X) a = _ := sums_split m ok_L n_LL
  cases m
  ·simp only [if_true, if_false, Bool.false_eq_true] at e_X e_L
   simp only [e_X, e_L]
   repeat rw [sums_put _ _ _ (by first | exact put_ne _ _ _ _ _ | exact as_ne _ (by assumption) | assumption) (by first | exact put_ne _ _ _ _ _ | exact as_ne _ (by assumption) | assumption)]
   try simp only [if_true, if_false, Bool.false_eq_true]
   try simp only [List.append_assoc]
   repeat (first | rfl | (refine congr (congrArg HAppend.hAppend (congrArg _ (by omega))) ?_) | (refine congrArg _ (by omega)))
  ·simp only [if_true, if_false, Bool.false_eq_true] at e_X e_L
   simp only [e_X, e_L]
   repeat rw [sums_put _ _ _ (by first | exact put_ne _ _ _ _ _ | exact as_ne _ (by assumption) | assumption) (by first | exact put_ne _ _ _ _ _ | exact as_ne _ (by assumption) | assumption)]
   try simp only [if_true, if_false, Bool.false_eq_true]
   try simp only [List.append_assoc]
   repeat (first | rfl | (refine congr (congrArg HAppend.hAppend (congrArg _ (by omega))) ?_) | (refine congrArg _ (by omega)))
 ·intro ha; repeat (first | assumption | (refine all_put rfl ?_ ?_) | (refine all_as ?_) | (refine all_l ?_) | (refine all_r ?_))
set_option maxHeartbeats 2000000 in
theorem do3_does (m : Bool) {X : Tr} (hX : Ok X) (hc : can3 m X = true) : Does X (do3 m X) := by
 simp only [can3, Bool.and_eq_true, Bool.or_eq_true, decide_eq_true_eq, beq_iff_eq] at hc
 have ne_L : lT m X ≠ .nil := wt_pos_ne (by omega)
 have k_X := ok_split m hX (.inl ne_L)
 have ok_L := k_X.1
 have ok_R := k_X.2
 have ne_LR : rT m (lT m X) ≠ .nil := wt_pos_ne (by omega)
 have k_L := ok_split m ok_L (.inr ne_LR)
 have ok_LL := k_L.1
 have ok_LR := k_L.2
 have ne_LRL : lT m (rT m (lT m X)) ≠ .nil := inner_lT m ok_LR (by simp only [hc])
 have k_LR := ok_split m ok_LR (.inl ne_LRL)
 have ok_LRL := k_LR.1
 have ok_LRR := k_LR.2
 have w_L := ok_wt ok_L
 have n_L := ok_ne ok_L
 have w_R := ok_wt ok_R
 have n_R := ok_ne ok_R
 have w_LL := ok_wt ok_LL
 have n_LL := ok_ne ok_LL
 have w_LR := ok_wt ok_LR
 have n_LR := ok_ne ok_LR
 have w_LRL := ok_wt ok_LRL
 have n_LRL := ok_ne ok_LRL
 have w_LRR := ok_wt ok_LRR
 have n_LRR := ok_ne ok_LRR
 have w_X := ok_wt hX
 have n_X := ok_ne hX
 have s_X := size_split m n_X
 have s_L := size_split m n_L
 have s_LR := size_split m n_LR
 have hw : wrap64 (wt X - 1) = wt X - 1 := Go.IntWalk.wrap64_in _ (by omega)
 have hw1 : wrap64 (wt X + 1) = wt X + 1 := Go.IntWalk.wrap64_in _ (by omega)
 unfold do3
 try unfold lessT
 try simp only [hw, hw1]
 refine ⟨?_, ?_, ?_, ?_, ?_, ?_⟩
 ·simp only [size_put, size_as]; omega
 ·simp only [wt_put]; omega
 ·intro hy; simp only [wt_put] at hy; repeat (first | assumption | (refine ok_put (by omega) ?_ ?_) | (refine ok_as (by omega) ?_))
 ·rw [set_put]; repeat (first | assumption | (refine ok_put (by omega) ?_ ?_) | (refine ok_as (by omega) ?_))
 ·intro a
  have e_X : ∀ a, sums (X) a = _ := sums_split m hX n_L
  have e_L : ∀ a, sums (lT m X) a = _ := sums_split m ok_L n_LL
  have e_LR : ∀ a, sums (rT m (lT m X)) a = _ := sums_split m ok_LR n_LRL
  cases m
  ·simp only [if_true, if_false, Bool.false_eq_true] at e_X e_L e_LR
   simp only [e_X, e_L, e_LR]
   repeat rw [sums_put _ _ _ (by first | exact put_ne _ _ _ _ _ | exact as_ne _ (by assumption) | assumption) (by first | exact put_ne _ _ _ _ _ | exact as_ne _ (by assumption) | assumption)]
   try simp only [if_true, if_false, Bool.false_eq_true]
   try simp only [List.append_assoc]
   repeat (first | rfl | (refine congr (congrArg HAppend.hAppend (congrArg _ (by omega))) ?_) | (refine congrArg _ (by omega)))
  ·simp only [if_true, if_false, Bool.false_eq_true] at e_X e_L e_LR
   simp only [e_X, e_L, e_LR]
   repeat rw [sums_put _ _ _ (by first | exact put_ne _ _ _ _ _ | exact as_ne _ (by assumption) | assumption) (by first | exact put_ne _ _ _ _ _ | exact as_ne _ (by assumption) | assumption)]
   try simp only [if_true, if_false, Bool.false_eq_true]
   try simp only [List.append_assoc]
   repeat (first | rfl | (refine congr (congrArg HAppend.hAppend (congrArg _ (by omega))) ?_) | (refine congrArg _ (by omega)))
 ·intro ha; repeat (first | assumption | (refine all_put rfl ?_ ?_) | (refine all_as ?_) | (refine all_l ?_) | (refine all_r ?_))
set_option maxHeartbeats 2000000 in
theorem do4_does (m : Bool) {X : Tr} (hX : Ok X) (hc : can4 m X = true) : Does X (do4 m X) := by
 simp only [can4, Bool.and_eq_true, Bool.or_eq_true, decide_eq_true_eq, beq_iff_eq] at hc
 have ne_L : lT m X ≠ .nil := wt_pos_ne (by omega)
 have k_X := ok_split m hX (.inl ne_L)
 have ok_L := k_X.1
 have ok_R := k_X.2
 have w_L := ok_wt ok_L
 have n_L := ok_ne ok_L
 have w_R := ok_wt ok_R
 have n_R := ok_ne ok_R
 have w_X := ok_wt hX
 have n_X := ok_ne hX
 have s_X := size_split m n_X
 have hw : wrap64 (wt X - 1) = wt X - 1 := Go.IntWalk.wrap64_in _ (by omega)
 have hw1 : wrap64 (wt X + 1) = wt X + 1 := Go.IntWalk.wrap64_in _ (by omega)
 have hw_L : wrap64 (wt (lT m X) - 1) = wt (lT m X) - 1 := Go.IntWalk.wrap64_in _ (by omega)
 have hw_R : wrap64 (wt (rT m X) - 1) = wt (rT m X) - 1 := Go.IntWalk.wrap64_in _ (by omega)
 unfold do4
 try unfold lessT
 try simp only [hw, hw1, hw_L, hw_R]
 refine ⟨?_, ?_, ?_, ?_, ?_, ?_⟩
 ·simp only [size_put, size_as]; omega
 ·simp only [wt_put]; omega
 ·intro hy; simp only [wt_put] at hy; repeat (first | assumption | (refine ok_put (by omega) ?_ ?_) | (refine ok_as (by omega) ?_))
 ·rw [set_put]; repeat (first | assumption | (refine ok_put (by omega) ?_ ?_) | (refine ok_as (by omega) ?_))
 ·intro a
  have e_X : ∀ a, sums (X) a = _ := sums_split m hX n_L
  cases m
  ·simp only [if_true, if_false, Bool.false_eq_true] at e_X
   simp only [e_X]
   repeat rw [sums_put _ _ _ (by first | exact put_ne _ _ _ _ _ | exact as_ne _ (by assumption) | assumption) (by first | exact put_ne _ _ _ _ _ | exact as_ne _ (by assumption) | assumption)]
   try simp only [if_true, if_false, Bool.false_eq_true]
   repeat rw [sums_as _ (by assumption)]
   try simp only [List.append_assoc]
   repeat (first | rfl | (refine congr (congrArg HAppend.hAppend (congrArg _ (by omega))) ?_) | (refine congrArg _ (by omega)))
  ·simp only [if_true, if_false, Bool.false_eq_true] at e_X
   simp only [e_X]
   repeat rw [sums_put _ _ _ (by first | exact put_ne _ _ _ _ _ | exact as_ne _ (by assumption) | assumption) (by first | exact put_ne _ _ _ _ _ | exact as_ne _ (by assumption) | assumption)]
   try simp only [if_true, if_false, Bool.false_eq_true]
   repeat rw [sums_as _ (by assumption)]
   try simp only [List.append_assoc]
   repeat (first | rfl | (refine congr (congrArg HAppend.hAppend (congrArg _ (by omega))) ?_) | (refine congrArg _ (by omega)))
 ·intro ha; repeat (first | assumption | (refine all_put rfl ?_ ?_) | (refine all_as ?_) | (refine all_l ?_) | (refine all_r ?_))
set_option maxHeartbeats 2000000 in
theorem do5_does (m : Bool) {X : Tr} (hX : Ok X) (hc : can5 m X = true) : Does X (do5 m X) := by
 simp only [can5, Bool.and_eq_true, Bool.or_eq_true, decide_eq_true_eq, beq_iff_eq] at hc
 have ne_L : lT m X ≠ .nil := wt_pos_ne (by omega)
 have k_X := ok_split m hX (.inl ne_L)
 have ok_L := k_X.1
 have ok_R := k_X.2
 have ne_RL : lT m (rT m X) ≠ .nil := wt_pos_ne (by omega)
 have k_R := ok_split m ok_R (.inl ne_RL)
 have ok_RL := k_R.1
 have ok_RR := k_R.2
 have w_L := ok_wt ok_L
 have n_L := ok_ne ok_L
 have w_R := ok_wt ok_R
 have n_R := ok_ne ok_R
 have w_RL := ok_wt ok_RL
 have n_RL := ok_ne ok_RL
 have w_RR := ok_wt ok_RR
 have n_RR := ok_ne ok_RR
 have w_X := ok_wt hX
 have n_X := ok_ne hX
 have s_X := size_split m n_X
 have s_R := size_split m n_R
 have hw : wrap64 (wt X - 1) = wt X - 1 := Go.IntWalk.wrap64_in _ (by omega)
 have hw1 : wrap64 (wt X + 1) = wt X + 1 := Go.IntWalk.wrap64_in _ (by omega)
 have hw_L : wrap64 (wt (lT m X) - 1) = wt (lT m X) - 1 := Go.IntWalk.wrap64_in _ (by omega)
 have hw_RL : wrap64 (wt (lT m (rT m X)) - 1) = wt (lT m (rT m X)) - 1 := Go.IntWalk.wrap64_in _ (by omega)
 unfold do5
 try unfold lessT
 try simp only [hw, hw1, hw_L, hw_RL]
 refine ⟨?_, ?_, ?_, ?_, ?_, ?_⟩
 ·simp only [size_put, size_as]; omega
 ·simp only [wt_put]; omega
 ·intro hy; simp only [wt_put] at hy; repeat (first | assumption | (refine ok_put (by omega) ?_ ?_) | (refine ok_as (by omega) ?_))
 ·rw [set_put]; repeat (first | assumption | (refine ok_put (by omega) ?_ ?_) | (refine ok_as (by omega) ?_))
 ·intro a
  have e_X : ∀ a, sums (X) a = _ := sums_split m hX n_L
  have e_R : ∀ a, sums (rT m X) a = _ := sums_split m ok_R n_RL
  cases m
  ·simp only [if_true, if_false, Bool.false_eq_true] at e_X e_R
   simp only [e_X, e_R]
   repeat rw [sums_put _ _ _ (by first | exact put_ne _ _ _ _ _ | exact as_ne _ (by assumption) | assumption) (by first | exact put_ne _ _ _ _ _ | exact as_ne _ (by assumption) | assumption)]
   try simp only [if_true, if_false, Bool.false_eq_true]
   repeat rw [sums_as _ (by assumption)]
   try simp only [List.append_assoc]
   repeat (first | rfl | (refine congr (congrArg HAppend.hAppend (congrArg _ (by omega))) ?_) | (refine congrArg _ (by omega)))
  ·simp only [if_true, if_false, Bool.false_eq_true] at e_X e_R
   simp only [e_X, e_R]
   repeat rw [sums_put _ _ _ (by first | exact put_ne _ _ _ _ _ | exact as_ne _ (by assumption) | assumption) (by first | exact put_ne _ _ _ _ _ | exact as_ne _ (by assumption) | assumption)]
   try simp only [if_true, if_false, Bool.false_eq_true]
   repeat rw [sums_as _ (by assumption)]
   try simp only [List.append_assoc]
   repeat (first | rfl | (refine congr (congrArg HAppend.hAppend (congrArg _ (by omega))) ?_) | (refine congrArg _ (by omega)))
 ·intro ha; repeat (first | assumption | (refine all_put rfl ?_ ?_) | (refine all_as ?_) | (refine all_l ?_) | (refine all_r ?_))
set_option maxHeartbeats 2000000 in
theorem do6_does (m : Bool) {X : Tr} (hX : Ok X) (hc : can6 m X = true) : Does X (do6 m X) := by
 simp only [can6, Bool.and_eq_true, Bool.or_eq_true, decide_eq_true_eq, beq_iff_eq] at hc
 have ne_L : lT m X ≠ .nil := wt_pos_ne (by omega)
 have k_X := ok_split m hX (.inl ne_L)
 have ok_L := k_X.1
 have ok_R := k_X.2
 have ne_RL : lT m (rT m X) ≠ .nil := wt_pos_ne (by omega)
 have k_R := ok_split m ok_R (.inl ne_RL)
 have ok_RL := k_R.1
 have ok_RR := k_R.2
 have w_L := ok_wt ok_L
 have n_L := ok_ne ok_L
 have w_R := ok_wt ok_R
 have n_R := ok_ne ok_R
 have w_RL := ok_wt ok_RL
 have n_RL := ok_ne ok_RL
 have w_RR := ok_wt ok_RR
 have n_RR := ok_ne ok_RR
 have w_X := ok_wt hX
 have n_X := ok_ne hX
 have s_X := size_split m n_X
 have s_R := size_split m n_R
 have hw : wrap64 (wt X - 1) = wt X - 1 := Go.IntWalk.wrap64_in _ (by omega)
 have hw1 : wrap64 (wt X + 1) = wt X + 1 := Go.IntWalk.wrap64_in _ (by omega)
 have hw_L : wrap64 (wt (lT m X) - 1) = wt (lT m X) - 1 := Go.IntWalk.wrap64_in _ (by omega)
 have hw_RL : wrap64 (wt (lT m (rT m X)) - 1) = wt (lT m (rT m X)) - 1 := Go.IntWalk.wrap64_in _ (by omega)
 unfold do6
 try unfold lessT
 try simp only [hw, hw1, hw_L, hw_RL]
 refine ⟨?_, ?_, ?_, ?_, ?_, ?_⟩
 ·simp only [size_put, size_as]; omega
 ·simp only [wt_put]; omega
 ·intro hy; simp only [wt_put] at hy; repeat (first | assumption | (refine ok_put (by omega) ?_ ?_) | (refine ok_as (by omega) ?_))
 ·rw [set_put]; repeat (first | assumption | (refine ok_put (by omega) ?_ ?_) | (refine ok_as (by omega) ?_))
 ·intro a
  have e_X : ∀ a, sums (X) a = _ := sums_split m hX n_L
  have e_R : ∀ a, sums (rT m X) a = _ := sums_split m ok_R n_RL
  cases m
  ·simp only [if_true, if_false, Bool.false_eq_true] at e_X e_R
   simp only [e_X, e_R]
   repeat rw [sums_put _ _ _ (by first | exact put_ne _ _ _ _ _ | exact as_ne _ (by assumption) | assumption) (by first | exact put_ne _ _ _ _ _ | exact as_ne _ (by assumption) | assumption)]
   try simp only [if_true, if_false, Bool.false_eq_true]
   repeat rw [sums_as _ (by assumption)]
   try simp only [List.append_assoc]
   repeat (first | rfl | (refine congr (congrArg HAppend.hAppend (congrArg _ (by omega))) ?_) | (refine congrArg _ (by omega)))
  ·simp only [if_true, if_false, Bool.false_eq_true] at e_X e_R
   simp only [e_X, e_R]
   repeat rw [sums_put _ _ _ (by first | exact put_ne _ _ _ _ _ | exact as_ne _ (by assumption) | assumption) (by first | exact put_ne _ _ _ _ _ | exact as_ne _ (by assumption) | assumption)]
   try simp only [if_true, if_false, Bool.false_eq_true]
   repeat rw [sums_as _ (by assumption)]
   try simp only [List.append_assoc]
   repeat (first | rfl | (refine congr (congrArg HAppend.hAppend (congrArg _ (by omega))) ?_) | (refine congrArg _ (by omega)))
 ·intro ha; repeat (first | assumption | (refine all_put rfl ?_ ?_) | (refine all_as ?_) | (refine all_l ?_) | (refine all_r ?_))
set_option maxHeartbeats 2000000 in
theorem do7_does (m : Bool) {X : Tr} (hX : Ok X) (hc : can7 m X = true) : Does X (do7 m X) := by
 simp only [can7, Bool.and_eq_true, Bool.or_eq_true, decide_eq_true_eq, beq_iff_eq] at hc
 have ne_L : lT m X ≠ .nil := wt_pos_ne (by omega)
 have k_X := ok_split m hX (.inl ne_L)
 have ok_L := k_X.1
 have ok_R := k_X.2
 have ne_RL : lT m (rT m X) ≠ .nil := wt_pos_ne (by omega)
 have k_R := ok_split m ok_R (.inl ne_RL)
 have ok_RL := k_R.1
 have ok_RR := k_R.2
 have ne_A : lT m (lT m (rT m X)) ≠ .nil := wt_pos_ne (by omega)
 have k_RL := ok_split m ok_RL (.inl ne_A)
 have ok_A := k_RL.1
 have ok_B := k_RL.2
 have ne_AL : lT m (lT m (lT m (rT m X))) ≠ .nil := inner_lT m ok_A (by simp only [hc])
 have k_A := ok_split m ok_A (.inl ne_AL)
 have ok_AL := k_A.1
 have ok_AR := k_A.2
 have w_L := ok_wt ok_L
 have n_L := ok_ne ok_L
 have w_R := ok_wt ok_R
 have n_R := ok_ne ok_R
 have w_RL := ok_wt ok_RL
 have n_RL := ok_ne ok_RL
 have w_RR := ok_wt ok_RR
 have n_RR := ok_ne ok_RR
 have w_A := ok_wt ok_A
 have n_A := ok_ne ok_A
 have w_B := ok_wt ok_B
 have n_B := ok_ne ok_B
 have w_AL := ok_wt ok_AL
 have n_AL := ok_ne ok_AL
 have w_AR := ok_wt ok_AR
 have n_AR := ok_ne ok_AR
 have w_X := ok_wt hX
 have n_X := ok_ne hX
 have s_X := size_split m n_X
 have s_R := size_split m n_R
 have s_RL := size_split m n_RL
 have s_A := size_split m n_A
 have hw : wrap64 (wt X - 1) = wt X - 1 := Go.IntWalk.wrap64_in _ (by omega)
 have hw1 : wrap64 (wt X + 1) = wt X + 1 := Go.IntWalk.wrap64_in _ (by omega)
 have hw_L : wrap64 (wt (lT m X) - 1) = wt (lT m X) - 1 := Go.IntWalk.wrap64_in _ (by omega)
 unfold do7
 try unfold lessT
 try simp only [hw, hw1, hw_L]
 refine ⟨?_, ?_, ?_, ?_, ?_, ?_⟩
 ·simp only [size_put, size_as]; omega
 ·simp only [wt_put]; omega
 ·intro hy; simp only [wt_put] at hy; repeat (first | assumption | (refine ok_put (by omega) ?_ ?_) | (refine ok_as (by omega) ?_))
 ·rw [set_put]; repeat (first | assumption | (refine ok_put (by omega) ?_ ?_) | (refine ok_as (by omega) ?_))
 ·intro a
  have e_X : ∀ a, sums (X) a = _ := sums_split m hX n_L
  have e_R : ∀ a, sums (rT m X) a = _ := sums_split m ok_R n_RL
  have e_RL : ∀ a, sums (lT m (rT m X)) a = _ := sums_split m ok_RL n_A
  have e_A : ∀ a, sums (lT m (lT m (rT m X))) a = _ := sums_split m ok_A n_AL
  cases m
  ·simp only [if_true, if_false, Bool.false_eq_true] at e_X e_R e_RL e_A
   simp only [e_X, e_R, e_RL, e_A]
   repeat rw [sums_put _ _ _ (by first | exact put_ne _ _ _ _ _ | exact as_ne _ (by assumption) | assumption) (by first | exact put_ne _ _ _ _ _ | exact as_ne _ (by assumption) | assumption)]
   try simp only [if_true, if_false, Bool.false_eq_true]
   repeat rw [sums_as _ (by assumption)]
   try simp only [List.append_assoc]
   repeat (first | rfl | (refine congr (congrArg HAppend.hAppend (congrArg _ (by omega))) ?_) | (refine congrArg _ (by omega)))
  ·simp only [if_true, if_false, Bool.false_eq_true] at e_X e_R e_RL e_A
   simp only [e_X, e_R, e_RL, e_A]
   repeat rw [sums_put _ _ _ (by first | exact put_ne _ _ _ _ _ | exact as_ne _ (by assumption) | assumption) (by first | exact put_ne _ _ _ _ _ | exact as_ne _ (by assumption) | assumption)]
   try simp only [if_true, if_false, Bool.false_eq_true]
   repeat rw [sums_as _ (by assumption)]
   try simp only [List.append_assoc]
   repeat (first | rfl | (refine congr (congrArg HAppend.hAppend (congrArg _ (by omega))) ?_) | (refine congrArg _ (by omega)))
 ·intro ha; repeat (first | assumption | (refine all_put rfl ?_ ?_) | (refine all_as ?_) | (refine all_l ?_) | (refine all_r ?_))
set_option maxHeartbeats 2000000 in
theorem do8_does (m : Bool) {X : Tr} (hX : Ok X) (hc : can8 m X = true) : Does X (do8 m X) := by
 simp only [can8, Bool.and_eq_true, Bool.or_eq_true, decide_eq_true_eq, beq_iff_eq] at hc
 have ne_L : lT m X ≠ .nil := wt_pos_ne (by omega)
 have k_X := ok_split m hX (.inl ne_L)
 have ok_L := k_X.1
 have ok_R := k_X.2
 have ne_RL : lT m (rT m X) ≠ .nil := wt_pos_ne (by omega)
 have k_R := ok_split m ok_R (.inl ne_RL)
 have ok_RL := k_R.1
 have ok_RR := k_R.2
 have ne_B : rT m (lT m (rT m X)) ≠ .nil := wt_pos_ne (by omega)
 have k_RL := ok_split m ok_RL (.inr ne_B)
 have ok_A := k_RL.1
 have ok_B := k_RL.2
 have w_L := ok_wt ok_L
 have n_L := ok_ne ok_L
 have w_R := ok_wt ok_R
 have n_R := ok_ne ok_R
 have w_RL := ok_wt ok_RL
 have n_RL := ok_ne ok_RL
 have w_RR := ok_wt ok_RR
 have n_RR := ok_ne ok_RR
 have w_A := ok_wt ok_A
 have n_A := ok_ne ok_A
 have w_B := ok_wt ok_B
 have n_B := ok_ne ok_B
 have w_X := ok_wt hX
 have n_X := ok_ne hX
 have s_X := size_split m n_X
 have s_R := size_split m n_R
 have s_RL := size_split m n_RL
 have hw : wrap64 (wt X - 1) = wt X - 1 := Go.IntWalk.wrap64_in _ (by omega)
 have hw1 : wrap64 (wt X + 1) = wt X + 1 := Go.IntWalk.wrap64_in _ (by omega)
 have hw_L : wrap64 (wt (lT m X) - 1) = wt (lT m X) - 1 := Go.IntWalk.wrap64_in _ (by omega)
 have hw_B : wrap64 (wt (rT m (lT m (rT m X))) - 1) = wt (rT m (lT m (rT m X))) - 1 := Go.IntWalk.wrap64_in _ (by omega)
 unfold do8
 try unfold lessT
 try simp only [hw, hw1, hw_L, hw_B]
 refine ⟨?_, ?_, ?_, ?_, ?_, ?_⟩
 ·simp only [size_put, size_as]; omega
 ·simp only [wt_put]; omega
 ·intro hy; simp only [wt_put] at hy; repeat (first | assumption | (refine ok_put (by omega) ?_ ?_) | (refine ok_as (by omega) ?_))
 ·rw [set_put]; repeat (first | assumption | (refine ok_put (by omega) ?_ ?_) | (refine ok_as (by omega) ?_))
 ·intro a
  have e_X : ∀ a, sums (X) a = _ := sums_split m hX n_L
  have e_R : ∀ a, sums (rT m X) a = _ := sums_split m ok_R n_RL
  have e_RL : ∀ a, sums (lT m (rT m X)) a = _ := sums_split m ok_RL n_A
  cases m
  ·simp only [if_true, if_false, Bool.false_eq_true] at e_X e_R e_RL
   simp only [e_X, e_R, e_RL]
   repeat rw [sums_put _ _ _ (by first | exact put_ne _ _ _ _ _ | exact as_ne _ (by assumption) | assumption) (by first | exact put_ne _ _ _ _ _ | exact as_ne _ (by assumption) | assumption)]
   try simp only [if_true, if_false, Bool.false_eq_true]
   repeat rw [sums_as _ (by assumption)]
   try simp only [List.append_assoc]
   repeat (first | rfl | (refine congr (congrArg HAppend.hAppend (congrArg _ (by omega))) ?_) | (refine congrArg _ (by omega)))
  ·simp only [if_true, if_false, Bool.false_eq_true] at e_X e_R e_RL
   simp only [e_X, e_R, e_RL]
   repeat rw [sums_put _ _ _ (by first | exact put_ne _ _ _ _ _ | exact as_ne _ (by assumption) | assumption) (by first | exact put_ne _ _ _ _ _ | exact as_ne _ (by assumption) | assumption)]
   try simp only [if_true, if_false, Bool.false_eq_true]
   repeat rw [sums_as _ (by assumption)]
   try simp only [List.append_assoc]
   repeat (first | rfl | (refine congr (congrArg HAppend.hAppend (congrArg _ (by omega))) ?_) | (refine congrArg _ (by omega)))
 ·intro ha; repeat (first | assumption | (refine all_put rfl ?_ ?_) | (refine all_as ?_) | (refine all_l ?_) | (refine all_r ?_))
set_option maxHeartbeats 2000000 in
theorem do9_does (m : Bool) {X : Tr} (hX : Ok X) (hc : can9 m X = true) : Does X (do9 m X) := by
 simp only [can9, Bool.and_eq_true, Bool.or_eq_true, decide_eq_true_eq, beq_iff_eq] at hc
 have ne_L : lT m X ≠ .nil := wt_pos_ne (by omega)
 have k_X := ok_split m hX (.inl ne_L)
 have ok_L := k_X.1
 have ok_R := k_X.2
 have ne_RR : rT m (rT m X) ≠ .nil := wt_pos_ne (by omega)
 have k_R := ok_split m ok_R (.inr ne_RR)
 have ok_RL := k_R.1
 have ok_RR := k_R.2
 have w_L := ok_wt ok_L
 have n_L := ok_ne ok_L
 have w_R := ok_wt ok_R
 have n_R := ok_ne ok_R
 have w_RL := ok_wt ok_RL
 have n_RL := ok_ne ok_RL
 have w_RR := ok_wt ok_RR
 have n_RR := ok_ne ok_RR
 have w_X := ok_wt hX
 have n_X := ok_ne hX
 have s_X := size_split m n_X
 have s_R := size_split m n_R
 have hw : wrap64 (wt X - 1) = wt X - 1 := Go.IntWalk.wrap64_in _ (by omega)
 have hw1 : wrap64 (wt X + 1) = wt X + 1 := Go.IntWalk.wrap64_in _ (by omega)
 have hw_L : wrap64 (wt (lT m X) - 1) = wt (lT m X) - 1 := Go.IntWalk.wrap64_in _ (by omega)
 have hw_RR : wrap64 (wt (rT m (rT m X)) - 1) = wt (rT m (rT m X)) - 1 := Go.IntWalk.wrap64_in _ (by omega)
 unfold do9
 try unfold lessT
 try simp only [hw, hw1, hw_L, hw_RR]
 refine ⟨?_, ?_, ?_, ?_, ?_, ?_⟩
 ·simp only [size_put, size_as]; omega
 ·simp only [wt_put]; omega
 ·intro hy; simp only [wt_put] at hy; repeat (first | assumption | (refine ok_put (by omega) ?_ ?_) | (refine ok_as (by omega) ?_))
 ·rw [set_put]; repeat (first | assumption | (refine ok_put (by omega) ?_ ?_) | (refine ok_as (by omega) ?_))
 ·intro a
  have e_X : ∀ a, sums (X) a = _ := sums_split m hX n_L
  have e_R : ∀ a, sums (rT m X) a = _ := sums_split m ok_R n_RL
  cases m
  ·simp only [if_true, if_false, Bool.false_eq_true] at e_X e_R
   simp only [e_X, e_R]
   repeat rw [sums_put _ _ _ (by first | exact put_ne _ _ _ _ _ | exact as_ne _ (by assumption) | assumption) (by first | exact put_ne _ _ _ _ _ | exact as_ne _ (by assumption) | assumption)]
   try simp only [if_true, if_false, Bool.false_eq_true]
   repeat rw [sums_as _ (by assumption)]
   try simp only [List.append_assoc]
   repeat (first | rfl | (refine congr (congrArg HAppend.hAppend (congrArg _ (by omega))) ?_) | (refine congrArg _ (by omega)))
  ·simp only [if_true, if_false, Bool.false_eq_true] at e_X e_R
   simp only [e_X, e_R]
   repeat rw [sums_put _ _ _ (by first | exact put_ne _ _ _ _ _ | exact as_ne _ (by assumption) | assumption) (by first | exact put_ne _ _ _ _ _ | exact as_ne _ (by assumption) | assumption)]
   try simp only [if_true, if_false, Bool.false_eq_true]
   repeat rw [sums_as _ (by assumption)]
   try simp only [List.append_assoc]
   repeat (first | rfl | (refine congr (congrArg HAppend.hAppend (congrArg _ (by omega))) ?_) | (refine congrArg _ (by omega)))
 ·intro ha; repeat (first | assumption | (refine all_put rfl ?_ ?_) | (refine all_as ?_) | (refine all_l ?_) | (refine all_r ?_))
set_option maxHeartbeats 2000000 in
theorem do10_does (m : Bool) {X : Tr} (hX : Ok X) (hc : can10 m X = true) : Does X (do10 m X) := by
 simp only [can10, Bool.and_eq_true, Bool.or_eq_true, decide_eq_true_eq, beq_iff_eq] at hc
 have ne_L : lT m X ≠ .nil := wt_pos_ne (by omega)
 have k_X := ok_split m hX (.inl ne_L)
 have ok_L := k_X.1
 have ok_R := k_X.2
 have ne_RL : lT m (rT m X) ≠ .nil := wt_pos_ne (by omega)
 have k_R := ok_split m ok_R (.inl ne_RL)
 have ok_RL := k_R.1
 have ok_RR := k_R.2
 have ne_A : lT m (lT m (rT m X)) ≠ .nil := inner_lT m ok_RL (by simp only [hc])
 have k_RL := ok_split m ok_RL (.inl ne_A)
 have ok_A := k_RL.1
 have ok_B := k_RL.2
 have w_L := ok_wt ok_L
 have n_L := ok_ne ok_L
 have w_R := ok_wt ok_R
 have n_R := ok_ne ok_R
 have w_RL := ok_wt ok_RL
 have n_RL := ok_ne ok_RL
 have w_RR := ok_wt ok_RR
 have n_RR := ok_ne ok_RR
 have w_A := ok_wt ok_A
 have n_A := ok_ne ok_A
 have w_B := ok_wt ok_B
 have n_B := ok_ne ok_B
 have w_X := ok_wt hX
 have n_X := ok_ne hX
 have s_X := size_split m n_X
 have s_R := size_split m n_R
 have s_RL := size_split m n_RL
 have hw : wrap64 (wt X - 1) = wt X - 1 := Go.IntWalk.wrap64_in _ (by omega)
 have hw1 : wrap64 (wt X + 1) = wt X + 1 := Go.IntWalk.wrap64_in _ (by omega)
 have hw_L : wrap64 (wt (lT m X) - 1) = wt (lT m X) - 1 := Go.IntWalk.wrap64_in _ (by omega)
 unfold do10
 try unfold lessT
 try simp only [hw, hw1, hw_L]
 refine ⟨?_, ?_, ?_, ?_, ?_, ?_⟩
 ·simp only [size_put, size_as]; omega
 ·simp only [wt_put]; omega
 ·intro hy; simp only [wt_put] at hy; repeat (first | assumption | (refine ok_put (by omega) ?_ ?_) | (refine ok_as (by omega) ?_))
 ·rw [set_put]; repeat (first | assumption | (refine ok_put (by omega) ?_ ?_) | (refine ok_as (by omega) ?_))
 ·intro a
  have e_X : ∀ a, sums (X) a = _ := sums_split m hX n_L
  have e_R : ∀ a, sums (rT m X) a = _ := sums_split m ok_R n_RL
  have e_RL : ∀ a, sums (lT m (rT m X)) a = _ := sums_split m ok_RL n_A
  cases m
  ·simp only [if_true, if_false, Bool.false_eq_true] at e_X e_R e_RL
   simp only [e_X, e_R, e_RL]
   repeat rw [sums_put _ _ _ (by first | exact put_ne _ _ _ _ _ | exact as_ne _ (by assumption) | assumption) (by first | exact put_ne _ _ _ _ _ | exact as_ne _ (by assumption) | assumption)]
   try simp only [if_true, if_false, Bool.false_eq_true]
   repeat rw [sums_as _ (by assumption)]
   try simp only [List.append_assoc]
   repeat (first | rfl | (refine congr (congrArg HAppend.hAppend (congrArg _ (by omega))) ?_) | (refine congrArg _ (by omega)))
  ·simp only [if_true, if_false, Bool.false_eq_true] at e_X e_R e_RL
   simp only [e_X, e_R, e_RL]
   repeat rw [sums_put _ _ _ (by first | exact put_ne _ _ _ _ _ | exact as_ne _ (by assumption) | assumption) (by first | exact put_ne _ _ _ _ _ | exact as_ne _ (by assumption) | assumption)]
   try simp only [if_true, if_false, Bool.false_eq_true]
   repeat rw [sums_as _ (by assumption)]
   try simp only [List.append_assoc]
   repeat (first | rfl | (refine congr (congrArg HAppend.hAppend (congrArg _ (by omega))) ?_) | (refine congrArg _ (by omega)))
 ·intro ha; repeat (first | assumption | (refine all_put rfl ?_ ?_) | (refine all_as ?_) | (refine all_l ?_) | (refine all_r ?_))
set_option maxHeartbeats 2000000 in
theorem do11_does (m : Bool) {X : Tr} (hX : Ok X) (hc : can11 m X = true) : Does X (do11 m X) := by
 simp only [can11, Bool.and_eq_true, Bool.or_eq_true, decide_eq_true_eq, beq_iff_eq] at hc
 have ne_L : lT m X ≠ .nil := wt_pos_ne (by omega)
 have k_X := ok_split m hX (.inl ne_L)
 have ok_L := k_X.1
 have ok_R := k_X.2
 have w_L := ok_wt ok_L
 have n_L := ok_ne ok_L
 have w_R := ok_wt ok_R
 have n_R := ok_ne ok_R
 have w_X := ok_wt hX
 have n_X := ok_ne hX
 have s_X := size_split m n_X
 have hw : wrap64 (wt X - 1) = wt X - 1 := Go.IntWalk.wrap64_in _ (by omega)
 have hw1 : wrap64 (wt X + 1) = wt X + 1 := Go.IntWalk.wrap64_in _ (by omega)
 have hw_L : wrap64 (wt (lT m X) - 1) = wt (lT m X) - 1 := Go.IntWalk.wrap64_in _ (by omega)
 have hw_R : wrap64 (wt (rT m X) - 1) = wt (rT m X) - 1 := Go.IntWalk.wrap64_in _ (by omega)
 unfold do11
 try unfold lessT
 try simp only [hw, hw1, hw_L, hw_R]
 refine ⟨?_, ?_, ?_, ?_, ?_, ?_⟩
 ·simp only [size_put, size_as]; omega
 ·simp only [wt_put]; omega
 ·intro hy; simp only [wt_put] at hy; repeat (first | assumption | (refine ok_put (by omega) ?_ ?_) | (refine ok_as (by omega) ?_))
 ·rw [set_put]; repeat (first | assumption | (refine ok_put (by omega) ?_ ?_) | (refine ok_as (by omega) ?_))
 ·intro a
  have e_X : ∀ a, sums (X) a = _ := sums_split m hX n_L
  cases m
  ·simp only [if_true, if_false, Bool.false_eq_true] at e_X
   simp only [e_X]
   repeat rw [sums_put _ _ _ (by first | exact put_ne _ _ _ _ _ | exact as_ne _ (by assumption) | assumption) (by first | exact put_ne _ _ _ _ _ | exact as_ne _ (by assumption) | assumption)]
   try simp only [if_true, if_false, Bool.false_eq_true]
   repeat rw [sums_as _ (by assumption)]
   try simp only [List.append_assoc]
   repeat (first | rfl | (refine congr (congrArg HAppend.hAppend (congrArg _ (by omega))) ?_) | (refine congrArg _ (by omega)))
  ·simp only [if_true, if_false, Bool.false_eq_true] at e_X
   simp only [e_X]
   repeat rw [sums_put _ _ _ (by first | exact put_ne _ _ _ _ _ | exact as_ne _ (by assumption) | assumption) (by first | exact put_ne _ _ _ _ _ | exact as_ne _ (by assumption) | assumption)]
   try simp only [if_true, if_false, Bool.false_eq_true]
   repeat rw [sums_as _ (by assumption)]
   try simp only [List.append_assoc]
   repeat (first | rfl | (refine congr (congrArg HAppend.hAppend (congrArg _ (by omega))) ?_) | (refine congrArg _ (by omega)))
 ·intro ha; repeat (first | assumption | (refine all_put rfl ?_ ?_) | (refine all_as ?_) | (refine all_l ?_) | (refine all_r ?_))
end Go.Proofs.Ytgleaefhflamnaa.T
namespace Go.Proofs.Ytgleaefhflamnaa.T
open Go.RowKit Go.Proofs.YtgleaefhflamnaaW.PrintWords Go.Proofs.YtgleaefhflamnaaW.PrintLast Go.Proofs.YtgleaefhflamnaaW.PrintMore
theorem doT_does (m rt : Bool) {X : Tr} {kind : Int} (hk : 1 ≤ kind ∧ kind ≤ 12) (h12 : kind ≠ 12) (hX : Ok X) (hc : canT m rt X kind = true) : Does X (doT m X kind) := by
 have hd : kind = 1 ∨ kind = 2 ∨ kind = 3 ∨ kind = 4 ∨ kind = 5 ∨ kind = 6 ∨ kind = 7 ∨ kind = 8 ∨ kind = 9 ∨ kind = 10 ∨ kind = 11 := by omega
 rcases hd with rfl | rfl | rfl | rfl | rfl | rfl | rfl | rfl | rfl | rfl | rfl
 ·exact do1_does m hX hc
 ·exact do2_does m hX hc
 ·exact do3_does m hX hc
 ·exact do4_does m hX hc
 ·exact do5_does m hX hc
 ·exact do6_does m hX hc
 ·exact do7_does m hX hc
 ·exact do8_does m hX hc
 ·exact do9_does m hX hc
 ·exact do10_does m hX hc
 ·exact do11_does m hX hc
theorem can12 {m rt : Bool} {X : Tr} (hc : canT m rt X 12 = true) : rt = true ∧ wt X ≠ 1 := by
 have : (rt && wt X != 1) = true := hc
 simpa using this
theorem sums_set (x : Int) {Y : Tr} (h : Y ≠ .nil) (a : Int) : sums (setW Y x) a = sums Y (a + (x - wt Y)) := by
 cases Y with
 | nil => exact absurd rfl h
 | node n p l r =>
  cases l with
  | nil => simp only [setW, sums, wt]; congr 1; omega
  | node _ _ _ _ => simp only [setW, sums, wt]; rw [show a + (x - n.f2) + n.f2 = a + x by omega]
theorem size_set (x : Int) (Y : Tr) : sizeT (setW Y x) = sizeT Y := by cases Y <;> rfl
theorem all_set {x : Int} {T : Tr} (h : allT (fun n => n.f1 = 0) T) : allT (fun n => n.f1 = 0) (setW T x) := by
 cases T with
 | nil => exact h
 | node n p l r => exact h
theorem setW_as (x y : Int) (T : Tr) : setW (asT x T) y = asT y T := by cases T <;> rfl
/-- What stands in the place of X behind a move. -/
structure Gives (rt : Bool) (X R : Tr) : Prop where
 size : sizeT R = sizeT X
 ok : Ok R
 all : allT (fun n => n.f1 = 0) X → allT (fun n => n.f1 = 0) R
 plain : rt = false → ∀ a, sums R a = sums X a
 root : rt = true → wt R = 1 ∧ ∃ d, ∀ a, sums R a = sums X (a + d)
theorem ok_set_top {Y : Tr} (h : Ok (setW Y 1)) : Y ≠ .nil := by
 cases Y with
 | nil => exact h.elim
 | node _ _ _ _ => simp
theorem gives_root (m : Bool) {X : Tr} {kind : Int} (hk : 1 ≤ kind ∧ kind ≤ 12) (hX : Ok X) (hc : canT m true X kind = true) : Gives true X (setW (doT m X kind) 1) := by
 by_cases h12 : kind = 12
 ·subst h12
  have e : doT m X 12 = asT 1 X := rfl
  rw [e, setW_as]
  refine ⟨size_as 1, ok_as (by omega) hX, fun h => all_as h, fun h => absurd h (by simp), fun _ => ⟨wt_as 1 (ok_ne hX), 1 - wt X, fun a => ?_⟩⟩
  rw [sums_as 1 (ok_ne hX)]
  congr 1
  omega
 ·have h := doT_does m true hk h12 hX hc
  have hn := ok_set_top h.ok1
  refine ⟨by rw [size_set, h.size], h.ok1, fun ha => all_set (h.all ha), fun h => absurd h (by simp), fun _ => ⟨?_, 1 - wt (doT m X kind), fun a => ?_⟩⟩
  ·cases hd : doT m X kind with
   | nil => exact absurd hd hn
   | node _ _ _ _ => rfl
  ·rw [sums_set 1 hn, h.sums]
theorem gives_plain (m : Bool) {X : Tr} {kind : Int} (hk : 1 ≤ kind ∧ kind ≤ 12) (hX : Ok X) (hc : canT m false X kind = true) (hb : ¬ 1000000 < wt (doT m X kind)) : Gives false X (doT m X kind) := by
 have h12 : kind ≠ 12 := by rintro rfl; exact absurd (can12 hc).1 (by simp)
 have h := doT_does m false hk h12 hX hc
 exact ⟨h.size, h.ok (by omega), h.all, fun _ => h.sums, fun h => absurd h (by simp)⟩
/-- Another tree in the place of one. -/
def replT (c : Nat) (R : Tr) : Tr → Tr
 | .nil => .nil
 | .node n p l r => .node n p (if plc l = c then R else replT c R l) (if plc r = c then R else replT c R r)
theorem plc_nil (c : Nat) : ¬ plc .nil = (c : Int) := by simp only [plc]; omega
theorem mkR_eq (t : List S34) (c : Nat) (R : Tr) : ∀ (k i : Nat) (T : Tr), mkT t k i = some T → mkR t c R k i = some (replT c R T) := by
 intro k
 induction k with
 | zero => intro i T h; simp [mkT] at h
 | succ k ih =>
  intro i T h
  rw [mkT] at h
  rw [mkR]
  split at h
  case isFalse => exact absurd h (by simp)
  rename_i hi
  rw [if_pos hi]
  split at h
  ·rename_i h4
   obtain ⟨l, hl, h⟩ := Option.bind_eq_some_iff.1 h
   obtain ⟨r, hr, h⟩ := Option.bind_eq_some_iff.1 h
   obtain rfl := Option.some.inj h
   have e : ∀ (j : Nat) (S : Tr), mkT t k j = some S → (if j = c then some R else mkR t c R k j) = some (if plc S = c then R else replT c R S) := by
    intro j S hS
    rw [mkT_plc hS]
    by_cases ej : j = c
    ·rw [if_pos ej, if_pos (by omega)]
    ·rw [if_neg ej, if_neg (by omega), ih j S hS]
   rw [if_pos h4, e _ _ hl, Option.bind_some, e _ _ hr, Option.bind_some, replT]
  ·rename_i h4
   obtain rfl := Option.some.inj h
   rw [if_neg h4, replT, if_neg (plc_nil c), replT]
theorem ok_mkT {t : List S34} (hf : ∀ i, i < t.length → fmN (t.getD i z34) t.length = true) : ∀ {k i : Nat} {T : Tr}, mkT t k i = some T → Ok T := by
 intro k
 induction k with
 | zero => intro i T h; simp [mkT] at h
 | succ k ih =>
  intro i T h
  by_cases hl : (t.getD i z34).f4 = -1 ∧ (t.getD i z34).f5 = -1
  ·obtain ⟨hi, rfl⟩ := mkT_leaf hf h hl
   have := (fmN_iff _ _).1 (hf i hi)
   exact ⟨this.1, this.2.1, .inl ⟨rfl, rfl, hl⟩⟩
  ·obtain ⟨k', l, r, hk, hi, h1, h2, rfl⟩ := mkT_inner hf h hl
   obtain rfl : k = k' := by omega
   have := (fmN_iff _ _).1 (hf i hi)
   exact ⟨this.1, this.2.1, .inr ⟨by omega, ih h1, ih h2⟩⟩
theorem sub_ex {t : List S34} : ∀ {k i : Nat} {T : Tr}, mkT t k i = some T → ∀ p ∈ plT T, ∃ X, mkT t k p.toNat = some X ∧ (∀ P, allT P T → allT P X) := by
 intro k
 induction k with
 | zero => intro i T h; simp [mkT] at h
 | succ k ih =>
  intro i T h p hp
  have h0 := h
  rw [mkT] at h
  split at h
  case isFalse => exact absurd h (by simp)
  rename_i hi
  split at h
  ·obtain ⟨l, hl, h⟩ := Option.bind_eq_some_iff.1 h
   obtain ⟨r, hr, h⟩ := Option.bind_eq_some_iff.1 h
   obtain rfl := Option.some.inj h
   simp only [plT, List.mem_cons, List.mem_append] at hp
   rcases hp with rfl | hp | hp
   ·exact ⟨_, by rw [Int.toNat_natCast]; exact h0, fun _ h => h⟩
   ·obtain ⟨X, h1, h2⟩ := ih hl p hp
    exact ⟨X, mkT_mono _ _ _ _ h1, fun P h => h2 P h.2.1⟩
   ·obtain ⟨X, h1, h2⟩ := ih hr p hp
    exact ⟨X, mkT_mono _ _ _ _ h1, fun P h => h2 P h.2.2⟩
  ·obtain rfl := Option.some.inj h
   simp only [plT, List.append_nil, List.mem_cons, List.not_mem_nil, or_false] at hp
   subst hp
   exact ⟨_, by rw [Int.toNat_natCast]; exact h0, fun _ h => h⟩
theorem repl_ok {c : Nat} {R : Tr} (hR : Ok R) : ∀ {T : Tr}, Ok T → Ok (replT c R T)
 | .nil, h => h
 | .node n p l r, h => by
  rw [replT]
  refine ⟨h.1, h.2.1, ?_⟩
  rcases h.2.2 with ⟨rfl, rfl, h4, h5⟩ | ⟨h3, hl, hr⟩
  ·refine .inl ⟨?_, ?_, h4, h5⟩ <;> rw [if_neg (plc_nil c)] <;> rfl
  ·refine .inr ⟨h3, ?_, ?_⟩
   ·split
    ·exact hR
    ·exact repl_ok hR hl
   ·split
    ·exact hR
    ·exact repl_ok hR hr
/-- What is alike of a tree and of what stands in its place is alike of the whole. -/
theorem repl_sums {t : List S34} {c K : Nat} {X R : Tr} (hX : mkT t K c = some X) (hRn : R ≠ .nil) (hs : ∀ a, sums R a = sums X a) : ∀ (k i : Nat) (T : Tr), mkT t k i = some T → ∀ a, sums (replT c R T) a = sums T a := by
 intro k
 induction k with
 | zero => intro i T h; simp [mkT] at h
 | succ k ih =>
  intro i T h
  rw [mkT] at h
  split at h
  case isFalse => exact absurd h (by simp)
  rename_i hi
  split at h
  ·obtain ⟨l, hl, h⟩ := Option.bind_eq_some_iff.1 h
   obtain ⟨r, hr, h⟩ := Option.bind_eq_some_iff.1 h
   obtain rfl := Option.some.inj h
   have e : ∀ (j : Nat) (S : Tr), mkT t k j = some S → ∀ a, sums (if plc S = c then R else replT c R S) a = sums S a := by
    intro j S hS a
    split
    ·rename_i hp
     rw [mkT_plc hS] at hp
     obtain rfl : j = c := by omega
     rw [hs, mkT_fun t hS hX]
    ·exact ih j S hS a
   have hne : ∀ (j : Nat) (S : Tr), mkT t k j = some S → (if plc S = c then R else replT c R S) ≠ .nil := by
    intro j S hS
    split
    ·exact hRn
    ·cases S with
     | nil => exact absurd hS (fun h => mkT_nil h)
     | node _ _ _ _ => simp [replT]
   intro a
   rw [replT]
   have hl2 := e _ _ hl
   have hr2 := e _ _ hr
   have hn2 := hne _ _ hl
   generalize (if plc l = (c : Int) then R else replT c R l) = l' at *
   generalize (if plc r = (c : Int) then R else replT c R r) = r' at *
   cases l' with
   | nil => exact absurd rfl hn2
   | node n1 p1 x1 y1 =>
    cases l with
    | nil => exact absurd hl (fun h => mkT_nil h)
    | node n2 p2 x2 y2 => simp only [sums]; rw [hl2, hr2]
  ·obtain rfl := Option.some.inj h
   intro a
   rw [replT, if_neg (plc_nil c)]
   rfl
theorem repl_size {t : List S34} {c K : Nat} {X R : Tr} (hX : mkT t K c = some X) (hs : sizeT R = sizeT X) : ∀ (k i : Nat) (T : Tr), mkT t k i = some T → sizeT (replT c R T) = sizeT T := by
 intro k
 induction k with
 | zero => intro i T h; simp [mkT] at h
 | succ k ih =>
  intro i T h
  rw [mkT] at h
  split at h
  case isFalse => exact absurd h (by simp)
  rename_i hi
  split at h
  ·obtain ⟨l, hl, h⟩ := Option.bind_eq_some_iff.1 h
   obtain ⟨r, hr, h⟩ := Option.bind_eq_some_iff.1 h
   obtain rfl := Option.some.inj h
   have e : ∀ (j : Nat) (S : Tr), mkT t k j = some S → sizeT (if plc S = c then R else replT c R S) = sizeT S := by
    intro j S hS
    split
    ·rename_i hp
     rw [mkT_plc hS] at hp
     obtain rfl : j = c := by omega
     rw [hs, mkT_fun t hS hX]
    ·exact ih j S hS
   rw [replT, sizeT, e _ _ hl, e _ _ hr, sizeT]
  ·obtain rfl := Option.some.inj h
   rw [replT, if_neg (plc_nil c)]
   rfl
theorem repl_all {P : S34 → Prop} {c : Nat} {R : Tr} (hR : allT P R) : ∀ {T : Tr}, allT P T → allT P (replT c R T)
 | .nil, h => h
 | .node n p l r, h => by
  rw [replT]
  refine ⟨h.1, ?_, ?_⟩
  ·split
   ·exact hR
   ·exact repl_all hR h.2.1
  ·split
   ·exact hR
   ·exact repl_all hR h.2.2
/-- In the place of the tree of the keys. -/
def newX (c : Nat) (R X0 : Tr) : Tr := if plc X0 = c then R else replT c R X0
end Go.Proofs.Ytgleaefhflamnaa.T
namespace Go.Proofs.Ytgleaefhflamnaa.T
open Go.RowKit Go.Proofs.YtgleaefhflamnaaW.PrintWords Go.Proofs.YtgleaefhflamnaaW.PrintLast Go.Proofs.YtgleaefhflamnaaW.PrintMore
/-- The tree of the flat table. -/
def renT : Tr → Nat → Tr
 | .nil, _ => .nil
 | .node n _ .nil _, a => .node n a .nil .nil
 | .node n _ (.node n' p' l' r') r, a => .node ⟨n.f0, n.f1, n.f2, n.f3, a + 1, a + 1 + sizeT (.node n' p' l' r')⟩ a (renT (.node n' p' l' r') (a + 1)) (renT r (a + 1 + sizeT (.node n' p' l' r')))
theorem flT_inner (n : S34) (p : Int) {l : Tr} (r : Tr) (a : Nat) (hl : l ≠ .nil) : flatT (.node n p l r) a = ⟨n.f0, n.f1, n.f2, n.f3, a + 1, a + 1 + sizeT l⟩ :: (flatT l (a + 1) ++ flatT r (a + 1 + sizeT l)) := by
 cases l with
 | nil => exact absurd rfl hl
 | node _ _ _ _ => rfl
theorem ren_inner (n : S34) (p : Int) {l : Tr} (r : Tr) (a : Nat) (hl : l ≠ .nil) : renT (.node n p l r) a = .node ⟨n.f0, n.f1, n.f2, n.f3, a + 1, a + 1 + sizeT l⟩ a (renT l (a + 1)) (renT r (a + 1 + sizeT l)) := by
 cases l with
 | nil => exact absurd rfl hl
 | node _ _ _ _ => rfl
theorem flT_leaf (n : S34) (p : Int) (r : Tr) (a : Nat) : flatT (.node n p .nil r) a = [n] := rfl
theorem ren_leaf (n : S34) (p : Int) (r : Tr) (a : Nat) : renT (.node n p .nil r) a = .node n a .nil .nil := rfl
theorem flT_len : ∀ {T : Tr}, Ok T → ∀ a, (flatT T a).length = sizeT T
 | .nil, h, _ => h.elim
 | .node n p l r, h, a => by
  rcases h.2.2 with ⟨rfl, rfl, _⟩ | ⟨_, hl, hr⟩
  ·rfl
  ·rw [flT_inner _ _ _ _ (ok_ne hl), List.length_cons, List.length_append, flT_len hl, flT_len hr, sizeT]; omega
theorem flat_mk : ∀ {T : Tr}, Ok T → ∀ (pre post : List S34) (a K : Nat), pre.length = a → sizeT T ≤ K → mkT (pre ++ flatT T a ++ post) K a = some (renT T a)
 | .nil, h, _, _, _, _, _, _ => h.elim
 | .node n p l r, h, pre, post, a, K, ha, hK => by
  rw [sizeT] at hK
  cases K with
  | zero => omega
  | succ K =>
   rcases h.2.2 with ⟨rfl, rfl, h4, h5⟩ | ⟨_, hl, hr⟩
   ·rw [flT_leaf, ren_leaf]
    have hg : (pre ++ [n] ++ post).getD a z34 = n := by simp [List.getD, ← ha]
    rw [mkT, if_pos (by simp; omega), hg, if_neg (by omega)]
   ·have hll := flT_len hl (a + 1)
    have i1 := flat_mk hl (pre ++ [⟨n.f0, n.f1, n.f2, n.f3, a + 1, a + 1 + sizeT l⟩]) (flatT r (a + 1 + sizeT l) ++ post) (a + 1) K (by simp [ha]) (by omega)
    have i2 := flat_mk hr (pre ++ ⟨n.f0, n.f1, n.f2, n.f3, a + 1, a + 1 + sizeT l⟩ :: flatT l (a + 1)) post (a + 1 + sizeT l) K (by simp [ha, hll]; omega) (by omega)
    rw [flT_inner _ _ _ _ (ok_ne hl), ren_inner _ _ _ _ (ok_ne hl)]
    have e1 : pre ++ (⟨n.f0, n.f1, n.f2, n.f3, a + 1, a + 1 + sizeT l⟩ :: (flatT l (a + 1) ++ flatT r (a + 1 + sizeT l))) ++ post = pre ++ [⟨n.f0, n.f1, n.f2, n.f3, a + 1, a + 1 + sizeT l⟩] ++ flatT l (a + 1) ++ (flatT r (a + 1 + sizeT l) ++ post) := by simp
    have e2 : pre ++ (⟨n.f0, n.f1, n.f2, n.f3, a + 1, a + 1 + sizeT l⟩ :: (flatT l (a + 1) ++ flatT r (a + 1 + sizeT l))) ++ post = pre ++ ⟨n.f0, n.f1, n.f2, n.f3, a + 1, a + 1 + sizeT l⟩ :: flatT l (a + 1) ++ flatT r (a + 1 + sizeT l) ++ post := by simp
    have hg : (pre ++ (⟨n.f0, n.f1, n.f2, n.f3, a + 1, a + 1 + sizeT l⟩ :: (flatT l (a + 1) ++ flatT r (a + 1 + sizeT l))) ++ post).getD a z34 = ⟨n.f0, n.f1, n.f2, n.f3, a + 1, a + 1 + sizeT l⟩ := by simp [List.getD, ← ha]
    rw [← e1] at i1
    rw [← e2] at i2
    rw [mkT, if_pos (by simp; omega), hg]
    simp only
    rw [if_pos (by omega), show ((a : Int) + 1).toNat = a + 1 by omega, i1, Option.bind_some, show ((a : Int) + 1 + sizeT l).toNat = a + 1 + sizeT l by omega, i2, Option.bind_some]
theorem size_pos {T : Tr} (h : Ok T) : 0 < sizeT T := by
 cases T with
 | nil => exact h.elim
 | node _ _ _ _ => rw [sizeT]; omega
theorem flat_fm : ∀ {T : Tr}, Ok T → ∀ (a N : Nat), a + sizeT T ≤ N → ∀ x ∈ flatT T a, fmN x N = true
 | .nil, h, _, _, _, _, _ => h.elim
 | .node n p l r, h, a, N, hN, x, hx => by
  rw [sizeT] at hN
  rcases h.2.2 with ⟨rfl, rfl, h4, h5⟩ | ⟨h3, hl, hr⟩
  ·rw [flT_leaf, List.mem_singleton] at hx
   subst hx
   exact (fmN_iff _ _).2 ⟨h.1, h.2.1, .inl ⟨h4, h5⟩⟩
  ·rw [flT_inner _ _ _ _ (ok_ne hl), List.mem_cons, List.mem_append] at hx
   rcases hx with rfl | hx | hx
   ·have h1 := size_pos hl
    have h2 := size_pos hr
    have hw := h.1
    have hi := h.2.1
    refine (fmN_iff _ _).2 ⟨hw, hi, .inr ?_⟩
    simp only
    omega
   ·exact flat_fm hl (a + 1) N (by omega) x hx
   ·exact flat_fm hr (a + 1 + sizeT l) N (by omega) x hx
theorem ren_pl : ∀ {T : Tr}, Ok T → ∀ a, plT (renT T a) = (List.range' a (sizeT T)).map (fun (i : Nat) => (i : Int))
 | .nil, h, _ => h.elim
 | .node n p l r, h, a => by
  rcases h.2.2 with ⟨rfl, rfl, h4, h5⟩ | ⟨h3, hl, hr⟩
  ·rfl
  ·rw [ren_inner _ _ _ _ (ok_ne hl), plT, ren_pl hl, ren_pl hr, sizeT, show 1 + sizeT l + sizeT r = (sizeT l + sizeT r) + 1 by omega, List.range'_succ, List.map_cons, ← List.map_append, List.range'_append_1]
theorem ren_sums : ∀ {T : Tr}, Ok T → ∀ a b, sums (renT T a) b = sums T b
 | .nil, h, _, _ => h.elim
 | .node n p l r, h, a, b => by
  rcases h.2.2 with ⟨rfl, rfl, h4, h5⟩ | ⟨h3, hl, hr⟩
  ·rfl
  ·rw [ren_inner _ _ _ _ (ok_ne hl)]
   have i1 := ren_sums hl (a + 1) (b + n.f2)
   have i2 := ren_sums hr (a + 1 + sizeT l) (b + n.f2)
   have hn : renT l (a + 1) ≠ .nil := by
    intro e
    have := ren_pl hl (a + 1)
    rw [e] at this
    have h1 := size_pos hl
    have := congrArg List.length this
    simp [plT] at this
    omega
   have hn2 := ok_ne hl
   generalize renT l (a + 1) = l' at *
   generalize renT r (a + 1 + sizeT l) = r' at *
   cases l' with
   | nil => exact absurd rfl hn
   | node _ _ _ _ =>
    cases l with
    | nil => exact absurd rfl hn2
    | node _ _ _ _ => simp only [sums]; rw [i1, i2]
theorem ren_wt {T : Tr} (a : Nat) : wt (renT T a) = wt T := by
 cases T with
 | nil => rfl
 | node n p l r => cases l <;> rfl
theorem ren_inf : ∀ {T : Tr} (a : Nat), allT (fun n => n.f1 = 0) T → allT (fun n => n.f1 = 0) (renT T a)
 | .nil, _, h => h
 | .node n p .nil r, a, h => ⟨h.1, trivial, trivial⟩
 | .node n p (.node n' p' l' r') r, a, h => ⟨h.1, ren_inf _ h.2.1, ren_inf _ h.2.2⟩
theorem flat_good {T : Tr} (h : Ok T) (hs : sizeT T ≤ 100000) : Good (flatT T 0) (renT T 0) := by
 have hl := flT_len h 0
 have hm := flat_mk h [] [] 0 (sizeT T) rfl (Nat.le_refl _)
 rw [List.nil_append, List.append_nil] at hm
 refine ⟨by omega, fun i hi => ?_, by rw [hl]; exact hm, ?_, ?_⟩
 ·have hmem : (flatT T 0).getD i z34 ∈ flatT T 0 := by rw [List.getD, List.getElem?_eq_getElem hi, Option.getD_some]; exact List.getElem_mem hi
  exact flat_fm h 0 _ (by omega) _ hmem
 ·rw [ren_pl h]
  refine List.Pairwise.map _ (fun (a b : Nat) hab => ?_) (List.nodup_range' (s := 0) (n := sizeT T) (step := 1) (by decide))
  exact fun e => hab (Int.ofNat.inj e)
 ·rw [ren_pl h, List.length_map, List.length_range', hl]
end Go.Proofs.Ytgleaefhflamnaa.T
namespace Go.Proofs.Ytgleaefhflamnaa.T
open Go.RowKit Go.Proofs.YtgleaefhflamnaaW.PrintWords Go.Proofs.YtgleaefhflamnaaW.PrintLast Go.Proofs.YtgleaefhflamnaaW.PrintMore
theorem keys_nil (k : Nat) (t : List S34) (r : Int) (met : List Bool) : steps_keys.l0 (k + 1) t r met [] = some (r, met, 0) := by
 rw [steps_keys.l0]
 exact if_neg (by simp)
theorem keys_step (k : Nat) (t : List S34) (r : Int) (met : List Bool) (i : Int) (s : List Int) (hs : s.length < 17592186044416) :
  steps_keys.l0 (k + 1) t r met (i :: s).reverse =
   if 0 ≤ i then (if i < met.length then (if i < t.length then
    (if (t.getD i.toNat z34).f4 ≥ 0 then (if s.length + 2 < 17592186044416 then steps_keys.l0 k t r (met.set i.toNat true) ((t.getD i.toNat z34).f5 :: (t.getD i.toNat z34).f4 :: s).reverse else none)
     else steps_keys.l0 k t r (met.set i.toNat true) s.reverse) else none) else none) else none := by
 have e : (i :: s).reverse = s.reverse ++ [i] := List.reverse_cons
 have e2 : ((t.getD i.toNat z34).f5 :: (t.getD i.toNat z34).f4 :: s).reverse = s.reverse ++ [(t.getD i.toNat z34).f4, (t.getD i.toNat z34).f5] := by simp
 rw [e, e2]
 generalize hr : s.reverse = s'
 have hl : s'.length = s.length := by rw [← hr, List.length_reverse]
 rw [← hl] at hs ⊢
 have h1 : wrap64 (((s' ++ [i]).length : Int) - 1) = s'.length := by rw [List.length_append, List.length_singleton, Go.IntWalk.wrap64_in _ (by omega)]; omega
 have h2 : rd (s' ++ [i]) (s'.length : Int) = i := by simp [rd]
 have h3 : (s' ++ [i]).take ((s'.length : Int)).toNat = s' := by simp
 rw [steps_keys.l0, h1, h2, h3]
 rw [if_pos (by rw [List.length_append, List.length_singleton]; omega), if_pos (by omega), if_pos (by rw [List.length_append, List.length_singleton]; omega), if_pos (by rw [List.length_append, List.length_singleton]; omega)]
 rw [show rd_T34 t i = t.getD i.toNat z34 from rfl]
 simp only [Option.bind_some, List.length_cons, List.length_nil, Nat.zero_add]
theorem keys_tree (t : List S34) (r : Int) (K : Nat) (hlen : t.length ≤ 100000) (hf : FormT t) : ∀ (k : Nat) (met : List Bool) (s ps : List Int), met.length = t.length → plF t K s = some ps → ps.length < k → ps.length ≤ 1000000 →
  ∃ met', steps_keys.l0 k t r met s.reverse = some (r, met', 0) ∧ met'.length = t.length ∧ ∀ c : Nat, c < t.length → (met'.getD c false = true ↔ met.getD c false = true ∨ (c : Int) ∈ ps) := by
 intro k
 induction k with
 | zero => intro met s ps _ _ h; exact absurd h (by omega)
 | succ k ih =>
  intro met s ps hm hp hk ho
  cases s with
  | nil =>
   rw [plF] at hp
   injection hp with hp
   subst hp
   exact ⟨met, by rw [List.reverse_nil, keys_nil], hm, fun c hc => by simp⟩
  | cons i s =>
   obtain ⟨T, q, h0, hT, hq, rfl⟩ := plF_cons hp
   have hsl := plF_len hp
   rw [List.length_cons, List.length_append] at hsl
   rw [List.length_append] at hk ho
   rw [keys_step _ _ _ _ _ _ (by omega), if_pos h0]
   cases K with
   | zero => simp [mkT] at hT
   | succ K =>
    rw [mkT] at hT
    split at hT
    case isFalse => exact absurd hT (by simp)
    rename_i hi
    rw [if_pos (by omega), if_pos (by omega)]
    have hset : ∀ c : Nat, c < t.length → ((met.set i.toNat true).getD c false = true ↔ met.getD c false = true ∨ (c : Int) = i) := by
     intro c hc
     by_cases e : i.toNat = c
     ·subst e
      rw [getD_set_eq _ _ _ (by omega)]
      simp; omega
     ·rw [getD_set_ne _ _ _ e]
      have : ¬ (c : Int) = i := by omega
      simp [this]
    split at hT
    ·rename_i h4
     obtain ⟨Tl, hl, hT⟩ := Option.bind_eq_some_iff.1 hT
     obtain ⟨Tr', hr, hT⟩ := Option.bind_eq_some_iff.1 hT
     obtain rfl := Option.some.inj hT
     simp only [plT, List.length_cons, List.length_append] at hk ho hsl
     have h5 : 0 ≤ (t.getD i.toNat z34).f5 := by have := hf i.toNat hi; omega
     rw [if_pos h4, if_pos (by omega)]
     obtain ⟨met', e1, e2, e3⟩ := ih (met.set i.toNat true) (_ :: _ :: s) _ (by rw [List.length_set, hm]) (plF_mk h5 (mkT_mono t _ _ _ hr) (plF_mk h4 (mkT_mono t _ _ _ hl) hq)) (by simp only [List.length_append]; omega) (by simp only [List.length_append]; omega)
     refine ⟨met', e1, e2, fun c hc => ?_⟩
     rw [e3 c hc, hset c hc]
     simp only [plT, List.cons_append, List.mem_cons, List.mem_append, Int.toNat_of_nonneg h0, or_assoc]
     exact or_congr_right (or_congr_right or_left_comm)
    ·rename_i h4
     obtain rfl := Option.some.inj hT
     simp only [plT, List.length_cons, List.length_nil, List.append_nil] at hk ho hsl
     rw [if_neg (by omega)]
     obtain ⟨met', e1, e2, e3⟩ := ih (met.set i.toNat true) s _ (by rw [List.length_set, hm]) hq (by omega) (by omega)
     refine ⟨met', e1, e2, fun c hc => ?_⟩
     rw [e3 c hc, hset c hc]
     simp only [plT, List.cons_append, List.nil_append, List.mem_cons, List.mem_append, Int.toNat_of_nonneg h0, or_assoc]
theorem root_total (t : List S34) : ∃ k r1 r2, table_Root.f k t = some (r1, r2) ∧ (r2 = 0 → ∃ T X0, Good t T ∧ Crown T X0 ∧ plc X0 = r1) := by
 obtain ⟨k, r, h, hg⟩ := check_total t
 by_cases h0 : r = 0
 ·obtain ⟨T, hT⟩ := hg h0
  obtain ⟨k', r1, r2, h1, h2, _⟩ := root_good hT
  exact ⟨k', r1, r2, h1, fun e => by obtain ⟨X0, h3, h4⟩ := h2 e; exact ⟨T, X0, hT, h3, h4⟩⟩
 ·refine ⟨k, 0, r, ?_, fun e => absurd e h0⟩
  unfold table_Root.f
  rw [h, Option.bind_some, if_neg h0]
theorem crown_tree {t : List S34} {T X0 : Tr} (hg : Good t T) (h : Crown T X0) : ∃ c0 : Nat, plc X0 = c0 ∧ c0 < t.length ∧ mkT t t.length c0 = some X0 ∧ (plT X0).Nodup ∧ (plT X0).length ≤ t.length := by
 have hn := hg.nodup
 have ha := hg.all
 obtain ⟨n0, n1, p1, q1, q0, rfl, _, _, _, _, _, hXn⟩ := h
 obtain ⟨_, _, _, h3⟩ := mkT_node hg.form hg.tree
 obtain ⟨_, k1, hk1, h5, _⟩ := h3 (by simp)
 obtain ⟨_, _, _, e3⟩ := mkT_node hg.form h5
 obtain ⟨_, k2, hk2, e5, _⟩ := e3 hXn
 simp only [plT, List.cons_append, List.nodup_cons, List.length_cons, List.length_append] at hn ha
 refine ⟨n1.f4.toNat, mkT_plc e5, ?_, mkT_le t (by omega) e5, ?_, by omega⟩
 ·have := (plT_mem _ _ _ e5).2 _ (plT_mem _ _ _ e5).1
  omega
 ·have h1 := hn.2.2
  rw [List.append_assoc] at h1
  exact nodup_app_l h1
theorem keys_total (t : List S34) : ∃ k r1 r2 r3, steps_keys.f k t = some (r1, r2, r3) ∧ (r3 = 0 → ∃ T X0, Good t T ∧ Crown T X0 ∧ plc X0 = r1 ∧ r2.length = t.length ∧ ∀ c : Nat, c < t.length → (r2.getD c false = true ↔ (c : Int) ∈ plT X0)) := by
 obtain ⟨k, r1, r2, h, hg⟩ := root_total t
 by_cases h0 : r2 = 0
 ·obtain ⟨T, X0, hT, hX, hr⟩ := hg h0
  obtain ⟨c0, hc, hcl, hm, hn, hl⟩ := crown_tree hT hX
  have hlen := hT.len
  have hp := plF_mk (i := r1) (by omega) (by rw [show r1.toNat = c0 by omega]; exact hm) (plF.eq_1 t t.length)
  rw [List.append_nil] at hp
  obtain ⟨met', e1, e2, e3⟩ := keys_tree t r1 t.length hlen (formT_of hT.form) (k + t.length + 1) (List.replicate t.length false) [r1] (plT X0) List.length_replicate hp (by omega) (by omega)
  refine ⟨k + t.length + 1, r1, met', 0, ?_, fun _ => ⟨T, X0, hT, hX, hr, e2, fun c hc => ?_⟩⟩
  ·unfold steps_keys.f
   rw [up_to (fun k => table_Root.mono t k) (show k ≤ k + t.length + 1 by omega) h, Option.bind_some]
   simp only
   rw [if_pos h0, if_pos (by omega), if_pos (by omega), Int.toNat_natCast]
   exact e1
  ·rw [e3 c hc, getD_replicate_false]
   simp
 ·refine ⟨k, 0, [], r2, ?_, fun e => absurd e h0⟩
  unfold steps_keys.f
  rw [h, Option.bind_some]
  simp only
  rw [if_neg h0]
end Go.Proofs.Ytgleaefhflamnaa.T
namespace Go.Proofs.Ytgleaefhflamnaa.T
open Go.RowKit Go.Proofs.YtgleaefhflamnaaW.PrintWords Go.Proofs.YtgleaefhflamnaaW.PrintLast Go.Proofs.YtgleaefhflamnaaW.PrintMore
theorem fullB_ok : ∀ {T : Tr}, Ok T → fullB T = true
 | .nil, h => h.elim
 | .node n p l r, h => by
  rcases h.2.2 with ⟨rfl, rfl, _⟩ | ⟨_, hl, hr⟩
  ·rfl
  ·cases l with
   | nil => exact hl.elim
   | node _ _ _ _ =>
    cases r with
    | nil => exact hr.elim
    | node _ _ _ _ => rw [fullB, fullB_ok hl, fullB_ok hr]; rfl
theorem okB_good {t : List S34} {T : Tr} (hg : Good t T) : okB t = true := by
 unfold okB
 rw [Bool.and_eq_true, decide_eq_true_eq, List.all_eq_true]
 refine ⟨hg.len, fun x hx => ?_⟩
 obtain ⟨i, hi, rfl⟩ := List.getElem_of_mem hx
 have := (fmN_iff _ _).1 (hg.form i hi)
 rw [List.getD, List.getElem?_eq_getElem hi, Option.getD_some] at this
 simp only [Bool.or_eq_true, Bool.and_eq_true, decide_eq_true_eq]
 omega
theorem size_pl : ∀ T, sizeT T = (plT T).length
 | .nil => rfl
 | .node _ _ l r => by rw [sizeT, plT, List.length_cons, List.length_append, size_pl l, size_pl r]; omega
theorem move_total (kind : Int) (mir : Bool) : ∃ b, steps_Move_is.f kind mir = some b := by
 unfold steps_Move_is.f steps_alone.f
 split
 ·split
  ·split
   ·split
    ·exact ⟨_, rfl⟩
    ·split <;> exact ⟨_, rfl⟩
   ·exact ⟨_, rfl⟩
  ·exact ⟨_, rfl⟩
 ·exact ⟨_, rfl⟩
/-- A move that can be done: what it starts from and what it gives. -/
structure Moved (t : List S34) (a1 kind : Int) (mir : Bool) (u : List S34) (T X0 X R : Tr) (c : Nat) (rt : Bool) : Prop where
 good : Good t T
 crown : Crown T X0
 place : a1 = c
 inX : (c : Int) ∈ plT X0
 sub : mkT t t.length c = some X
 isrt : (a1 == plc X0) = rt
 gives : Gives rt X R
 can : canT mir rt X kind = true
 kinds : 1 ≤ kind ∧ kind ≤ 12
 isR : R = if rt = true then setW (doT mir X kind) 1 else doT mir X kind
 okR : Ok (replT c R T)
 sizeR : sizeT (replT c R T) = t.length
 isu : u = flatT (replT c R T) 0
theorem do_total (t : List S34) (a1 kind : Int) (mir : Bool) : ∃ k r1 r2, steps_Do.f k t a1 kind mir = some (r1, r2) ∧ ((r2 ≠ 0 ∧ r1 = []) ∨ (r2 = 0 ∧ ∃ T X0 X R c rt, Moved t a1 kind mir r1 T X0 X R c rt)) := by
 obtain ⟨k, q1, q2, q3, hk, hq⟩ := keys_total t
 unfold steps_Do.f
 by_cases h3 : q3 = 0
 ·obtain ⟨T, X0, hg, hX0, hp, hl, hmem⟩ := hq h3
  obtain ⟨b, hb⟩ := move_total kind mir
  refine ⟨k, ?_⟩
  rw [hk, Option.bind_some]
  simp only
  rw [if_pos h3, hb, Option.bind_some]
  by_cases hbt : b = true
  ·rw [if_pos hbt]
   subst hbt
   by_cases ha : a1 < 0 ∨ (t.length : Int) ≤ a1
   ·rw [if_pos ha]; exact ⟨_, _, rfl, .inl ⟨by decide, rfl⟩⟩
   ·rw [if_neg ha, if_pos (by omega)]
    obtain ⟨c, rfl⟩ : ∃ c : Nat, a1 = c := ⟨a1.toNat, by omega⟩
    have hc : c < t.length := by omega
    by_cases hbel : rdOf false q2 c = true
    ·rw [if_pos hbel, Int.toNat_natCast]
     have hin := (hmem c hc).1 hbel
     obtain ⟨c0, hc0, hcl, hm0, hn0, hl0⟩ := crown_tree hg hX0
     obtain ⟨X, hX, hsub⟩ := sub_ex hm0 _ hin
     rw [Int.toNat_natCast] at hX
     have hok : Ok X := ok_mkT hg.form hX
     have hokT : Ok T := ok_mkT hg.form hg.tree
     have hkd := move_kind hb
     unfold doGood
     rw [if_pos (okB_good hg), hX, Option.bind_some]
     have hsz : sizeT T = t.length := by rw [size_pl, hg.all]
     have hlen := hg.len
     by_cases hcan : canT mir ((c : Int) == q1) X kind = true
     ·rw [if_pos hcan]
      have fin : ∀ R, Gives ((c : Int) == q1) X R → R = (if ((c : Int) == q1) = true then setW (doT mir X kind) 1 else doT mir X kind) → ∃ r1 r2, (mkR t c R t.length 0).bind outT = some (r1, r2) ∧ ((r2 ≠ 0 ∧ r1 = []) ∨ (r2 = 0 ∧ ∃ T X0 X R c_1 rt, Moved t c kind mir r1 T X0 X R c_1 rt)) := by
       intro R hR hRe
       have h1 := mkR_eq t c R _ _ _ hg.tree
       have h2 : Ok (replT c R T) := repl_ok hR.ok hokT
       have h3 : sizeT (replT c R T) = t.length := by rw [repl_size hX hR.size _ _ _ hg.tree, hsz]
       rw [h1, Option.bind_some, outT, if_pos (fullB_ok h2), if_pos (by omega)]
       exact ⟨_, _, rfl, .inr ⟨rfl, T, X0, X, R, c, _, hg, hX0, rfl, hin, hX, by rw [hp], hR, hcan, hkd, hRe, h2, h3, rfl⟩⟩
      by_cases hrt : ((c : Int) == q1) = true
      ·rw [if_pos hrt]
       rw [hrt] at fin hcan
       exact fin _ (gives_root mir hkd hok hcan) (if_pos rfl).symm
      ·rw [if_neg hrt]
       rw [Bool.not_eq_true] at hrt
       rw [hrt] at fin hcan
       by_cases hbig : 1000000 < wt (doT mir X kind)
       ·rw [if_pos hbig]; exact ⟨_, _, rfl, .inl ⟨by decide, rfl⟩⟩
       ·rw [if_neg hbig]
        exact fin _ (gives_plain mir hkd hok hcan hbig) (if_neg (by simp)).symm
     ·rw [if_neg hcan]; exact ⟨_, _, rfl, .inl ⟨by decide, rfl⟩⟩
    ·rw [if_neg hbel]; exact ⟨_, _, rfl, .inl ⟨by decide, rfl⟩⟩
  ·rw [if_neg hbt]; exact ⟨_, _, rfl, .inl ⟨by decide, rfl⟩⟩
 ·refine ⟨k, [], q3, ?_, .inl ⟨h3, rfl⟩⟩
  rw [hk, Option.bind_some]
  simp only
  rw [if_neg h3]
theorem awake_true : ∃ k, larchlaw18_awake.f k = some true := ⟨30, by decide +kernel⟩
end Go.Proofs.Ytgleaefhflamnaa.T
namespace Go.Proofs.Ytgleaefhflamnaa.T
open Go.RowKit Go.Proofs.YtgleaefhflamnaaW.PrintWords Go.Proofs.YtgleaefhflamnaaW.PrintLast Go.Proofs.YtgleaefhflamnaaW.PrintMore
theorem crown_repl {t : List S34} {T X0 : Tr} (hg : Good t T) (h : Crown T X0) {c : Nat} (hc : (c : Int) ∈ plT X0) {R : Tr} (hRn : R ≠ .nil) (hR : allT (fun n => n.f1 = 0) R) : Crown (replT c R T) (newX c R X0) := by
 have hn := hg.nodup
 obtain ⟨n0, n1, p1, q1, q0, rfl, c1, c2, c3, c4, c5, hXn⟩ := h
 simp only [plT, List.cons_append, List.nodup_cons, List.mem_cons, List.mem_append, not_or, List.append_assoc, List.nil_append] at hn
 have h1 : ¬ p1 = (c : Int) := fun e => hn.2.1.1 (e ▸ hc)
 have hd := (List.nodup_append.1 hn.2.2).2.2
 have h2 : ¬ q1 = (c : Int) := fun e => hd _ hc q1 (by simp) e.symm
 have h3 : ¬ q0 = (c : Int) := fun e => hd _ hc q0 (by simp) e.symm
 refine ⟨n0, n1, p1, q1, q0, ?_, c1, c2, c3, c4, ?_, ?_⟩
 ·rw [replT, if_neg (show ¬ plc (Tr.node n1 p1 X0 (Tr.node sn34 q1 Tr.nil Tr.nil)) = (c : Int) from h1), if_neg (show ¬ plc (Tr.node sn34 q0 Tr.nil Tr.nil) = (c : Int) from h3), replT, if_neg (show ¬ plc (Tr.node sn34 q1 Tr.nil Tr.nil) = (c : Int) from h2)]
  have e : ∀ q : Int, replT c R (.node sn34 q .nil .nil) = .node sn34 q .nil .nil := fun q => by rw [replT, if_neg (plc_nil c), replT]
  rw [e, e]
  rfl
 ·unfold newX
  split
  ·exact hR
  ·exact repl_all hR c5
 ·unfold newX
  split
  ·exact hRn
  ·cases X0 with
   | nil => exact absurd rfl hXn
   | node _ _ _ _ => simp [replT]
theorem ren_ne {T : Tr} (a : Nat) (h : T ≠ .nil) : renT T a ≠ .nil := by
 cases T with
 | nil => exact absurd rfl h
 | node n p l r => cases l <;> simp [renT]
theorem ren_plc {T : Tr} (a : Nat) (h : T ≠ .nil) : plc (renT T a) = a := by
 cases T with
 | nil => exact absurd rfl h
 | node n p l r => cases l <;> rfl
theorem crown_ren {T X : Tr} (h : Crown T X) : Crown (renT T 0) (renT X 2) := by
 obtain ⟨n0, n1, p1, q1, q0, rfl, c1, c2, c3, c4, c5, hXn⟩ := h
 refine ⟨⟨n0.f0, n0.f1, n0.f2, n0.f3, ((0 : Nat) : Int) + 1, ((0 : Nat) : Int) + 1 + sizeT (Tr.node n1 p1 X (Tr.node sn34 q1 .nil .nil))⟩, ⟨n1.f0, n1.f1, n1.f2, n1.f3, ((0 + 1 : Nat) : Int) + 1, ((0 + 1 : Nat) : Int) + 1 + sizeT X⟩, ((0 + 1 : Nat) : Int), ((0 + 1 + 1 + sizeT X : Nat) : Int), ((0 + 1 + sizeT (Tr.node n1 p1 X (Tr.node sn34 q1 .nil .nil)) : Nat) : Int), ?_, c1, c2, c3, c4, ren_inf 2 c5, ren_ne 2 hXn⟩
 rw [ren_inner _ _ _ _ (by simp), ren_inner _ _ _ _ hXn, ren_leaf, ren_leaf]
 rfl
/-- What a move that can be done says of the two trees of the keys. -/
structure Two (t : List S34) (a1 : Int) (u : List S34) (T X0 U Y0 : Tr) (c0 : Nat) : Prop where
 good : Good t T
 crown : Crown T X0
 goodU : Good u U
 crownU : Crown U Y0
 len : u.length = t.length
 at0 : plc X0 = c0
 atU : plc Y0 = 2
 mk0 : mkT t t.length c0 = some X0
 mkU : mkT u u.length 2 = some Y0
 size0 : sizeT X0 ≤ 100000
 sizeU : sizeT Y0 ≤ 100000
 plain : a1 ≠ c0 → ∀ a, sums Y0 a = sums X0 a
 root : a1 = c0 → wt Y0 = 1 ∧ ∃ d, ∀ a, sums Y0 a = sums X0 (a + d)
theorem moved_two {t : List S34} {a1 kind : Int} {mir : Bool} {u : List S34} {T X0 X R : Tr} {c : Nat} {rt : Bool} (h : Moved t a1 kind mir u T X0 X R c rt) : ∃ c0, Two t a1 u T X0 (renT (replT c R T) 0) (renT (newX c R X0) 2) c0 := by
 have hlen := h.good.len
 obtain ⟨c0, hc0, hcl, hm0, hn0, hl0⟩ := crown_tree h.good h.crown
 have hRn := ok_ne h.gives.ok
 have hinf : allT (fun n => n.f1 = 0) R := by
  obtain ⟨X', hX', hs⟩ := sub_ex hm0 _ h.inX
  rw [Int.toNat_natCast, h.sub] at hX'
  obtain rfl := Option.some.inj hX'
  obtain ⟨_, _, _, _, _, _, _, _, _, _, c5, _⟩ := h.crown
  exact h.gives.all (hs _ c5)
 have hcr := crown_repl h.good h.crown h.inX hRn hinf
 have hgU := flat_good h.okR (by rw [h.sizeR]; exact hlen)
 have hcU := crown_ren hcr
 rw [← h.isu] at hgU
 obtain ⟨cu, hcu, hcul, hmu, hnu, hlu⟩ := crown_tree hgU hcU
 have hYn : newX c R X0 ≠ .nil := by obtain ⟨_, _, _, _, _, _, _, _, _, _, _, hh⟩ := hcr; exact hh
 have hp2 : plc (renT (newX c R X0) 2) = 2 := ren_plc 2 hYn
 obtain rfl : cu = 2 := by omega
 have hok0 : Ok X0 := ok_mkT h.good.form hm0
 have hokY : Ok (newX c R X0) := by
  unfold newX
  split
  ·exact h.gives.ok
  ·exact repl_ok h.gives.ok hok0
 have hlenu : u.length = t.length := by rw [h.isu, flT_len h.okR, h.sizeR]
 have hplace := h.place
 have hisrt := h.isrt
 refine ⟨c0, h.good, h.crown, hgU, hcU, hlenu, hc0, hp2, hm0, hmu, by rw [size_pl]; omega, by rw [size_pl]; omega, ?_, ?_⟩
 ·intro hne a
  have hrt : rt = false := by rw [← hisrt]; exact beq_eq_false_iff_ne.2 (by omega)
  rw [ren_sums hokY, newX, if_neg (by omega)]
  exact repl_sums h.sub hRn (h.gives.plain hrt) _ _ _ hm0 a
 ·intro he
  have hrt : rt = true := by rw [← hisrt]; exact beq_iff_eq.2 (by omega)
  obtain ⟨hw, d, hd⟩ := h.gives.root hrt
  have hcc : c = c0 := by omega
  subst hcc
  have hXX : X = X0 := by have := h.sub; rw [hm0] at this; exact (Option.some.inj this).symm
  subst hXX
  have hY : newX c R X = R := by rw [newX, if_pos hc0]
  rw [ren_wt, hY]
  refine ⟨hw, d, fun a => ?_⟩
  rw [ren_sums (by rw [← hY]; exact hokY), hd]
theorem root_at {t : List S34} {T X0 : Tr} (hg : Good t T) (hX : Crown T X0) : ∃ k, table_Root.f k t = some (plc X0, 0) := by
 obtain ⟨k, r1, r2, h, _, h2⟩ := root_good hg
 obtain ⟨e1, e2⟩ := h2 X0 hX
 exact ⟨k, by rw [h, e1, e2]⟩
end Go.Proofs.Ytgleaefhflamnaa.T
namespace Go.Proofs.Ytgleaefhflamnaa.T
open Go.RowKit Go.Proofs.YtgleaefhflamnaaW.PrintWords Go.Proofs.YtgleaefhflamnaaW.PrintLast Go.Proofs.YtgleaefhflamnaaW.PrintMore
/-- A node with its children's numbers. -/
def conv (t : List S34) (num : List Int) (p : Int) : S34 :=
 let n := t.getD p.toNat z34
 if n.f4 = -1 ∧ n.f5 = -1 then n else ⟨n.f0, n.f1, n.f2, n.f3, rd num n.f4, rd num n.f5⟩
theorem sub_l1 {t : List S34} (hf : FormT t) (num ps : List Int) (hn : num.length = t.length) (hp : ∀ p ∈ ps, 0 ≤ p ∧ p < t.length) (hl : ps.length ≤ 1000000) : ∀ (d i k : Nat), i + d = ps.length → d < k →
  table_sub.l1 k t num ((ps.take i).map (conv t num)) ps ps.length i = some (ps.map (conv t num)) := by
 intro d
 induction d with
 | zero =>
  intro i k hi hk
  cases k with
  | zero => omega
  | succ k =>
   obtain rfl : i = ps.length := by omega
   rw [table_sub.l1, if_neg (by omega), List.take_length]
 | succ d ih =>
  intro i k hi hk
  cases k with
  | zero => omega
  | succ k =>
   have hil : i < ps.length := by omega
   have hg : ps.getD i 0 = ps[i] := by rw [List.getD, List.getElem?_eq_getElem hil, Option.getD_some]
   have hr := hp (ps.getD i 0) (by rw [hg]; exact List.getElem_mem _)
   have htake : ps.take (i + 1) = ps.take i ++ [ps.getD i 0] := by rw [hg, List.take_append_getElem hil]
   have hlen : ((ps.take i).map (conv t num)).length = i := by rw [List.length_map, List.length_take]; omega
   have step := ih (i + 1) k (by omega) (by omega)
   rw [htake, List.map_append, List.map_singleton] at step
   have hfm := hf (ps.getD i 0).toNat (by omega)
   rw [table_sub.l1, if_pos (by omega), if_pos (by omega), if_pos (by omega), show rd ps (i : Int) = ps.getD i 0 from rfl, if_pos hr.1, if_pos hr.2, show rd_T34 t (ps.getD i 0) = t.getD (ps.getD i 0).toNat z34 from rfl, leaf_f, Option.bind_some]
   by_cases hlf : (t.getD (ps.getD i 0).toNat z34).f4 = -1 ∧ (t.getD (ps.getD i 0).toNat z34).f5 = -1
   ·rw [if_pos (by simpa using hlf), if_pos (by omega), Go.IntWalk.wrap64_in _ (by omega)]
    rw [conv, if_pos hlf] at step
    exact step
   ·rw [if_neg (by simpa using hlf), if_pos (by omega), if_pos (by omega), if_pos (by omega), if_pos (by omega), if_pos (by omega), Go.IntWalk.wrap64_in _ (by omega)]
    rw [conv, if_neg hlf] at step
    exact step
theorem sub_l0 {t : List S34} (hf : FormT t) (ps : List Int) (hp : ∀ p ∈ ps, 0 ≤ p ∧ p < t.length) (hnd : ps.Nodup) (hl : ps.length ≤ 1000000) (htl : t.length ≤ 100000) : ∀ (d i k : Nat) (num : List Int), i + d = ps.length → d + ps.length + 2 < k → num.length = t.length → (∀ j, j < i → rd num (ps.getD j 0) = j) →
  ∃ num', num'.length = t.length ∧ (∀ j, j < ps.length → rd num' (ps.getD j 0) = j) ∧ table_sub.l0 k t ps num ps ps.length i = some (ps.map (conv t num')) := by
 intro d
 induction d with
 | zero =>
  intro i k num hi hk hn hj
  cases k with
  | zero => omega
  | succ k =>
   refine ⟨num, hn, fun j h => hj j (by omega), ?_⟩
   rw [table_sub.l0, if_neg (by omega), if_pos (by omega), if_pos (by omega)]
   have := sub_l1 hf num ps hn hp hl ps.length 0 k (by omega) (by omega)
   rw [List.take_zero, List.map_nil] at this
   exact this
 | succ d ih =>
  intro i k num hi hk hn hj
  cases k with
  | zero => omega
  | succ k =>
   have hil : i < ps.length := by omega
   have hg : ∀ j (h : j < ps.length), ps.getD j 0 = ps[j] := fun j h => by rw [List.getD, List.getElem?_eq_getElem h, Option.getD_some]
   have hr := hp (ps.getD i 0) (by rw [hg i hil]; exact List.getElem_mem _)
   obtain ⟨num', h1, h2, h3⟩ := ih (i + 1) k (num.set (ps.getD i 0).toNat i) (by omega) (by omega) (by rw [List.length_set, hn]) (fun j h => by
    by_cases e : j = i
    ·subst e
     simp only [rd]
     rw [getD_set_eq _ _ _ (by omega)]
    ·have hjl : j < ps.length := by omega
     have hrj := hp (ps.getD j 0) (by rw [hg j hjl]; exact List.getElem_mem _)
     have hne : ps.getD i 0 ≠ ps.getD j 0 := by
      rw [hg i hil, hg j hjl]
      intro e2
      rcases Nat.lt_trichotomy i j with hlt | heq | hgt
      ·exact List.pairwise_iff_getElem.1 hnd i j hil hjl hlt e2
      ·exact e heq.symm
      ·exact List.pairwise_iff_getElem.1 hnd j i hjl hil hgt e2.symm
     have := hj j (by omega)
     simp only [rd] at this ⊢
     rw [getD_set_ne _ _ _ (by omega)]
     exact this)
   refine ⟨num', h1, h2, ?_⟩
   rw [table_sub.l0, if_pos (by omega), if_pos (by omega), if_pos (by omega), show rd ps (i : Int) = ps.getD i 0 from rfl, if_pos hr.1, if_pos (by omega), Go.IntWalk.wrap64_in _ (by omega)]
   exact h3
theorem plT_head {t : List S34} {k i : Nat} {T : Tr} (h : mkT t k i = some T) : ∃ q, plT T = (i : Int) :: q := by
 have e := mkT_plc h
 cases T with
 | nil => exact absurd h (fun h => mkT_nil h)
 | node n p l r => exact ⟨_, by rw [plT]; rw [plc] at e; rw [e]⟩
/-- The nodes with their new numbers are the flat table. -/
theorem conv_flat {t : List S34} (hf : ∀ i, i < t.length → fmN (t.getD i z34) t.length = true) (num : List Int) : ∀ (k i : Nat) (T : Tr) (a : Nat), mkT t k i = some T → (∀ j, j < (plT T).length → rd num ((plT T).getD j 0) = ((a + j : Nat) : Int)) → (plT T).map (conv t num) = flatT T a := by
 intro k
 induction k with
 | zero => intro i T a h; simp [mkT] at h
 | succ k ih =>
  intro i T a h hnum
  by_cases hl : (t.getD i z34).f4 = -1 ∧ (t.getD i z34).f5 = -1
  ·obtain ⟨hi, rfl⟩ := mkT_leaf hf h hl
   rw [flT_leaf]
   simp only [plT, List.append_nil, List.map_cons, List.map_nil, conv, Int.toNat_natCast]
   rw [if_pos hl]
  ·obtain ⟨k', l, r, hk, hi, h1, h2, rfl⟩ := mkT_inner hf h hl
   obtain rfl : k = k' := by omega
   have hfm := (fmN_iff _ _).1 (hf i hi)
   have hln : l ≠ .nil := fun e => mkT_nil (e ▸ h1)
   obtain ⟨ql, el⟩ := plT_head h1
   obtain ⟨qr, er⟩ := plT_head h2
   have hsl : sizeT l = (plT l).length := size_pl l
   simp only [plT, List.length_cons, List.length_append] at hnum
   have n4 : rd num (t.getD i z34).f4 = ((a + 1 : Nat) : Int) := by
    have := hnum 1 (by rw [el]; simp only [List.length_cons]; omega)
    rw [List.getD_cons_succ, el, List.cons_append, List.getD_cons_zero] at this
    rw [show (t.getD i z34).f4 = (((t.getD i z34).f4.toNat : Nat) : Int) by omega]
    exact this
   have n5 : rd num (t.getD i z34).f5 = ((a + 1 + sizeT l : Nat) : Int) := by
    have := hnum (1 + (plT l).length) (by rw [er]; simp only [List.length_cons]; omega)
    rw [Nat.add_comm 1, List.getD_cons_succ, List.getD, List.getElem?_append_right (Nat.le_refl _), Nat.sub_self, er] at this
    rw [show (t.getD i z34).f5 = (((t.getD i z34).f5.toNat : Nat) : Int) by omega]
    rw [hsl, show a + 1 + (plT l).length = a + ((plT l).length + 1) by omega]
    exact this
   have il := ih _ l (a + 1) h1 (fun j hj => by
    have := hnum (j + 1) (by omega)
    rw [List.getD_cons_succ, List.getD, List.getElem?_append_left hj] at this
    rw [show a + 1 + j = a + (j + 1) by omega]
    exact this)
   have ir := ih _ r (a + 1 + sizeT l) h2 (fun j hj => by
    have := hnum ((plT l).length + j + 1) (by omega)
    rw [List.getD_cons_succ, List.getD, List.getElem?_append_right (by omega), Nat.add_sub_cancel_left] at this
    rw [hsl, show a + 1 + (plT l).length + j = a + ((plT l).length + j + 1) by omega]
    exact this)
   rw [flT_inner _ _ _ _ hln, plT, List.map_cons, List.map_append, il, ir, conv, Int.toNat_natCast, if_neg hl, n4, n5]
   rfl
theorem sub_tree {t : List S34} (hlen : t.length ≤ 100000) (hf : ∀ i, i < t.length → fmN (t.getD i z34) t.length = true) {K : Nat} {a : Int} {T : Tr} (h0 : 0 ≤ a) (hT : mkT t K a.toNat = some T) (hn : (plT T).Nodup) (hl : (plT T).length ≤ 1000000) : ∃ k, table_sub.f k t a = some (flatT T 0) := by
 refine ⟨2 * (plT T).length + 10, ?_⟩
 unfold table_sub.f
 rw [order_f_tree hlen (formT_of hf) h0 hT hn hl _ (by omega), Option.bind_some, if_pos (by omega), if_pos (by omega), Int.toNat_natCast]
 obtain ⟨num, h1, h2, h3⟩ := sub_l0 (formT_of hf) (plT T) (plT_mem _ _ _ hT).2 hn hl hlen (plT T).length 0 (2 * (plT T).length + 10) (List.replicate t.length 0) (by omega) (by omega) List.length_replicate (fun j hj => absurd hj (by omega))
 rw [show ((0 : Nat) : Int) = 0 from rfl] at h3
 rw [h3, conv_flat hf num _ _ T 0 hT (fun j hj => by rw [h2 j hj, Nat.zero_add])]
end Go.Proofs.Ytgleaefhflamnaa.T
namespace Go.Proofs.Ytgleaefhflamnaa.T
open Go.RowKit Go.Proofs.YtgleaefhflamnaaW.PrintWords Go.Proofs.YtgleaefhflamnaaW.PrintLast Go.Proofs.YtgleaefhflamnaaW.PrintMore
/-- A tree without its places and its nodes' numbers. -/
def nT : Tr → Tr
 | .nil => .nil
 | .node n _ l r => .node ⟨n.f0, n.f1, n.f2, n.f3, 0, 0⟩ 0 (nT l) (nT r)
/-- The tree mirrored. -/
def mirT : Tr → Tr
 | .nil => .nil
 | .node n p l r => .node n p (mirT r) (mirT l)
theorem nT_nil {T : Tr} : nT T = .nil ↔ T = .nil := by cases T <;> simp [nT]
theorem mir_nil {T : Tr} : mirT T = .nil ↔ T = .nil := by cases T <;> simp [mirT]
theorem nT_l (m : Bool) (T : Tr) : nT (lT m T) = lT m (nT T) := by cases T <;> cases m <;> rfl
theorem nT_r (m : Bool) (T : Tr) : nT (rT m T) = rT m (nT T) := by cases T <;> cases m <;> rfl
theorem wt_n (T : Tr) : wt (nT T) = wt T := by cases T <;> rfl
theorem key_n (T : Tr) : keyT (nT T) = keyT T := by cases T <;> rfl
theorem inner_n (T : Tr) : innerB (nT T) = innerB T := by
 cases T with
 | nil => rfl
 | node n p l r => cases l <;> rfl
theorem nT_put (m : Bool) (k x : Int) (L R : Tr) : nT (putT m k x L R) = putT m k x (nT L) (nT R) := by cases m <;> rfl
theorem nT_as (x : Int) (T : Tr) : nT (asT x T) = asT x (nT T) := by cases T <;> rfl
theorem nT_set (x : Int) (T : Tr) : nT (setW T x) = setW (nT T) x := by cases T <;> rfl
theorem nT_do (m : Bool) (X : Tr) (kind : Int) : nT (doT m X kind) = doT m (nT X) kind := by
 unfold doT do1 do2 do3 do4 do5 do6 do7 do8 do9 do10 do11 do12 lessT
 simp only [← nT_l, ← nT_r, wt_n, key_n, apply_ite nT, nT_put, nT_as]
theorem nT_can (m rt : Bool) (X : Tr) (kind : Int) : canT m rt (nT X) kind = canT m rt X kind := by
 unfold canT can1 can2 can3 can4 can5 can6 can7 can8 can9 can10 can11
 simp only [← nT_l, ← nT_r, wt_n, inner_n]
theorem mir_l (m : Bool) (T : Tr) : lT (!m) (mirT T) = mirT (lT m T) := by cases T <;> cases m <;> rfl
theorem mir_r (m : Bool) (T : Tr) : rT (!m) (mirT T) = mirT (rT m T) := by cases T <;> cases m <;> rfl
theorem wt_m (T : Tr) : wt (mirT T) = wt T := by cases T <;> rfl
theorem key_m (T : Tr) : keyT (mirT T) = keyT T := by cases T <;> rfl
theorem mir_put (m : Bool) (k x : Int) (L R : Tr) : putT (!m) k x (mirT L) (mirT R) = mirT (putT m k x L R) := by cases m <;> rfl
theorem mir_as (x : Int) (T : Tr) : asT x (mirT T) = mirT (asT x T) := by cases T <;> rfl
theorem mir_set (x : Int) (T : Tr) : setW (mirT T) x = mirT (setW T x) := by cases T <;> rfl
/-- A move's mirror, the kinds that have one. -/
theorem mir_do (m : Bool) (X : Tr) (kind : Int) : doT (!m) (mirT X) kind = mirT (doT m X kind) := by
 unfold doT do1 do2 do3 do4 do5 do6 do7 do8 do9 do10 do11 do12 lessT
 simp only [mir_l, mir_r, wt_m, key_m, mir_as, mir_put, apply_ite mirT]
/-- A tree in which each node has two children or none. -/
def TwoT : Tr → Prop
 | .nil => True
 | .node _ _ l r => (l = .nil ↔ r = .nil) ∧ TwoT l ∧ TwoT r
theorem two_ok : ∀ {T : Tr}, Ok T → TwoT T
 | .nil, h => h.elim
 | .node n p l r, ⟨_, _, h⟩ => by
  rcases h with ⟨h1, h2, _⟩ | ⟨_, h1, h2⟩
  ·subst h1 h2; exact ⟨Iff.rfl, trivial, trivial⟩
  ·exact ⟨⟨fun e => absurd e (ok_ne h1), fun e => absurd e (ok_ne h2)⟩, two_ok h1, two_ok h2⟩
theorem two_l (m : Bool) {T : Tr} (h : TwoT T) : TwoT (lT m T) := by
 cases T with
 | nil => exact h
 | node n p l r =>
  cases m
  ·exact h.2.1
  ·exact h.2.2
theorem two_r (m : Bool) {T : Tr} (h : TwoT T) : TwoT (rT m T) := by
 cases T with
 | nil => exact h
 | node n p l r =>
  cases m
  ·exact h.2.2
  ·exact h.2.1
theorem inner_m {T : Tr} (h : TwoT T) : innerB (mirT T) = innerB T := by
 cases T with
 | nil => rfl
 | node n p l r =>
  cases l with
  | nil => have e := h.1.1 rfl; subst e; rfl
  | node n1 p1 l1 r1 =>
   cases r with
   | nil => exact absurd (h.1.2 rfl) (by simp)
   | node n2 p2 l2 r2 => rfl
theorem mir_can (m rt : Bool) {X : Tr} (h : TwoT X) (kind : Int) : canT (!m) rt (mirT X) kind = canT m rt X kind := by
 unfold canT can1 can2 can3 can4 can5 can6 can7 can8 can9 can10 can11
 simp only [mir_l, mir_r, wt_m]
 rw [inner_m (two_r m (two_l m h)), inner_m (two_l m (two_l m (two_r m h))), inner_m (two_l m (two_r m h))]
/-- The kinds without a mirror: the same move. -/
theorem sym_do (X : Tr) {kind : Int} (h : kind = 1 ∨ kind = 11 ∨ kind = 12) : doT false (mirT X) kind = mirT (doT false X kind) := by
 have e : ∀ T : Tr, lT false (mirT T) = mirT (rT false T) := fun T => by cases T <;> rfl
 have e' : ∀ T : Tr, rT false (mirT T) = mirT (lT false T) := fun T => by cases T <;> rfl
 have ep : ∀ k x L R, putT false k x (mirT L) (mirT R) = mirT (putT false k x R L) := fun k x L R => rfl
 rcases h with rfl | rfl | rfl
 ·simp only [doT, if_pos, do1, e, e', wt_m, key_m, mir_as, ep]
 ·simp only [doT, if_neg (show ¬ (11 : Int) = 1 by decide), if_neg (show ¬ (11 : Int) = 2 by decide), if_neg (show ¬ (11 : Int) = 3 by decide), if_neg (show ¬ (11 : Int) = 4 by decide), if_neg (show ¬ (11 : Int) = 5 by decide), if_neg (show ¬ (11 : Int) = 6 by decide), if_neg (show ¬ (11 : Int) = 7 by decide), if_neg (show ¬ (11 : Int) = 8 by decide), if_neg (show ¬ (11 : Int) = 9 by decide), if_neg (show ¬ (11 : Int) = 10 by decide), if_pos, do11, lessT, e, e', wt_m, key_m, mir_as, ep]
 ·simp only [doT, if_neg (show ¬ (12 : Int) = 1 by decide), if_neg (show ¬ (12 : Int) = 2 by decide), if_neg (show ¬ (12 : Int) = 3 by decide), if_neg (show ¬ (12 : Int) = 4 by decide), if_neg (show ¬ (12 : Int) = 5 by decide), if_neg (show ¬ (12 : Int) = 6 by decide), if_neg (show ¬ (12 : Int) = 7 by decide), if_neg (show ¬ (12 : Int) = 8 by decide), if_neg (show ¬ (12 : Int) = 9 by decide), if_neg (show ¬ (12 : Int) = 10 by decide), if_neg (show ¬ (12 : Int) = 11 by decide), do12, mir_as]
theorem sym_can {X : Tr} (rt : Bool) {kind : Int} (h : kind = 1 ∨ kind = 11 ∨ kind = 12) : canT false rt (mirT X) kind = canT false rt X kind := by
 have e : ∀ T : Tr, lT false (mirT T) = mirT (rT false T) := fun T => by cases T <;> rfl
 have e' : ∀ T : Tr, rT false (mirT T) = mirT (lT false T) := fun T => by cases T <;> rfl
 rcases h with rfl | rfl | rfl
 ·simp only [canT, if_pos, can1, e, e', wt_m]
  cases wt (lT false X) == 0 <;> cases wt (rT false X) == 0 <;> cases decide (0 < wt X) <;> cases wt (lT false (lT false X)) == 0 <;> cases wt (rT false (lT false X)) == 0 <;> cases wt (lT false (rT false X)) == 0 <;> cases wt (rT false (rT false X)) == 0 <;> rfl
 ·simp only [canT, can11, e, e', wt_m]
  cases decide (1 < wt (lT false X)) <;> cases decide (1 < wt (rT false X)) <;> rfl
 ·simp only [canT, wt_m]
  rfl
end Go.Proofs.Ytgleaefhflamnaa.T
namespace Go.Proofs.Ytgleaefhflamnaa.T
open Go.RowKit Go.Proofs.YtgleaefhflamnaaW.PrintWords Go.Proofs.YtgleaefhflamnaaW.PrintLast Go.Proofs.YtgleaefhflamnaaW.PrintMore
theorem size_n : ∀ T : Tr, sizeT (nT T) = sizeT T
 | .nil => rfl
 | .node n p l r => by rw [nT, sizeT, sizeT, size_n l, size_n r]
theorem size_m : ∀ T : Tr, sizeT (mirT T) = sizeT T
 | .nil => rfl
 | .node n p l r => by rw [mirT, sizeT, sizeT, size_m l, size_m r]; omega
theorem nT_m : ∀ T : Tr, nT (mirT T) = mirT (nT T)
 | .nil => rfl
 | .node n p l r => by rw [mirT, nT, nT, mirT, nT_m l, nT_m r]
theorem ok_m : ∀ {T : Tr}, Ok T → Ok (mirT T)
 | .nil, h => h.elim
 | .node n p l r, ⟨h1, h2, h⟩ => by
  refine ⟨h1, h2, ?_⟩
  rcases h with ⟨e1, e2, h4⟩ | ⟨h3, hl, hr⟩
  ·subst e1 e2; exact .inl ⟨rfl, rfl, h4⟩
  ·exact .inr ⟨h3, ok_m hr, ok_m hl⟩
theorem ok_leaf {n : S34} {p : Int} {r : Tr} (h : Ok (.node n p .nil r)) : r = .nil ∧ n.f4 = -1 ∧ n.f5 = -1 := by
 rcases h.2.2 with ⟨_, h2, h3⟩ | ⟨_, h2, _⟩
 ·exact ⟨h2, h3⟩
 ·exact h2.elim
theorem ok_inner {n : S34} {p : Int} {l r : Tr} (h : Ok (.node n p l r)) (hl : l ≠ .nil) : Ok l ∧ Ok r := by
 rcases h.2.2 with ⟨h1, _⟩ | ⟨_, h1, h2⟩
 ·exact absurd h1 hl
 ·exact ⟨h1, h2⟩
/-- The flat table asks the shape alone. -/
theorem flat_shape : ∀ {T T' : Tr}, Ok T → Ok T' → nT T = nT T' → ∀ a, flatT T a = flatT T' a
 | .nil, _, h, _, _, _ => h.elim
 | _, .nil, _, h, _, _ => h.elim
 | .node n p l r, .node n' p' l' r', h, h', e, a => by
  rw [nT, nT] at e
  injection e with e1 _ e3 e4
  injection e1 with g0 g1 g2 g3
  by_cases hl : l = .nil
  ·subst hl
   obtain rfl : l' = .nil := nT_nil.1 (by rw [← e3]; rfl)
   have k := ok_leaf h
   have k' := ok_leaf h'
   rw [flT_leaf, flT_leaf]
   obtain ⟨a0, a1, a2, a3, a4, a5⟩ := n
   obtain ⟨b0, b1, b2, b3, b4, b5⟩ := n'
   simp only at g0 g1 g2 g3 k k'
   rw [g0, g1, g2, g3, k.2.1, k.2.2, k'.2.1, k'.2.2]
  ·have hl' : l' ≠ .nil := fun e => hl (nT_nil.1 (by rw [e3, e]; rfl))
   have k := ok_inner h hl
   have k' := ok_inner h' hl'
   have es : sizeT l = sizeT l' := by rw [← size_n l, ← size_n l', e3]
   rw [flT_inner _ _ _ _ hl, flT_inner _ _ _ _ hl', g0, g1, g2, g3, es, flat_shape k.1 k'.1 e3, flat_shape k.2 k'.2 e4]
theorem nT_ren : ∀ {T : Tr}, Ok T → ∀ a, nT (renT T a) = nT T
 | .nil, h, _ => h.elim
 | .node n p l r, h, a => by
  by_cases hl : l = .nil
  ·subst hl
   rw [ren_leaf, (ok_leaf h).1]
   rfl
  ·have k := ok_inner h hl
   rw [ren_inner _ _ _ _ hl, nT, nT, nT_ren k.1, nT_ren k.2]
/-- The part at a number of the walk; the part there replaced. -/
def atT : Nat → Tr → Tr
 | 0, T => T
 | _ + 1, .nil => .nil
 | j + 1, .node _ _ l r => if j < sizeT l then atT j l else atT (j - sizeT l) r
def rpi : Nat → Tr → Tr → Tr
 | 0, R, _ => R
 | _ + 1, _, .nil => .nil
 | j + 1, R, .node n p l r => if j < sizeT l then .node n p (rpi j R l) r else .node n p l (rpi (j - sizeT l) R r)
theorem nT_at : ∀ (T : Tr) (j : Nat), nT (atT j T) = atT j (nT T)
 | _, 0 => by rw [atT, atT]
 | .nil, _ + 1 => rfl
 | .node n p l r, j + 1 => by
  rw [nT, atT, atT, size_n]
  split
  ·exact nT_at l j
  ·exact nT_at r _
theorem nT_rpi (R : Tr) : ∀ (T : Tr) (j : Nat), nT (rpi j R T) = rpi j (nT R) (nT T)
 | _, 0 => by rw [rpi, rpi]
 | .nil, _ + 1 => rfl
 | .node n p l r, j + 1 => by
  rw [nT, rpi, rpi, size_n]
  split
  ·rw [nT, nT_rpi R l j]
  ·rw [nT, nT_rpi R r _]
theorem repl_no {c : Nat} {R : Tr} : ∀ {T : Tr}, (c : Int) ∉ plT T → replT c R T = T
 | .nil, _ => rfl
 | .node n p l r, h => by
  rw [plT, List.mem_cons, List.mem_append] at h
  have hh : ∀ X : Tr, (c : Int) ∉ plT X → (if plc X = c then R else replT c R X) = replT c R X := by
   intro X hX
   refine if_neg (fun e => hX ?_)
   cases X with
   | nil => rw [plc] at e; omega
   | node _ q _ _ => rw [plc] at e; rw [plT, e]; exact List.mem_cons_self
  have h1 : (c : Int) ∉ plT l := fun e => h (.inr (.inl e))
  have h2 : (c : Int) ∉ plT r := fun e => h (.inr (.inr e))
  rw [replT, hh l h1, hh r h2, repl_no h1, repl_no h2]
theorem new_no {c : Nat} {R X : Tr} (h : (c : Int) ∉ plT X) : newX c R X = X := by
 unfold newX
 rw [if_neg, repl_no h]
 intro e
 cases X with
 | nil => rw [plc] at e; omega
 | node _ q _ _ => rw [plc] at e; exact h (by rw [plT, e]; exact List.mem_cons_self)
theorem repl_new (c : Nat) (R : Tr) (n : S34) (p : Int) (l r : Tr) : replT c R (.node n p l r) = .node n p (newX c R l) (newX c R r) := rfl
theorem new_at (R : Tr) : ∀ (T : Tr) (j : Nat) (hj : j < (plT T).length) (c : Nat), (plT T)[j] = (c : Int) → (plT T).Nodup → newX c R T = rpi j R T
 | .nil, j, hj, _, _, _ => absurd hj (by simp [plT])
 | .node n p l r, 0, hj, c, hc, hn => by
  simp only [plT, List.getElem_cons_zero] at hc
  rw [newX, plc, if_pos hc, rpi]
 | .node n p l r, j + 1, hj, c, hc, hn => by
  simp only [plT, List.getElem_cons_succ, List.nodup_cons, List.mem_append, List.length_cons, List.length_append] at hc hn hj
  have hne : p ≠ c := by
   intro e
   have hm : (c : Int) ∈ plT l ++ plT r := hc ▸ List.getElem_mem _
   rw [List.mem_append] at hm
   exact hn.1 (e ▸ hm)
  have hsz := size_pl l
  rw [newX, plc, if_neg hne, repl_new, rpi]
  by_cases hlt : j < (plT l).length
  ·rw [if_pos (by omega)]
   rw [List.getElem_append_left hlt] at hc
   have hr : (c : Int) ∉ plT r := fun e => (List.nodup_append.1 hn.2).2.2 _ (hc ▸ List.getElem_mem _ : (c : Int) ∈ plT l) _ e rfl
   rw [new_no hr, new_at R l j hlt c hc (nodup_app_l hn.2)]
  ·rw [if_neg (by omega)]
   rw [List.getElem_append_right (by omega)] at hc
   have hl : (c : Int) ∉ plT l := fun e => (List.nodup_append.1 hn.2).2.2 _ e _ (hc ▸ List.getElem_mem _ : (c : Int) ∈ plT r) rfl
   rw [new_no hl, new_at R r (j - (plT l).length) (by omega) c hc (nodup_app_r hn.2), hsz]
/-- What the table holds at a place is the tree's part there. -/
theorem mk_at {t : List S34} (hf : ∀ i, i < t.length → fmN (t.getD i z34) t.length = true) : ∀ (k i : Nat) (T : Tr), mkT t k i = some T → ∀ (j : Nat) (hj : j < (plT T).length), mkT t k ((plT T)[j]).toNat = some (atT j T) := by
 intro k
 induction k with
 | zero => intro i T h; simp [mkT] at h
 | succ k ih =>
  intro i T h j hj
  by_cases hl : (t.getD i z34).f4 = -1 ∧ (t.getD i z34).f5 = -1
  ·obtain ⟨hi, rfl⟩ := mkT_leaf hf h hl
   simp only [plT, List.append_nil, List.length_cons, List.length_nil] at hj
   obtain rfl : j = 0 := by omega
   exact h
  ·obtain ⟨k', l, r, hk, hi, h1, h2, rfl⟩ := mkT_inner hf h hl
   obtain rfl : k = k' := by omega
   cases j with
   | zero => exact h
   | succ j =>
    have hsz := size_pl l
    simp only [plT, List.length_cons, List.length_append] at hj
    simp only [plT, List.getElem_cons_succ, atT]
    by_cases hlt : j < (plT l).length
    ·rw [if_pos (by omega), List.getElem_append_left hlt]
     exact mkT_mono t _ _ _ (ih _ l h1 j hlt)
    ·rw [if_neg (by omega), List.getElem_append_right (by omega)]
     have := ih _ r h2 (j - (plT l).length) (by omega)
     rw [hsz]
     exact mkT_mono t _ _ _ this
end Go.Proofs.Ytgleaefhflamnaa.T
namespace Go.Proofs.Ytgleaefhflamnaa.T
open Go.RowKit Go.Proofs.YtgleaefhflamnaaW.PrintWords Go.Proofs.YtgleaefhflamnaaW.PrintLast Go.Proofs.YtgleaefhflamnaaW.PrintMore
/-- The walk over trees that share no place: all places, from the top of the stack on. -/
theorem order_tree2 (t : List S34) (hlen : t.length ≤ 1000000) (hf : FormT t) (K : Nat) : ∀ (k : Nat) (met : List Bool) (out s ps : List Int), met.length = t.length → plF t K s = some ps → ps.Nodup → (∀ p ∈ ps, met.getD p.toNat false = false) → ps.length < k → out.length + ps.length ≤ 1000000 →
  table_order.l0 k t met out s.reverse = some (out ++ ps) := by
 intro k
 induction k with
 | zero => intro met out s ps _ _ _ _ h; exact absurd h (by omega)
 | succ k ih =>
  intro met out s ps hm hp hn hu hk ho
  cases s with
  | nil =>
   rw [plF] at hp
   injection hp with hp
   subst hp
   rw [List.reverse_nil, order_nil, List.append_nil]
  | cons i s =>
   obtain ⟨T, q, h0, hT, hq, rfl⟩ := plF_cons hp
   have hsl := plF_len hp
   rw [List.length_cons, List.length_append] at hsl
   have hsl2 := plF_len hq
   rw [List.length_append] at hk ho
   rw [order_step _ _ _ _ _ _ (by omega), if_pos h0]
   cases K with
   | zero => simp [mkT] at hT
   | succ K =>
    have hT0 := hT
    rw [mkT] at hT
    split at hT
    case isFalse => exact absurd hT (by simp)
    rename_i hi
    split at hT
    ·rename_i h4
     obtain ⟨Tl, hl, hT⟩ := Option.bind_eq_some_iff.1 hT
     obtain ⟨Tr', hr, hT⟩ := Option.bind_eq_some_iff.1 hT
     obtain rfl := Option.some.inj hT
     simp only [plT, List.cons_append, List.nodup_cons, List.append_assoc, List.length_cons, List.length_append] at hn hk ho hsl ⊢
     have hmi := hu i.toNat (by simp [plT])
     rw [Int.toNat_natCast] at hmi
     have h5 : 0 ≤ (t.getD i.toNat z34).f5 := by have := hf i.toNat hi; omega
     rw [if_pos (by omega), if_neg (by rw [hmi]; simp), if_pos (by omega), if_pos (by omega), if_neg (by omega), if_pos (by omega)]
     rw [ih _ _ (_ :: _ :: s) _ (by rw [List.length_set, hm]) (plF_mk h4 (mkT_mono t _ _ _ hl) (plF_mk h5 (mkT_mono t _ _ _ hr) hq)) hn.2 ?_ (by simp only [List.length_append]; omega) (by simp only [List.length_append, List.length_singleton]; omega)]
     ·rw [Int.toNat_of_nonneg h0]; simp
     ·intro p hp'
      by_cases e : i.toNat = p.toNat
      ·exfalso
       have hnn := (plF_mem hp p (by simp only [plT, List.cons_append, List.append_assoc]; exact List.mem_cons_of_mem _ hp')).1
       exact hn.1 (by rw [show ((i.toNat : Nat) : Int) = p by omega]; exact hp')
      ·rw [getD_set_ne _ _ _ e]
       exact hu p (by simp only [plT, List.cons_append, List.append_assoc]; exact List.mem_cons_of_mem _ hp')
    ·rename_i h4
     obtain rfl := Option.some.inj hT
     simp only [plT, List.cons_append, List.nodup_cons, List.nil_append, List.length_cons] at hn hk ho hsl ⊢
     have hmi := hu i.toNat (by simp [plT])
     rw [Int.toNat_natCast] at hmi
     have h45 := hf i.toNat hi
     rw [if_pos (by omega), if_neg (by rw [hmi]; simp), if_pos (by omega), if_pos (by omega), if_pos (by omega)]
     rw [ih _ _ s _ (by rw [List.length_set, hm]) hq hn.2 ?_ (by omega) (by simp only [List.length_append, List.length_singleton]; omega)]
     ·rw [Int.toNat_of_nonneg h0]; simp
     ·intro p hp'
      by_cases e : i.toNat = p.toNat
      ·exfalso
       have hnn := (plF_mem hq p hp').1
       exact hn.1 (by rw [show ((i.toNat : Nat) : Int) = p by omega]; exact hp')
      ·rw [getD_set_ne _ _ _ e]
       exact hu p (by simp only [plT, List.cons_append, List.nil_append]; exact List.mem_cons_of_mem _ hp')
theorem order_f2 (k : Nat) (t : List S34) (hlen : t.length ≤ 1000000) (a : Int) : table_order.f k t a = table_order.l0 k t (List.replicate t.length false) [] ([a] : List Int).reverse := by
 unfold table_order.f
 rw [if_pos (by omega), if_pos (by omega), Int.toNat_natCast]
 rfl
/-- order of a place over a tree. -/
theorem order_f_tree2 {t : List S34} (hlen : t.length ≤ 1000000) (hf : FormT t) {K : Nat} {a : Int} {T : Tr} (h0 : 0 ≤ a) (hT : mkT t K a.toNat = some T) (hn : (plT T).Nodup) (hl : (plT T).length ≤ 1000000) (k : Nat) (hk : (plT T).length < k) : table_order.f k t a = some (plT T) := by
 rw [order_f2 _ _ hlen]
 have hp := plF_mk h0 hT (plF.eq_1 t K)
 rw [List.append_nil] at hp
 rw [order_tree2 t hlen hf K k _ [] [a] (plT T) List.length_replicate hp hn (fun _ _ => getD_replicate_false _ _) hk (by simpa using hl)]
 rfl
theorem sub_l02 {t : List S34} (hf : FormT t) (ps : List Int) (hp : ∀ p ∈ ps, 0 ≤ p ∧ p < t.length) (hnd : ps.Nodup) (hl : ps.length ≤ 1000000) (htl : t.length ≤ 1000000) : ∀ (d i k : Nat) (num : List Int), i + d = ps.length → d + ps.length + 2 < k → num.length = t.length → (∀ j, j < i → rd num (ps.getD j 0) = j) →
  ∃ num', num'.length = t.length ∧ (∀ j, j < ps.length → rd num' (ps.getD j 0) = j) ∧ table_sub.l0 k t ps num ps ps.length i = some (ps.map (conv t num')) := by
 intro d
 induction d with
 | zero =>
  intro i k num hi hk hn hj
  cases k with
  | zero => omega
  | succ k =>
   refine ⟨num, hn, fun j h => hj j (by omega), ?_⟩
   rw [table_sub.l0, if_neg (by omega), if_pos (by omega), if_pos (by omega)]
   have := sub_l1 hf num ps hn hp hl ps.length 0 k (by omega) (by omega)
   rw [List.take_zero, List.map_nil] at this
   exact this
 | succ d ih =>
  intro i k num hi hk hn hj
  cases k with
  | zero => omega
  | succ k =>
   have hil : i < ps.length := by omega
   have hg : ∀ j (h : j < ps.length), ps.getD j 0 = ps[j] := fun j h => by rw [List.getD, List.getElem?_eq_getElem h, Option.getD_some]
   have hr := hp (ps.getD i 0) (by rw [hg i hil]; exact List.getElem_mem _)
   obtain ⟨num', h1, h2, h3⟩ := ih (i + 1) k (num.set (ps.getD i 0).toNat i) (by omega) (by omega) (by rw [List.length_set, hn]) (fun j h => by
    by_cases e : j = i
    ·subst e
     simp only [rd]
     rw [getD_set_eq _ _ _ (by omega)]
    ·have hjl : j < ps.length := by omega
     have hrj := hp (ps.getD j 0) (by rw [hg j hjl]; exact List.getElem_mem _)
     have hne : ps.getD i 0 ≠ ps.getD j 0 := by
      rw [hg i hil, hg j hjl]
      intro e2
      rcases Nat.lt_trichotomy i j with hlt | heq | hgt
      ·exact List.pairwise_iff_getElem.1 hnd i j hil hjl hlt e2
      ·exact e heq.symm
      ·exact List.pairwise_iff_getElem.1 hnd j i hjl hil hgt e2.symm
     have := hj j (by omega)
     simp only [rd] at this ⊢
     rw [getD_set_ne _ _ _ (by omega)]
     exact this)
   refine ⟨num', h1, h2, ?_⟩
   rw [table_sub.l0, if_pos (by omega), if_pos (by omega), if_pos (by omega), show rd ps (i : Int) = ps.getD i 0 from rfl, if_pos hr.1, if_pos (by omega), Go.IntWalk.wrap64_in _ (by omega)]
   exact h3
theorem sub_tree2 {t : List S34} (hlen : t.length ≤ 1000000) (hf : ∀ i, i < t.length → fmN (t.getD i z34) t.length = true) {K : Nat} {a : Int} {T : Tr} (h0 : 0 ≤ a) (hT : mkT t K a.toNat = some T) (hn : (plT T).Nodup) (hl : (plT T).length ≤ 1000000) : ∃ k, table_sub.f k t a = some (flatT T 0) := by
 refine ⟨2 * (plT T).length + 10, ?_⟩
 unfold table_sub.f
 rw [order_f_tree2 hlen (formT_of hf) h0 hT hn hl _ (by omega), Option.bind_some, if_pos (by omega), if_pos (by omega), Int.toNat_natCast]
 obtain ⟨num, h1, h2, h3⟩ := sub_l02 (formT_of hf) (plT T) (plT_mem _ _ _ hT).2 hn hl hlen (plT T).length 0 (2 * (plT T).length + 10) (List.replicate t.length 0) (by omega) (by omega) List.length_replicate (fun j hj => absurd hj (by omega))
 rw [show ((0 : Nat) : Int) = 0 from rfl] at h3
 rw [h3, conv_flat hf num _ _ T 0 hT (fun j hj => by rw [h2 j hj, Nat.zero_add])]
end Go.Proofs.Ytgleaefhflamnaa.T
namespace Go.Proofs.Ytgleaefhflamnaa.T
open Go.RowKit Go.Proofs.YtgleaefhflamnaaW.PrintWords Go.Proofs.YtgleaefhflamnaaW.PrintLast Go.Proofs.YtgleaefhflamnaaW.PrintMore
def redN (c N : Nat) (n : S34) : S34 := if n.f4 = -1 ∧ n.f5 = -1 then n else ⟨n.f0, n.f1, n.f2, n.f3, if n.f4 = c then N else n.f4, if n.f5 = c then N else n.f5⟩
def shfN (N : Nat) (n : S34) : S34 := if n.f4 = -1 ∧ n.f5 = -1 then n else ⟨n.f0, n.f1, n.f2, n.f3, n.f4 + N, n.f5 + N⟩
theorem getD_map {α β : Type} (f : α → β) (l : List α) (i : Nat) (d : α) (d' : β) (h : i < l.length) : (l.map f).getD i d' = f (l.getD i d) := by
 simp [List.getD, h]
theorem take_snoc {α : Type} (l : List α) (i : Nat) (d : α) (h : i < l.length) : l.take (i + 1) = l.take i ++ [l.getD i d] := by
 rw [List.getD, List.getElem?_eq_getElem h, Option.getD_some, List.take_append_getElem h]
theorem graft_l1 {t w : List S34} (A : List S34) (ht : t.length ≤ 100000) (hA : A.length ≤ 100000) (hw : w.length ≤ 100000) (hfw : ∀ i, i < w.length → fmN (w.getD i z34) w.length = true) : ∀ (d i k : Nat), i + d = w.length →
  table_Graft.l1 (k + d + 1) t (A ++ (w.take i).map (shfN t.length)) w w.length i = (table_sub.f k (A ++ w.map (shfN t.length)) 0).bind fun r => some (r, 0) := by
 intro d
 induction d with
 | zero =>
  intro i k hi
  obtain rfl : i = w.length := by omega
  rw [Nat.add_zero, table_Graft.l1, if_neg (by omega), List.take_length]
 | succ d ih =>
  intro i k hi
  have hil : i < w.length := by omega
  have hfm := (fmN_iff _ _).1 (hfw i hil)
  have step := ih (i + 1) k (by omega)
  rw [take_snoc w i z34 hil, List.map_append, List.map_singleton, ← List.append_assoc] at step
  rw [show k + (d + 1) + 1 = (k + d + 1) + 1 by omega, table_Graft.l1, if_pos (by omega), if_pos (by omega), if_pos (by omega), show rd_T34 w (i : Int) = w.getD i z34 from rfl, leaf_f, Option.bind_some]
  have hlen : (A ++ (w.take i).map (shfN t.length)).length < 2932031007402 := by rw [List.length_append, List.length_map, List.length_take]; omega
  rw [Go.IntWalk.wrap64_in _ (by omega)]
  by_cases hlf : (w.getD i z34).f4 = -1 ∧ (w.getD i z34).f5 = -1
  ·rw [if_pos (by simpa using hlf), if_pos hlen]
   rw [shfN, if_pos hlf] at step
   exact step
  ·rw [if_neg (by simpa using hlf), if_pos hlen, Go.IntWalk.wrap64_in _ (by omega), Go.IntWalk.wrap64_in _ (by omega)]
   rw [shfN, if_neg hlf] at step
   exact step
theorem graft_l0 {t w : List S34} (c : Nat) (ht : t.length ≤ 100000) (hw : w.length ≤ 100000) (hft : ∀ i, i < t.length → fmN (t.getD i z34) t.length = true) (hfw : ∀ i, i < w.length → fmN (w.getD i z34) w.length = true) : ∀ (d i k : Nat), i + d = t.length →
  table_Graft.l0 (k + w.length + 1 + d + 1) t c w ((t.take i).map (redN c t.length)) t t.length i = (table_sub.f k (t.map (redN c t.length) ++ w.map (shfN t.length)) 0).bind fun r => some (r, 0) := by
 intro d
 induction d with
 | zero =>
  intro i k hi
  obtain rfl : i = t.length := by omega
  rw [Nat.add_zero, table_Graft.l0, if_neg (by omega), List.take_length]
  have := graft_l1 (t := t) (t.map (redN c t.length)) ht (by rw [List.length_map]; exact ht) hw hfw w.length 0 k (by omega)
  rw [List.take_zero, List.map_nil, List.append_nil] at this
  exact this
 | succ d ih =>
  intro i k hi
  have hil : i < t.length := by omega
  have step := ih (i + 1) k (by omega)
  rw [take_snoc t i z34 hil, List.map_append, List.map_singleton] at step
  rw [show k + w.length + 1 + (d + 1) + 1 = (k + w.length + 1 + d + 1) + 1 by omega, table_Graft.l0, if_pos (by omega), if_pos (by omega), if_pos (by omega), show rd_T34 t (i : Int) = t.getD i z34 from rfl, leaf_f, Option.bind_some]
  have hlen : ((t.take i).map (redN c t.length)).length < 2932031007402 := by rw [List.length_map, List.length_take]; omega
  rw [Go.IntWalk.wrap64_in _ (by omega)]
  by_cases hlf : (t.getD i z34).f4 = -1 ∧ (t.getD i z34).f5 = -1
  ·rw [if_pos (by simpa using hlf), if_pos hlen]
   rw [redN, if_pos hlf] at step
   exact step
  ·rw [if_neg (by simpa using hlf)]
   rw [redN, if_neg hlf] at step
   by_cases h4 : (t.getD i z34).f4 = c
   ·rw [if_pos h4]
    rw [if_pos h4] at step
    by_cases h5 : (t.getD i z34).f5 = c
    ·rw [if_pos h5, if_pos hlen]; rw [if_pos h5] at step; exact step
    ·rw [if_neg h5, if_pos hlen]; rw [if_neg h5] at step; exact step
   ·rw [if_neg h4]
    rw [if_neg h4] at step
    by_cases h5 : (t.getD i z34).f5 = c
    ·rw [if_pos h5, if_pos hlen]; rw [if_pos h5] at step; exact step
    ·rw [if_neg h5, if_pos hlen]; rw [if_neg h5] at step; exact step
theorem all_form {t w : List S34} {c : Nat} (hft : ∀ i, i < t.length → fmN (t.getD i z34) t.length = true) (hfw : ∀ i, i < w.length → fmN (w.getD i z34) w.length = true) (hw0 : 0 < w.length) (ht0 : 0 < t.length) :
  ∀ i, i < (t.map (redN c t.length) ++ w.map (shfN t.length)).length → fmN ((t.map (redN c t.length) ++ w.map (shfN t.length)).getD i z34) (t.map (redN c t.length) ++ w.map (shfN t.length)).length = true := by
 intro i hi
 rw [List.length_append, List.length_map, List.length_map] at hi ⊢
 by_cases hit : i < t.length
 ·have e : (t.map (redN c t.length) ++ w.map (shfN t.length)).getD i z34 = redN c t.length (t.getD i z34) := by
   rw [List.getD, List.getElem?_append_left (by rw [List.length_map]; exact hit)]
   exact getD_map _ t i z34 z34 hit
  have hfm := (fmN_iff _ _).1 (hft i hit)
  rw [e, fmN_iff, redN]
  split
  ·omega
  ·simp only
   split <;> split <;> omega
 ·have hiw : i - t.length < w.length := by omega
  have e : (t.map (redN c t.length) ++ w.map (shfN t.length)).getD i z34 = shfN t.length (w.getD (i - t.length) z34) := by
   rw [List.getD, List.getElem?_append_right (by rw [List.length_map]; omega), List.length_map]
   exact getD_map _ w _ z34 z34 hiw
  have hfm := (fmN_iff _ _).1 (hfw _ hiw)
  rw [e, fmN_iff, shfN]
  split
  ·omega
  ·simp only
   omega
/-- The grafted part, behind the tree. -/
theorem mk_shf {w : List S34} (hfw : ∀ i, i < w.length → fmN (w.getD i z34) w.length = true) (A : List S34) : ∀ (k i : Nat) (M : Tr), mkT w k i = some M → ∃ M', mkT (A ++ w.map (shfN A.length)) k (A.length + i) = some M' ∧ nT M' = nT M ∧ plT M' = (plT M).map (· + (A.length : Int)) := by
 intro k
 induction k with
 | zero => intro i M h; simp [mkT] at h
 | succ k ih =>
  intro i M h
  have hi : i < w.length := by rw [mkT] at h; split at h; assumption; exact absurd h (by simp)
  have e : (A ++ w.map (shfN A.length)).getD (A.length + i) z34 = shfN A.length (w.getD i z34) := by
   rw [List.getD, List.getElem?_append_right (by omega), Nat.add_sub_cancel_left]
   exact getD_map _ w _ z34 z34 hi
  have hil : A.length + i < (A ++ w.map (shfN A.length)).length := by rw [List.length_append, List.length_map]; omega
  have hfm := (fmN_iff _ _).1 (hfw i hi)
  by_cases hl : (w.getD i z34).f4 = -1 ∧ (w.getD i z34).f5 = -1
  ·obtain ⟨_, rfl⟩ := mkT_leaf hfw h hl
   refine ⟨.node (w.getD i z34) ((A.length + i : Nat) : Int) .nil .nil, ?_, rfl, ?_⟩
   ·rw [mkT, if_pos hil, e, shfN, if_pos hl, if_neg (by omega)]
   ·simp only [plT, List.append_nil, List.map_cons, List.map_nil]
    rw [show ((A.length + i : Nat) : Int) = (i : Int) + A.length by omega]
  ·obtain ⟨k', l, r, hk, _, h1, h2, rfl⟩ := mkT_inner hfw h hl
   obtain rfl : k = k' := by omega
   obtain ⟨l', a1, a2, a3⟩ := ih _ l h1
   obtain ⟨r', b1, b2, b3⟩ := ih _ r h2
   refine ⟨.node ⟨(w.getD i z34).f0, (w.getD i z34).f1, (w.getD i z34).f2, (w.getD i z34).f3, (w.getD i z34).f4 + A.length, (w.getD i z34).f5 + A.length⟩ ((A.length + i : Nat) : Int) l' r', ?_, ?_, ?_⟩
   ·rw [mkT, if_pos hil, e, shfN, if_neg hl]
    simp only
    rw [if_pos (by omega), show ((w.getD i z34).f4 + (A.length : Int)).toNat = A.length + (w.getD i z34).f4.toNat by omega, a1, Option.bind_some, show ((w.getD i z34).f5 + (A.length : Int)).toNat = A.length + (w.getD i z34).f5.toNat by omega, b1, Option.bind_some]
   ·rw [nT, nT, a2, b2]
   ·rw [plT, plT, a3, b3, List.map_cons, List.map_append, show ((A.length + i : Nat) : Int) = (i : Int) + A.length by omega]
/-- The tree with its part turned to what stands behind it. -/
theorem mk_red {t B : List S34} (hft : ∀ i, i < t.length → fmN (t.getD i z34) t.length = true) {c kM : Nat} {M' : Tr} (hM : mkT (t.map (redN c t.length) ++ B) kM t.length = some M') : ∀ (k i : Nat) (T : Tr), mkT t k i = some T → ∃ T', mkT (t.map (redN c t.length) ++ B) (k + kM) i = some T' ∧ nT T' = nT (replT c M' T) ∧ plT T' = plT (replT c M' T) := by
 intro k
 induction k with
 | zero => intro i T h; simp [mkT] at h
 | succ k ih =>
  intro i T h
  have hi : i < t.length := by rw [mkT] at h; split at h; assumption; exact absurd h (by simp)
  have e : (t.map (redN c t.length) ++ B).getD i z34 = redN c t.length (t.getD i z34) := by
   rw [List.getD, List.getElem?_append_left (by rw [List.length_map]; exact hi)]
   exact getD_map _ t _ z34 z34 hi
  have hil : i < (t.map (redN c t.length) ++ B).length := by rw [List.length_append, List.length_map]; omega
  have hfm := (fmN_iff _ _).1 (hft i hi)
  by_cases hl : (t.getD i z34).f4 = -1 ∧ (t.getD i z34).f5 = -1
  ·obtain ⟨_, rfl⟩ := mkT_leaf hft h hl
   refine ⟨.node (t.getD i z34) i .nil .nil, ?_, ?_, ?_⟩
   ·rw [show k + 1 + kM = (k + kM) + 1 by omega, mkT, if_pos hil, e, redN, if_pos hl, if_neg (by omega)]
   ·rw [replT, if_neg (plc_nil c)]; rfl
   ·rw [replT, if_neg (plc_nil c)]; rfl
  ·obtain ⟨k', l, r, hk, _, h1, h2, rfl⟩ := mkT_inner hft h hl
   obtain rfl : k = k' := by omega
   have side : ∀ (f : Int) (X : Tr), mkT t k f.toNat = some X → 0 ≤ f → ∃ X', mkT (t.map (redN c t.length) ++ B) (k + kM) (if f = c then (t.length : Int) else f).toNat = some X' ∧ nT X' = nT (if plc X = c then M' else replT c M' X) ∧ plT X' = plT (if plc X = c then M' else replT c M' X) := by
    intro f X hX h0
    have hp := mkT_plc hX
    by_cases hf : f = c
    ·refine ⟨M', ?_, ?_, ?_⟩
     ·rw [if_pos hf, Int.toNat_natCast]; exact mkT_le _ (by omega) hM
     ·rw [if_pos (by rw [hp]; omega)]
     ·rw [if_pos (by rw [hp]; omega)]
    ·obtain ⟨X', a1, a2, a3⟩ := ih _ X hX
     refine ⟨X', ?_, ?_, ?_⟩
     ·rw [if_neg hf]; exact a1
     ·rw [if_neg (by rw [hp]; omega)]; exact a2
     ·rw [if_neg (by rw [hp]; omega)]; exact a3
   obtain ⟨l', a1, a2, a3⟩ := side _ l h1 (by omega)
   obtain ⟨r', b1, b2, b3⟩ := side _ r h2 (by omega)
   refine ⟨.node (redN c t.length (t.getD i z34)) i l' r', ?_, ?_, ?_⟩
   ·rw [show k + 1 + kM = (k + kM) + 1 by omega, mkT, if_pos hil, e]
    have hr4 : (redN c t.length (t.getD i z34)).f4 = if (t.getD i z34).f4 = c then (t.length : Int) else (t.getD i z34).f4 := by rw [redN, if_neg hl]
    have hr5 : (redN c t.length (t.getD i z34)).f5 = if (t.getD i z34).f5 = c then (t.length : Int) else (t.getD i z34).f5 := by rw [redN, if_neg hl]
    rw [hr4, hr5, if_pos (by split <;> omega), a1, Option.bind_some, b1, Option.bind_some]
   ·rw [replT, nT, nT, a2, b2, redN, if_neg hl]
   ·rw [replT, plT, plT, a3, b3]
theorem new_pl {c : Nat} {M : Tr} (hM : (plT M).Nodup) : ∀ {T : Tr}, (plT T).Nodup → (∀ p ∈ plT T, p ∉ plT M) → (plT (newX c M T)).Nodup ∧ (∀ p ∈ plT (newX c M T), p ∈ plT T ∨ p ∈ plT M)
 | .nil, _, _ => by
  have : newX c M .nil = .nil := new_no (by simp [plT])
  rw [this]
  exact ⟨List.nodup_nil, fun p hp => absurd hp (by simp [plT])⟩
 | .node n p l r, hn, hd => by
  by_cases hp : p = c
  ·rw [newX, plc, if_pos hp]
   exact ⟨hM, fun q hq => .inr hq⟩
  ·rw [newX, plc, if_neg hp, repl_new]
   simp only [plT, List.nodup_cons, List.mem_append, List.mem_cons] at hn hd ⊢
   have hl := new_pl (c := c) hM (nodup_app_l hn.2) (fun q hq => hd q (.inr (.inl hq)))
   have hr := new_pl (c := c) hM (nodup_app_r hn.2) (fun q hq => hd q (.inr (.inr hq)))
   have hdis := (List.nodup_append.1 hn.2).2.2
   have hpM : p ∉ plT M := hd p (.inl rfl)
   by_cases hcl : (c : Int) ∈ plT l
   ·have hcr : (c : Int) ∉ plT r := fun e => hdis _ hcl _ e rfl
    rw [new_no hcr] at hr ⊢
    refine ⟨⟨?_, List.nodup_append.2 ⟨hl.1, hr.1, ?_⟩⟩, ?_⟩
    ·rintro (h | h)
     ·rcases hl.2 _ h with h | h
      ·exact hn.1 (.inl h)
      ·exact hpM h
     ·exact hn.1 (.inr h)
    ·intro a ha b hb e
     subst e
     rcases hl.2 _ ha with h | h
     ·exact hdis _ h _ hb rfl
     ·exact hd a (.inr (.inr hb)) h
    ·rintro q (h | h | h)
     ·exact .inl (.inl h)
     ·rcases hl.2 _ h with h | h
      ·exact .inl (.inr (.inl h))
      ·exact .inr h
     ·exact .inl (.inr (.inr h))
   ·rw [new_no hcl] at hl ⊢
    refine ⟨⟨?_, List.nodup_append.2 ⟨hl.1, hr.1, ?_⟩⟩, ?_⟩
    ·rintro (h | h)
     ·exact hn.1 (.inl h)
     ·rcases hr.2 _ h with h | h
      ·exact hn.1 (.inr h)
      ·exact hpM h
    ·intro a ha b hb e
     subst e
     rcases hr.2 _ hb with h | h
     ·exact hdis _ ha _ h rfl
     ·exact hd a (.inr (.inl ha)) h
    ·rintro q (h | h | h)
     ·exact .inl (.inl h)
     ·exact .inl (.inr (.inl h))
     ·rcases hr.2 _ h with h | h
      ·exact .inl (.inr (.inr h))
      ·exact .inr h
theorem nT_new {c : Nat} {M M' : Tr} (h : nT M' = nT M) : ∀ T : Tr, nT (newX c M' T) = nT (newX c M T)
 | .nil => by rw [new_no (by simp [plT]), new_no (by simp [plT])]
 | .node n p l r => by
  by_cases hp : p = c
  ·rw [newX, newX, plc, if_pos hp, if_pos hp, h]
  ·rw [newX, newX, plc, if_neg hp, if_neg hp, repl_new, repl_new, nT, nT, nT_new h l, nT_new h r]
end Go.Proofs.Ytgleaefhflamnaa.T
namespace Go.Proofs.Ytgleaefhflamnaa.T
open Go.RowKit Go.Proofs.YtgleaefhflamnaaW.PrintWords Go.Proofs.YtgleaefhflamnaaW.PrintLast Go.Proofs.YtgleaefhflamnaaW.PrintMore
theorem good_ok {t : List S34} {T : Tr} (h : Good t T) : Ok T := ok_mkT h.form h.tree
theorem good_plc {t : List S34} {T : Tr} (h : Good t T) : plc T = 0 := mkT_plc h.tree
theorem good_size {t : List S34} {T : Tr} (h : Good t T) : sizeT T = t.length := by rw [size_pl, h.all]
theorem all_sub {t w : List S34} {T M : Tr} (hg : Good t T) (hw : Good w M) {c : Nat} (hc0 : c ≠ 0) : ∃ k, table_sub.f k (t.map (redN c t.length) ++ w.map (shfN t.length)) 0 = some (flatT (replT c M T) 0) := by
 have hfm := all_form (c := c) hg.form hw.form hw.pos hg.pos
 obtain ⟨M', m1, m2, m3⟩ := mk_shf hw.form (t.map (redN c t.length)) _ 0 M hw.tree
 simp only [List.length_map, Nat.add_zero] at m1 m3
 obtain ⟨T', t1, t2, t3⟩ := mk_red (c := c) hg.form m1 _ 0 T hg.tree
 have hTn : newX c M' T = replT c M' T := by rw [newX, good_plc hg, if_neg (by omega)]
 have hTn' : newX c M T = replT c M T := by rw [newX, good_plc hg, if_neg (by omega)]
 have hMn : (plT M').Nodup := by
  rw [m3]
  exact List.Pairwise.map _ (fun a b hab => by omega) hw.nodup
 have hd : ∀ p ∈ plT T, p ∉ plT M' := by
  intro p hp hq
  have h1 := (plT_mem _ _ _ hg.tree).2 p hp
  rw [m3, List.mem_map] at hq
  obtain ⟨q, hq, rfl⟩ := hq
  have h2 := (plT_mem _ _ _ hw.tree).2 q hq
  omega
 have hnd := (new_pl (c := c) hMn hg.nodup hd)
 have hlen := hg.len
 have hlenw := hw.len
 have hsz : (plT T').length ≤ 1000000 := by
  have hle : (plT T').length ≤ (t.map (redN c t.length) ++ w.map (shfN t.length)).length := by
   have hmem := (plT_mem _ _ _ t1).2
   have hnd' : (plT T').Nodup := by rw [t3, ← hTn]; exact hnd.1
   have : ((plT T').map Int.toNat).Nodup := by
    refine List.pairwise_map.2 (List.Pairwise.imp_of_mem ?_ hnd')
    intro a b ha hb hne e
    have := hmem a ha
    have := hmem b hb
    exact hne (by omega)
   have hsub : (plT T').map Int.toNat ⊆ List.range (t.map (redN c t.length) ++ w.map (shfN t.length)).length := by
    intro x hx
    rw [List.mem_map] at hx
    obtain ⟨a, ha, rfl⟩ := hx
    have := hmem a ha
    rw [List.mem_range]
    omega
   have := List.Nodup.length_le_of_subset this hsub
   rwa [List.length_map, List.length_range] at this
  rw [List.length_append, List.length_map, List.length_map] at hle
  omega
 obtain ⟨k, hk⟩ := sub_tree2 (t := t.map (redN c t.length) ++ w.map (shfN t.length)) (a := 0) (by rw [List.length_append, List.length_map, List.length_map]; omega) hfm (by omega) t1 (by rw [t3, ← hTn]; exact hnd.1) hsz
 refine ⟨k, ?_⟩
 rw [hk, flat_shape (ok_mkT hfm t1) (repl_ok (good_ok hw) (good_ok hg)) ?_ 0]
 rw [t2, ← hTn, nT_new m2, hTn']
theorem graft_tree {t w : List S34} {T M X : Tr} (hg : Good t T) (hw : Good w M) {c : Nat} (hc0 : c ≠ 0) (hct : c < t.length) (hX : mkT t t.length c = some X) (hXn : (plT X).Nodup) (hXl : (plT X).length ≤ t.length) (hs : t.length + w.length ≤ 100000 + (plT X).length) :
  ∃ k, table_Graft.f k t c w = some (flatT (replT c M T) 0, 0) := by
 obtain ⟨k0, h0⟩ := all_sub hg hw hc0
 obtain ⟨k1, h1⟩ := check_good hg
 obtain ⟨k2, h2⟩ := check_good hw
 have hlen := hg.len
 have hlenw := hw.len
 have hq : max k0 (max k1 k2) ≤ max k0 (max k1 k2) := Nat.le_refl _
 have e0 := up_to (fun k => table_sub.mono _ 0 k) (Nat.le_max_left k0 (max k1 k2)) h0
 refine ⟨max k0 (max k1 k2) + w.length + 1 + t.length + 1 + 1, ?_⟩
 unfold table_Graft.f table_both.f
 rw [up_to (fun k => table_Check.mono _ k) (by omega : k1 ≤ _) h1, Option.bind_some, if_pos rfl, up_to (fun k => table_Check.mono _ k) (by omega : k2 ≤ _) h2, Option.bind_some, Option.bind_some, if_pos rfl, if_neg (by omega), show decide ((c : Int) ≥ (t.length : Int)) = false by simp; omega]
 rw [table_Graft.j0, if_neg (by simp), order_f_tree (a := (c : Int)) hg.len (formT_of hg.form) (by omega) hX hXn (by omega) _ (by omega), Option.bind_some]
 rw [Go.IntWalk.wrap64_in ((t.length : Int) - ((plT X).length : Int)) (by omega), Go.IntWalk.wrap64_in _ (by omega), if_neg (by omega), if_neg (by omega), Go.IntWalk.wrap64_in _ (by omega), if_pos (by omega), if_pos (by omega)]
 have := graft_l0 (t := t) (w := w) c hlen hlenw hg.form hw.form t.length 0 (max k0 (max k1 k2)) (by omega)
 rw [List.take_zero, List.map_nil] at this
 rw [show ((0 : Nat) : Int) = 0 from rfl] at this
 rw [this, e0, Option.bind_some]
end Go.Proofs.Ytgleaefhflamnaa.T
namespace Go.Proofs.Ytgleaefhflamnaa.T
open Go.RowKit Go.Proofs.YtgleaefhflamnaaW.PrintWords Go.Proofs.YtgleaefhflamnaaW.PrintLast Go.Proofs.YtgleaefhflamnaaW.PrintMore
def swpN (n : S34) : S34 := ⟨n.f0, n.f1, n.f2, n.f3, n.f5, n.f4⟩
theorem mirror_l0 {t : List S34} (ht : t.length ≤ 100000) : ∀ (d i k : Nat), i + d = t.length →
  table_Mirror.l0 (k + d + 1) ((t.take i).map swpN) t t.length i = (table_sub.f k (t.map swpN) 0).bind fun r => some (r, 0) := by
 intro d
 induction d with
 | zero =>
  intro i k hi
  obtain rfl : i = t.length := by omega
  rw [Nat.add_zero, table_Mirror.l0, if_neg (by omega), List.take_length]
 | succ d ih =>
  intro i k hi
  have hil : i < t.length := by omega
  have step := ih (i + 1) k (by omega)
  rw [take_snoc t i z34 hil, List.map_append, List.map_singleton] at step
  rw [show k + (d + 1) + 1 = (k + d + 1) + 1 by omega, table_Mirror.l0, if_pos (by omega), if_pos (by omega), if_pos (by omega), show rd_T34 t (i : Int) = t.getD i z34 from rfl, if_pos (by rw [List.length_map, List.length_take]; omega), Go.IntWalk.wrap64_in _ (by omega)]
  exact step
theorem mk_swp {t : List S34} (hft : ∀ i, i < t.length → fmN (t.getD i z34) t.length = true) : ∀ (k i : Nat) (T : Tr), mkT t k i = some T → ∃ T', mkT (t.map swpN) k i = some T' ∧ nT T' = nT (mirT T) ∧ plT T' = plT (mirT T) := by
 intro k
 induction k with
 | zero => intro i T h; simp [mkT] at h
 | succ k ih =>
  intro i T h
  have hi : i < t.length := by rw [mkT] at h; split at h; assumption; exact absurd h (by simp)
  have e : (t.map swpN).getD i z34 = swpN (t.getD i z34) := getD_map _ t _ z34 z34 hi
  have hil : i < (t.map swpN).length := by rw [List.length_map]; exact hi
  have hfm := (fmN_iff _ _).1 (hft i hi)
  by_cases hl : (t.getD i z34).f4 = -1 ∧ (t.getD i z34).f5 = -1
  ·obtain ⟨_, rfl⟩ := mkT_leaf hft h hl
   refine ⟨.node (swpN (t.getD i z34)) i .nil .nil, ?_, rfl, rfl⟩
   rw [mkT, if_pos hil, e, swpN, if_neg (by simp only; omega)]
  ·obtain ⟨k', l, r, hk, _, h1, h2, rfl⟩ := mkT_inner hft h hl
   obtain rfl : k = k' := by omega
   obtain ⟨l', a1, a2, a3⟩ := ih _ l h1
   obtain ⟨r', b1, b2, b3⟩ := ih _ r h2
   refine ⟨.node (swpN (t.getD i z34)) i r' l', ?_, ?_, ?_⟩
   ·rw [mkT, if_pos hil, e, swpN]
    simp only
    rw [if_pos (by omega), b1, Option.bind_some, a1, Option.bind_some]
   ·rw [mirT, nT, nT, a2, b2]; rfl
   ·rw [mirT, plT, plT, a3, b3]
theorem mir_perm : ∀ T : Tr, (plT (mirT T)).Perm (plT T)
 | .nil => List.Perm.refl _
 | .node n p l r => by
  rw [mirT, plT, plT]
  exact List.Perm.cons _ (((mir_perm r).append (mir_perm l)).trans List.perm_append_comm)
theorem mirror_tree {t : List S34} {T : Tr} (hg : Good t T) : ∃ k, table_Mirror.f k t = some (flatT (mirT T) 0, 0) := by
 have hlen := hg.len
 obtain ⟨T', m1, m2, m3⟩ := mk_swp hg.form _ 0 T hg.tree
 have hfm : ∀ i, i < (t.map swpN).length → fmN ((t.map swpN).getD i z34) (t.map swpN).length = true := by
  intro i hi
  rw [List.length_map] at hi ⊢
  have hfm := (fmN_iff _ _).1 (hg.form i hi)
  rw [getD_map _ t _ z34 z34 hi, fmN_iff, swpN]
  simp only
  omega
 have hnd : (plT T').Nodup := by rw [m3]; exact (mir_perm T).nodup_iff.2 hg.nodup
 have hl : (plT T').length = t.length := by rw [m3, (mir_perm T).length_eq, hg.all]
 obtain ⟨k, hk⟩ := sub_tree (t := t.map swpN) (a := 0) (by rw [List.length_map]; omega) hfm (by omega) m1 hnd (by omega)
 obtain ⟨k1, h1⟩ := check_good hg
 have e0 := up_to (fun k => table_sub.mono _ 0 k) (Nat.le_max_left k k1) hk
 refine ⟨max k k1 + t.length + 1, ?_⟩
 unfold table_Mirror.f
 rw [up_to (fun k => table_Check.mono _ k) (by omega : k1 ≤ _) h1, Option.bind_some, if_pos rfl, if_pos (by omega), if_pos (by omega)]
 have := mirror_l0 (t := t) hlen t.length 0 (max k k1) (by omega)
 rw [List.take_zero, List.map_nil] at this
 rw [show ((0 : Nat) : Int) = 0 from rfl] at this
 rw [this, e0, Option.bind_some, flat_shape (ok_mkT hfm m1) (ok_m (good_ok hg)) m2]
theorem Sub_tree {t : List S34} {T X : Tr} (hg : Good t T) {c : Nat} (hct : c < t.length) (hX : mkT t t.length c = some X) (hXn : (plT X).Nodup) (hXl : (plT X).length ≤ t.length) : ∃ k, table_Sub.f k t c = some (flatT X 0, 0) := by
 have hlen := hg.len
 obtain ⟨k1, h1⟩ := check_good hg
 obtain ⟨k, hk⟩ := sub_tree (t := t) (a := (c : Int)) hlen hg.form (by omega) hX hXn (by omega)
 refine ⟨max k k1, ?_⟩
 unfold table_Sub.f
 rw [up_to (fun k => table_Check.mono _ k) (by omega : k1 ≤ _) h1, Option.bind_some, if_pos rfl, if_neg (by omega), if_neg (by omega), up_to (fun k => table_sub.mono _ _ k) (by omega : k ≤ _) hk, Option.bind_some]
/-- The tree of the keys mirrored. -/
theorem flipped_tree {t : List S34} {T X0 : Tr} (hg : Good t T) (hX : Crown T X0) {c0 : Nat} (hc0 : plc X0 = c0) : ∃ k, larchlaw18_flipped.f k t c0 = some (flatT (replT c0 (mirT X0) T) 0, true) := by
 obtain ⟨c', h0, hcl, hm, hn, hl⟩ := crown_tree hg hX
 obtain rfl : c0 = c' := by omega
 have hlen := hg.len
 have hok : Ok X0 := ok_mkT hg.form hm
 have hsz := size_pl X0
 have hgX : Good (flatT X0 0) (renT X0 0) := flat_good hok (by omega)
 have hokm := ok_m hok
 have hsm := size_m X0
 have hgM : Good (flatT (mirT X0) 0) (renT (mirT X0) 0) := flat_good hokm (by omega)
 have hlM : (flatT (mirT X0) 0).length = sizeT X0 := by rw [flT_len hokm, hsm]
 have hc1 : c0 ≠ 0 := by
  rintro rfl
  have ht := hg.tree
  rw [hm] at ht
  obtain rfl := Option.some.inj ht
  obtain ⟨n0, n1, p1, q1, q0, e, _⟩ := hX
  have := congrArg sizeT e
  simp only [sizeT] at this
  omega
 obtain ⟨k1, h1⟩ := Sub_tree hg hcl hm hn (by omega)
 obtain ⟨k2, h2⟩ := mirror_tree hgX
 have eM : flatT (mirT (renT X0 0)) 0 = flatT (mirT X0) 0 := flat_shape (ok_m (good_ok hgX)) hokm (by rw [nT_m, nT_m, nT_ren hok]) 0
 rw [eM] at h2
 obtain ⟨k3, h3⟩ := graft_tree hg hgM hc1 hcl hm hn (by omega) (by omega)
 have eG : flatT (replT c0 (renT (mirT X0) 0) T) 0 = flatT (replT c0 (mirT X0) T) 0 := by
  refine flat_shape (repl_ok (good_ok hgM) (good_ok hg)) (repl_ok hokm (good_ok hg)) ?_ 0
  have hT : ∀ M, newX c0 M T = replT c0 M T := fun M => by rw [newX, good_plc hg, if_neg (by omega)]
  rw [← hT, ← hT, nT_new (nT_ren hokm 0)]
 rw [eG] at h3
 refine ⟨max k1 (max k2 k3), ?_⟩
 unfold larchlaw18_flipped.f
 rw [up_to (fun k => table_Sub.mono _ _ k) (by omega : k1 ≤ _) h1, Option.bind_some, up_to (fun k => table_Mirror.mono _ k) (by omega : k2 ≤ _) h2, Option.bind_some, up_to (fun k => table_Graft.mono _ _ _ k) (by omega : k3 ≤ _) h3, Option.bind_some, if_pos rfl, if_pos rfl]
 rfl
end Go.Proofs.Ytgleaefhflamnaa.T
namespace Go.Proofs.Ytgleaefhflamnaa.T
open Go.RowKit Go.Proofs.YtgleaefhflamnaaW.PrintWords Go.Proofs.YtgleaefhflamnaaW.PrintLast Go.Proofs.YtgleaefhflamnaaW.PrintMore
theorem good_one {t : List S34} {T T' : Tr} (h : Good t T) (h' : Good t T') : T = T' := Option.some.inj (h.tree.symm.trans h'.tree)
theorem crown_one {T X X' : Tr} (h : Crown T X) (h' : Crown T X') : X = X' := by
 obtain ⟨n0, n1, p1, q1, q0, e, _⟩ := h
 obtain ⟨m0, m1, r1, s1, s0, e', _⟩ := h'
 rw [e] at e'
 injection e' with _ _ e1 _
 injection e1
theorem keys_err : ∀ (k : Nat) (t : List S34) (r : Int) (met : List Bool) (st : List Int) (q : Int × List Bool × Int), steps_keys.l0 k t r met st = some q → q.2.2 = 0 := by
 intro k
 induction k with
 | zero => intro t r met st q h; simp [steps_keys.l0] at h
 | succ k ih =>
  intro t r met st q h
  rw [steps_keys.l0] at h
  simp only [Option.bind_some] at h
  split at h
  ·repeat' split at h
   all_goals first | exact ih _ _ _ _ _ h | cases h
  ·cases h; rfl
/-- What a move that can be done gives. -/
theorem do_canon {t : List S34} {T X0 X : Tr} (hg : Good t T) (hX0 : Crown T X0) {c : Nat} (hin : (c : Int) ∈ plT X0) (hX : mkT t t.length c = some X) {kind : Int} {mir : Bool} (hmv : steps_Move_is.f kind mir = some true) {rt : Bool} (hrt : ((c : Int) == plc X0) = rt)
  (hcan : canT mir rt X kind = true) (hw : rt = false → ¬ 1000000 < wt (doT mir X kind)) :
  ∃ k, steps_Do.f k t c kind mir = some (flatT (replT c (if rt = true then setW (doT mir X kind) 1 else doT mir X kind) T) 0, 0) := by
 obtain ⟨kr, hroot⟩ := root_at hg hX0
 obtain ⟨k, q1, q2, q3, hk, hq⟩ := keys_total t
 have h3 : q3 = 0 := by
  have hk' := hk
  unfold steps_keys.f at hk'
  obtain ⟨bt, hb, hk'⟩ := Option.bind_eq_some_iff.1 hk'
  have e1 := up_to (fun k => table_Root.mono t k) (Nat.le_max_left k kr) hb
  have e2 := up_to (fun k => table_Root.mono t k) (Nat.le_max_right k kr) hroot
  rw [e1] at e2
  obtain rfl := Option.some.inj e2
  obtain ⟨c0, hc0, hcl, hm0, hn0, hl0⟩ := crown_tree hg hX0
  have hlen := hg.len
  rw [if_pos rfl, if_pos (by omega), if_pos (by omega)] at hk'
  exact keys_err k t (plc X0) _ _ (q1, q2, q3) hk'
 obtain ⟨T', X0', hg', hX0', hp, hl, hmem⟩ := hq h3
 obtain rfl := good_one hg hg'
 obtain rfl := crown_one hX0 hX0'
 refine ⟨k, ?_⟩
 have hok : Ok X := ok_mkT hg.form hX
 have hokT : Ok T := ok_mkT hg.form hg.tree
 have hkd := move_kind hmv
 have hlen := hg.len
 have hsz : sizeT T = t.length := by rw [size_pl, hg.all]
 have hct : c < t.length := by
  obtain ⟨c0, _, _, hm0, _, _⟩ := crown_tree hg hX0
  have := (plT_mem _ _ _ hm0).2 _ hin
  omega
 unfold steps_Do.f
 rw [hk, Option.bind_some]
 simp only
 rw [if_pos h3, hmv, Option.bind_some, if_pos rfl, if_neg (by omega), if_pos (by omega), if_pos (show rdOf false q2 (c : Int) = true from (hmem c hct).2 hin), Int.toNat_natCast]
 unfold doGood
 rw [if_pos (okB_good hg), hX, Option.bind_some, ← hp, hrt, if_pos hcan]
 have fin : ∀ R, Gives rt X R → (mkR t c R t.length 0).bind outT = some (flatT (replT c R T) 0, 0) := by
  intro R hR
  have h1 := mkR_eq t c R _ _ _ hg.tree
  have h2 : Ok (replT c R T) := repl_ok hR.ok hokT
  have h3 : sizeT (replT c R T) = t.length := by rw [repl_size hX hR.size _ _ _ hg.tree, hsz]
  rw [h1, Option.bind_some, outT, if_pos (fullB_ok h2), if_pos (by omega)]
 cases rt with
 | true =>
  rw [if_pos rfl, if_pos rfl]
  exact fin _ (gives_root mir hkd hok hcan)
 | false =>
  rw [if_neg (by simp), if_neg (hw rfl), if_neg (by simp)]
  exact fin _ (gives_plain mir hkd hok hcan (hw rfl))
end Go.Proofs.Ytgleaefhflamnaa.T
namespace Go.Proofs.Ytgleaefhflamnaa.T
open Go.RowKit Go.Proofs.YtgleaefhflamnaaW.PrintWords Go.Proofs.YtgleaefhflamnaaW.PrintLast Go.Proofs.YtgleaefhflamnaaW.PrintMore
/-- Each node's weight is what g says of its place. -/
def Wg (g : Int → Int) : Tr → Prop
 | .nil => True
 | .node n p l r => n.f2 = g p ∧ Wg g l ∧ Wg g r
theorem mk_wg {t : List S34} (hf : ∀ i, i < t.length → fmN (t.getD i z34) t.length = true) : ∀ (k i : Nat) (T : Tr), mkT t k i = some T → Wg (fun p => (t.getD p.toNat z34).f2) T := by
 intro k
 induction k with
 | zero => intro i T h; simp [mkT] at h
 | succ k ih =>
  intro i T h
  by_cases hl : (t.getD i z34).f4 = -1 ∧ (t.getD i z34).f5 = -1
  ·obtain ⟨_, rfl⟩ := mkT_leaf hf h hl
   exact ⟨by simp only [Int.toNat_natCast], trivial, trivial⟩
  ·obtain ⟨k', l, r, hk, _, h1, h2, rfl⟩ := mkT_inner hf h hl
   obtain rfl : k = k' := by omega
   exact ⟨by simp only [Int.toNat_natCast], ih _ _ h1, ih _ _ h2⟩
theorem wg_m {g : Int → Int} : ∀ {T : Tr}, Wg g T → Wg g (mirT T)
 | .nil, _ => trivial
 | .node _ _ _ _, ⟨h1, h2, h3⟩ => ⟨h1, wg_m h3, wg_m h2⟩
theorem wg_repl {g : Int → Int} {c : Nat} {M : Tr} (hM : Wg g M) : ∀ {T : Tr}, Wg g T → Wg g (replT c M T)
 | .nil, _ => trivial
 | .node n p l r, ⟨h1, h2, h3⟩ => by
  refine ⟨h1, ?_, ?_⟩
  ·split
   ·exact hM
   ·exact wg_repl hM h2
  ·split
   ·exact hM
   ·exact wg_repl hM h3
theorem flat_wg {g : Int → Int} : ∀ {T : Tr}, Ok T → Wg g T → ∀ (a j : Nat), j < sizeT T → ((flatT T a).getD j z34).f2 = g ((plT T).getD j 0)
 | .nil, h, _, _, _, _ => h.elim
 | .node n p l r, h, hw, a, j, hj => by
  by_cases hl : l = .nil
  ·subst hl
   have k := ok_leaf h
   rw [k.1] at hj ⊢
   simp only [sizeT] at hj
   obtain rfl : j = 0 := by omega
   rw [flT_leaf]
   exact hw.1
  ·have k := ok_inner h hl
   have sl := size_pl l
   have fl := flT_len k.1 (a + 1)
   rw [sizeT] at hj
   rw [flT_inner _ _ _ _ hl, plT]
   cases j with
   | zero => exact hw.1
   | succ j =>
    rw [List.getD_cons_succ, List.getD_cons_succ]
    by_cases hlt : j < sizeT l
    ·have := flat_wg k.1 hw.2.1 (a + 1) j hlt
     rw [List.getD, List.getElem?_append_left (by omega), List.getD, List.getElem?_append_left (by omega)]
     exact this
    ·have := flat_wg k.2 hw.2.2 (a + 1 + sizeT l) (j - sizeT l) (by omega)
     rw [List.getD, List.getElem?_append_right (by omega), List.getD, List.getElem?_append_right (by omega), fl, ← sl]
     exact this
def mkN (n : S34) : S34 := ⟨n.f0, n.f1, 1000000, n.f3, n.f4, n.f5⟩
def wcT (c : Nat) : Tr → Tr
 | .nil => .nil
 | .node n p l r => .node (if p = c then mkN n else n) p (wcT c l) (wcT c r)
theorem pl_wc (c : Nat) : ∀ T : Tr, plT (wcT c T) = plT T
 | .nil => rfl
 | .node n p l r => by rw [wcT, plT, plT, pl_wc c l, pl_wc c r]
theorem plc_wc (c : Nat) (T : Tr) : plc (wcT c T) = plc T := by cases T <;> rfl
theorem wc_m (c : Nat) : ∀ T : Tr, wcT c (mirT T) = mirT (wcT c T)
 | .nil => rfl
 | .node n p l r => by rw [mirT, wcT, wcT, mirT, wc_m c l, wc_m c r]
theorem wc_repl (c d : Nat) (M : Tr) : ∀ T : Tr, wcT c (replT d M T) = replT d (wcT c M) (wcT c T)
 | .nil => rfl
 | .node n p l r => by
  rw [replT, wcT, wcT, replT, plc_wc, plc_wc, apply_ite (wcT c), apply_ite (wcT c), wc_repl c d M l, wc_repl c d M r]
theorem wg_wc {g : Int → Int} {c : Nat} : ∀ {T : Tr}, Wg g T → Wg (fun p => if p = (c : Int) then 1000000 else g p) (wcT c T)
 | .nil, _ => trivial
 | .node n p l r, ⟨h1, h2, h3⟩ => by
  refine ⟨?_, wg_wc h2, wg_wc h3⟩
  simp only
  split
  ·rfl
  ·exact h1
theorem mk_mark {t : List S34} {c : Nat} : ∀ (k i : Nat) (T : Tr), mkT t k i = some T → mkT (t.set c (mkN (t.getD c z34))) k i = some (wcT c T) := by
 intro k
 induction k with
 | zero => intro i T h; simp [mkT] at h
 | succ k ih =>
  intro i T h
  have hi : i < t.length := by rw [mkT] at h; split at h; assumption; exact absurd h (by simp)
  have e : (t.set c (mkN (t.getD c z34))).getD i z34 = if (i : Int) = c then mkN (t.getD i z34) else t.getD i z34 := by
   by_cases hic : i = c
   ·subst hic; rw [if_pos rfl, getD_set_eq _ _ _ hi]
   ·rw [if_neg (by omega), getD_set_ne _ _ _ (fun e => hic e.symm)]
  have e4 : ((t.set c (mkN (t.getD c z34))).getD i z34).f4 = (t.getD i z34).f4 := by rw [e]; split <;> rfl
  have e5 : ((t.set c (mkN (t.getD c z34))).getD i z34).f5 = (t.getD i z34).f5 := by rw [e]; split <;> rfl
  rw [mkT, if_pos hi] at h
  rw [mkT, List.length_set, if_pos hi, e4, e5]
  split at h
  ·rename_i h4
   obtain ⟨l, hl, h⟩ := Option.bind_eq_some_iff.1 h
   obtain ⟨r, hr, h⟩ := Option.bind_eq_some_iff.1 h
   obtain rfl := Option.some.inj h
   rw [if_pos h4, ih _ _ hl, Option.bind_some, ih _ _ hr, Option.bind_some, e, wcT]
  ·rename_i h4
   obtain rfl := Option.some.inj h
   rw [if_neg h4, e]
   rfl
theorem good_mark {t : List S34} {T : Tr} (hg : Good t T) (c : Nat) : Good (t.set c (mkN (t.getD c z34))) (wcT c T) := by
 refine ⟨by rw [List.length_set]; exact hg.len, ?_, by rw [List.length_set]; exact mk_mark _ _ _ hg.tree, by rw [pl_wc]; exact hg.nodup, by rw [pl_wc, List.length_set]; exact hg.all⟩
 intro i hi
 rw [List.length_set] at hi ⊢
 have hfm := (fmN_iff _ _).1 (hg.form i hi)
 by_cases hic : i = c
 ·subst hic
  rw [getD_set_eq _ _ _ hi, fmN_iff, mkN]
  simp only
  omega
 ·rw [getD_set_ne _ _ _ (fun e => hic e.symm), fmN_iff]
  exact hfm
theorem all_wc {c : Nat} : ∀ {T : Tr}, allT (fun n => n.f1 = 0) T → allT (fun n => n.f1 = 0) (wcT c T)
 | .nil, h => h
 | .node n p l r, ⟨h1, h2, h3⟩ => ⟨by split <;> exact h1, all_wc h2, all_wc h3⟩
theorem crown_wc {T X0 : Tr} (h : Crown T X0) (hn : (plT T).Nodup) {c : Nat} (hc : (c : Int) ∈ plT X0) : Crown (wcT c T) (wcT c X0) := by
 obtain ⟨n0, n1, p1, q1, q0, rfl, c1, c2, c3, c4, c5, hXn⟩ := h
 simp only [plT, List.cons_append, List.nodup_cons, List.mem_cons, List.mem_append, not_or, List.append_assoc, List.nil_append] at hn
 have h0 : ¬ (0 : Int) = (c : Int) := fun e => hn.1.2.1 (e ▸ hc)
 have h1 : ¬ p1 = (c : Int) := fun e => hn.2.1.1 (e ▸ hc)
 have hd := (List.nodup_append.1 hn.2.2).2.2
 have h2 : ¬ q1 = (c : Int) := fun e => hd _ hc q1 (by simp) e.symm
 have h3 : ¬ q0 = (c : Int) := fun e => hd _ hc q0 (by simp) e.symm
 refine ⟨n0, n1, p1, q1, q0, ?_, c1, c2, c3, c4, all_wc c5, fun e => hXn ?_⟩
 ·simp only [wcT, if_neg h0, if_neg h1, if_neg h2, if_neg h3]
 ·cases X0 with
  | nil => rfl
  | node => simp [wcT] at e
theorem getD_idx {l : List Int} (hn : l.Nodup) {j j0 : Nat} (hj : j < l.length) (hj0 : j0 < l.length) (h : j ≠ j0) : l.getD j 0 ≠ l.getD j0 0 := by
 rw [List.getD, List.getElem?_eq_getElem hj, Option.getD_some, List.getD, List.getElem?_eq_getElem hj0, Option.getD_some]
 intro e
 rcases Nat.lt_trichotomy j j0 with hlt | heq | hgt
 ·exact List.pairwise_iff_getElem.1 hn j j0 hj hj0 hlt e
 ·exact h heq
 ·exact List.pairwise_iff_getElem.1 hn j0 j hj0 hj hgt e.symm
end Go.Proofs.Ytgleaefhflamnaa.T
namespace Go.Proofs.Ytgleaefhflamnaa.T
open Go.RowKit Go.Proofs.YtgleaefhflamnaaW.PrintWords Go.Proofs.YtgleaefhflamnaaW.PrintLast Go.Proofs.YtgleaefhflamnaaW.PrintMore
/-- The tree with its tree of the keys mirrored, written out. -/
theorem mir_crown {T X0 : Tr} (h : Crown T X0) (hn : (plT T).Nodup) {c0 : Nat} (hc : plc X0 = c0) (M : Tr) : ∃ n0 n1 p1 q1 q0, T = .node n0 0 (.node n1 p1 X0 (.node sn34 q1 .nil .nil)) (.node sn34 q0 .nil .nil) ∧
  replT c0 M T = .node n0 0 (.node n1 p1 M (.node sn34 q1 .nil .nil)) (.node sn34 q0 .nil .nil) := by
 obtain ⟨n0, n1, p1, q1, q0, rfl, c1, c2, c3, c4, c5, hXn⟩ := h
 have hc0 : (c0 : Int) ∈ plT X0 := by
  cases X0 with
  | nil => exact absurd rfl hXn
  | node n p l r => rw [plc] at hc; rw [plT, hc]; exact List.mem_cons_self
 simp only [plT, List.cons_append, List.nodup_cons, List.mem_cons, List.mem_append, not_or, List.append_assoc, List.nil_append] at hn
 have h1 : ¬ p1 = (c0 : Int) := fun e => hn.2.1.1 (e ▸ hc0)
 have hd := (List.nodup_append.1 hn.2.2).2.2
 have h2 : ¬ q1 = (c0 : Int) := fun e => hd _ hc0 q1 (by simp) e.symm
 have h3 : ¬ q0 = (c0 : Int) := fun e => hd _ hc0 q0 (by simp) e.symm
 refine ⟨n0, n1, p1, q1, q0, rfl, ?_⟩
 have s1 : ∀ q : Int, ¬ q = (c0 : Int) → newX c0 M (.node sn34 q .nil .nil) = .node sn34 q .nil .nil := fun q hq => new_no (by simp only [plT, List.append_nil, List.mem_singleton]; exact fun e => hq e.symm)
 have s2 : newX c0 M (.node n1 p1 X0 (.node sn34 q1 .nil .nil)) = .node n1 p1 M (.node sn34 q1 .nil .nil) := by
  rw [newX, plc, if_neg h1, repl_new, s1 q1 h2, newX, if_pos hc]
 rw [repl_new, s2, s1 q0 h3]
structure Flip (t : List S34) (T X0 : Tr) (c0 : Nat) (W : Tr) : Prop where
 at0 : plc X0 = c0
 isW : W = replT c0 (mirT X0) T
 ok : Ok W
 size : sizeT W = t.length
 crown : Crown W (mirT X0)
 nodup : (plT W).Nodup
 mem : ∀ p, p ∈ plT X0 → p ∈ plT W
 good : Good (flatT W 0) (renT W 0)
 crownR : Crown (renT W 0) (renT (mirT X0) 2)
theorem flip_of {t : List S34} {T X0 : Tr} (hg : Good t T) (hX : Crown T X0) : ∃ c0, Flip t T X0 c0 (replT c0 (mirT X0) T) := by
 obtain ⟨c0, h0, hcl, hm, hn, hl⟩ := crown_tree hg hX
 have hokX : Ok X0 := ok_mkT hg.form hm
 have hok : Ok (replT c0 (mirT X0) T) := repl_ok (ok_m hokX) (good_ok hg)
 obtain ⟨n0, n1, p1, q1, q0, e, e'⟩ := mir_crown hX hg.nodup h0 (mirT X0)
 have hsz : sizeT (replT c0 (mirT X0) T) = t.length := by
  rw [← good_size hg, e', e]
  simp only [sizeT, size_m]
 have hcr : Crown (replT c0 (mirT X0) T) (mirT X0) := by
  have hh := hX
  obtain ⟨m0, m1, r1, s1, s0, ee, c1, c2, c3, c4, c5, hXn⟩ := hh
  have e2 := e.symm.trans ee
  injection e2 with a1 a2 a3 a4
  injection a3 with b1 b2 b3 b4
  refine ⟨n0, n1, p1, q1, q0, e', by rw [a1]; exact c1, by rw [a1]; exact c2, by rw [b1]; exact c3, by rw [b1]; exact c4, ?_, fun e => hXn (mir_nil.1 e)⟩
  have : ∀ {T : Tr}, allT (fun n => n.f1 = 0) T → allT (fun n => n.f1 = 0) (mirT T) := by
   intro T
   induction T with
   | nil => exact fun h => h
   | node n p l r ihl ihr => exact fun h => ⟨h.1, ihr h.2.2, ihl h.2.1⟩
  exact this c5
 have hpm : (plT (replT c0 (mirT X0) T)).Perm (plT T) := by
  rw [e', e]
  simp only [plT]
  exact List.Perm.cons _ ((List.Perm.cons _ ((mir_perm X0).append_right _)).append_right _)
 have hlen := hg.len
 refine ⟨c0, h0, rfl, hok, hsz, hcr, hpm.nodup_iff.2 hg.nodup, fun p hp => hpm.mem_iff.2 ?_, flat_good hok (by omega), crown_ren hcr⟩
 rw [e]
 simp only [plT, List.mem_cons, List.mem_append]
 exact .inr (.inl (.inr (.inl hp)))
end Go.Proofs.Ytgleaefhflamnaa.T
/- larchlaw18.mirrored: the tree mirrored, and where a place stands in it. -/
namespace Go.Proofs.Ytgleaefhflamnaa.T
open Go.RowKit Go.Proofs.YtgleaefhflamnaaW.PrintWords Go.Proofs.YtgleaefhflamnaaW.PrintLast Go.Proofs.YtgleaefhflamnaaW.PrintMore
set_option linter.unusedVariables false
set_option linter.unusedSimpArgs false
theorem mark_R {W : World} {base g n cap : Nat} {ok : Nat → Prop} {xs : List S34} (h : Kd.R k34 34 W base ok (.slice (some ⟨g, 0, none⟩) n cap) xs) {c : Nat} (hc : c < n) :
  (∃ u, W.cell? ⟨g, c * 6 + 2, none⟩ = some u) ∧ W.frozen? ⟨g, c * 6 + 2, none⟩ = false ∧ Kd.R k34 34 (W.setCell ⟨g, c * 6 + 2, none⟩ (.int .i64 1000000)) base ok (.slice (some ⟨g, 0, none⟩) n cap) (xs.set c (mkN (xs.getD c z34))) := by
 obtain ⟨ce, hcl, hM, hcc, hfr⟩ := Kd.R_elem h z34 (c : Int) (by omega) (by omega)
 obtain rfl := k34_openM hM
 have hs := (Kd.R_seg h (c : Int) (by omega) (by omega) (seg := [.int .i64 1000000]) (j := 2) hcl hcc (show 3 ≤ 6 from by decide) (x' := mkN (xs.getD c z34)) (k34_mkM _ _ _ (mkN (xs.getD c z34))) (fun _ hk => hk)).1
 refine ⟨⟨_, hcc 2 _ rfl⟩, hfr 2, ?_⟩
 exact hs
set_option maxHeartbeats 4000000 in
set_option maxRecDepth 100000 in
theorem mirrored_calls (k : Nat) (A0 : Option Addr) (c0 : Nat) (l0 : List S34) (c : Nat) (r : Int) (u v : List S34) (j0 : Nat) (w : World) (hr0 : Kd.C k34 w A0 l0.length l0) (hc0 : l0.length ≤ c0) (hct : c < l0.length) (hlen : l0.length ≤ 100000)
  (h1 : table_Root.f k l0 = some (r, 0)) (h2 : larchlaw18_flipped.f k l0 r = some (u, true)) (h3 : larchlaw18_flipped.f k (l0.set c (mkN (l0.getD c z34))) r = some (v, true))
  (hvu : v.length = u.length) (hul : u.length ≤ 100000) (hj0 : j0 < u.length) (he : ∀ j, j < j0 → (v.getD j z34).f2 = (u.getD j z34).f2) (hne : (v.getD j0 z34).f2 ≠ (u.getD j0 z34).f2) :
  Calls Try.prog 21 #[.slice A0 l0.length c0, .int .i64 c] w fun e w' => ∃ v0_ : Value, e = .returned (.tuple #[v0_, .int .i64 j0, .bool true]) ∧ Kd.R k34 34 w' w.heap.size (fun _ => True) v0_ u ∧ Below w.heap.size w w' := by
 have hu34 := Try.underlying34
 have HR0 := Am hr0
 have HC0 := Am hc0
 have HCT := Am hct
 have HL := Am hlen
 have H1 := Am h1
 have H2 := Am h2
 have H3 := Am h3
 have HV := Am hvu
 have HU := Am hul
 have HJ := Am hj0
 have HE := Am he
 have HN := Am hne
 have p1 : (0 ≤ (c : Int)) = True := eq_true (by omega)
 have p2 : ((c : Int) < (l0.length : Int)) = True := eq_true (by omega)
 clear hr0 hc0 hct hlen h1 h2 h3 hvu hul hj0 he hne
 go_enter Try.func21, Try.ntmps21
 go_wp2_with (fail)
 refine (table_Root.calls k A0 c0 l0 r 0 _ HR0.out HC0.out H1.out).mono ?_
 rintro e w1 ⟨rfl, hb⟩
 have HB := Am hb
 clear hb
 go_wp2_with (first | ((with_reducible refine gate_dst (N := 22) rfl ?_); refine Kd.R_lit k34 _ 34 ?hg (N := 22) ?hd (xs := ([] : List S34)) (inner := []) (ok := fun _ => True) (okp := fun _ => True) ?hr ?hp (fun _ hk => hk) trivial (Below.refl _ _) (Nat.le_refl _) (by simp) ?_; (case hd => rfl); (case hg => rfl); (case hr => first | (go_simp; done) | (go_simp; rfl)); (case hp => exact (Reps.none _ _)); intro v22 w2 ho hb hg_ hnew_; have HO := Am (Kd.R_lower ho HB.out.size); have HB2 := Am (HB.out.trans (hb.mono HB.out.size)); clear ho hb hg_ hnew_) | ((with_reducible refine gate_builtin (b := .append) (xs := #[.tmp 22, .tmp 23]) rfl ?_); at_builtin; refine Kd.R_append_rows k34 (w0 := w) w.heap.size rfl (.tmp 22) (.tmp 23) 22 34 zN 48 rfl Try.underlying22 info34 rfl (by decide) (by omega) v22 [] l0 _ _ _ (fun _ => True) (fun _ => False) rfl rfl HO.out (Kd.C_below HR0.out HB2.out) (fun _ _ h => h) (fun _ h => h.elim) (fun _ _ => trivial) HB2.out HB2.out.size (by have := HL.out; simp; omega) ?_; intro v24 w3 ho hb hg hat; rw [List.nil_append] at ho; have HO3 := Am ho; have HB3 := Am hb; clear ho hb hg hat HO HB2; obtain ⟨g, cap, eg, gb, gl, cl, hg⟩ := Kd.R_form HO3.out (by have := HCT.out; omega); subst eg; have GB := Am gb; obtain ⟨⟨zu, hz⟩, hfz, hm⟩ := mark_R HO3.out HCT.out; have HM := Am hm; clear gb gl hg hm))
 have HB4 := Am (below_set HB3.out GB.out : Below w.heap.size w (w3.setCell ⟨g, c * 6 + 2, none⟩ (.int .i64 1000000)))
 generalize w3.setCell ⟨g, c * 6 + 2, none⟩ (.int .i64 1000000) = w4 at HB4 HM ⊢
 clear HO3 HB3 hz hfz cl GB
 refine (flipped_calls k A0 c0 l0 r u _ (Kd.C_below HR0.out HB4.out) HC0.out H2.out).mono ?_
 rintro e w5 ⟨v1, rfl, ho, hb⟩
 obtain ⟨A1, c1, rfl⟩ := Kd.R_slice ho
 have HO5 := Am (Kd.R_lower ho HB4.out.size)
 have HB5 := Am (HB4.out.trans (hb.mono HB4.out.size))
 have HM5 := Am (Kd.R_below HM.out hb)
 clear ho hb HB4 HM
 have hl5 : (l0.set c (mkN (l0.getD c z34))).length = l0.length := List.length_set
 have HRM := Am (Kd.R_reads' HM5.out)
 rw [hl5] at HRM
 go_wp2_with (fail)
 have hfl := flipped_calls k (some ⟨g, 0, none⟩) cap (l0.set c (mkN (l0.getD c z34))) r v w5 (by rw [hl5]; exact HRM.out.2.2) (by rw [hl5]; exact HRM.out.2.1) H3.out
 rw [hl5] at hfl
 refine hfl.mono ?_
 rintro e w6 ⟨v2, rfl, ho, hb⟩
 obtain ⟨A2, c2, rfl⟩ := Kd.R_slice ho
 have HV6 := Am (Kd.R_lower ho HB5.out.size)
 have HB6 := Am (HB5.out.trans (hb.mono HB5.out.size))
 have HO6 := Am (Kd.R_below HO5.out hb)
 clear ho hb HB5 HM5 HO5 hl5 HRM hfl
 go_wp2
 go_loopg [43] (j0 + 1) (fun kq v43 w' => ∃ i : Nat, v43 = .int .i64 i ∧ Aside0 (i ≤ j0 ∧ kq + i = j0 + 1) ∧ Aside0 (Kd.R k34 34 w' w.heap.size (fun _ => True) (.slice A1 u.length c1) u) ∧ Aside0 (Kd.R k34 34 w' w.heap.size (fun _ => True) (.slice A2 v.length c2) v) ∧ Aside0 (Below w.heap.size w w'))
 case atStart => exact ⟨0, rfl, ⟨Nat.zero_le _, rfl⟩, HO6, HV6, HB6⟩
 case round =>
  clear HO6 HV6 HB6
  obtain ⟨i, rfl, HI, HO, HVr, HB⟩ := hrel
  have hi := HI.out.1
  have hvu := HV.out
  have hj := HJ.out
  have huu := HU.out
  obtain ⟨adu, rfl, hzu⟩ := rd_cells (Kd.R_reads' HO.out).2.2 (show i < u.length by omega)
  obtain ⟨adv, rfl, hzv⟩ := rd_cells (Kd.R_reads' HVr.out).2.2 (show i < v.length by omega)
  have y2 := fun n => (hzu (wr.drewN n) ⟨rfl, rfl, rfl, Nat.le_refl _, fun _ _ => rfl⟩).2.2.1
  have x2 := fun n => (hzv (wr.drewN n) ⟨rfl, rfl, rfl, Nat.le_refl _, fun _ _ => rfl⟩).2.2.1
  have y20 := (hzu wr (Below.refl _ _)).2.2.1
  have x20 := (hzv wr (Below.refl _ _)).2.2.1
  have q1 : (0 ≤ (i : Int)) = True := eq_true (by omega)
  have q2 : ((i : Int) < (u.length : Int)) = True := eq_true (by omega)
  have q3 : ((i : Int) < (v.length : Int)) = True := eq_true (by omega)
  have q4 : decide ((i : Int) < (v.length : Int)) = true := decide_eq_true (by omega)
  have q5 : decide (i < v.length) = true := decide_eq_true (by omega)
  by_cases hij : i = j0
  ·subst hij
   have q6 : ((v.getD i z34).f2 != (u.getD i z34).f2) = true := bne_iff_ne.2 HN.out
   clear hi hvu hj huu hzu hzv
   generalize (v.getD i z34).f2 = a at x2 x20 q6
   generalize (u.getD i z34).f2 = b at y2 y20 q6
   go_wp2
   go_quiet (fail)
   go_wp2
   go_ret3
   exact ⟨_, rfl, Kd.R_drewN HO.out _, bn HB.out _⟩
  ·have hlt : i < j0 := by omega
   have q6 : ((v.getD i z34).f2 != (u.getD i z34).f2) = false := bne_eq_false_iff_eq.2 (HE.out i hlt)
   have hw : IntKind.i64.wrap ((i : Int) + 1) = ((i + 1 : Nat) : Int) := by rw [i64_w, Go.IntWalk.wrap64_in _ (by omega)]; rfl
   have HI2 := Am (And.intro (Nat.succ_le_of_lt hlt) HI.out.2)
   have HIL := Am hlt
   clear hi hvu hj huu hzu hzv hij hlt
   generalize (v.getD i z34).f2 = a at x2 x20 q6
   generalize (u.getD i z34).f2 = b at y2 y20 q6
   go_wp2
   go_quiet (fail)
   go_wp2
   go_roundg (gk - 1)
   case measure => have := HIL.out; have := HI.out; omega
   case rel =>
    have h1 := HIL.out
    have h2 := HI.out
    have h3 := HJ.out
    have h4 := HU.out
    exact ⟨i + 1, rfl, ⟨by omega, by omega⟩, ⟨Kd.R_drewN HO.out _⟩, ⟨Kd.R_drewN HVr.out _⟩, ⟨bn HB.out _⟩⟩
end Go.Proofs.Ytgleaefhflamnaa.T
namespace Go.Proofs.Ytgleaefhflamnaa.T
open Go.RowKit Go.Proofs.YtgleaefhflamnaaW.PrintWords Go.Proofs.YtgleaefhflamnaaW.PrintLast Go.Proofs.YtgleaefhflamnaaW.PrintMore
attribute [local go_sem] max2_int min2_int max_two min_two max_three min_three max_four min_four   -- for this text's walks alone
set_option linter.unusedVariables false
set_option linter.unusedSimpArgs false
mutual
def larchlaw18_StepsSums.j0 : Nat → List (S34) → Int → List (S34) → Int → Int → Bool → Option (Bool)
 | 0, _, _, _, _, _, _ => none
 | k + 1, x0, x1, x7, x9, x11, x45 => if x45 = true then (some false) else ((larchlaw18_sums.f k x0 x9 0 ([] : List Int)).bind fun t236 => ((larchlaw18_sums.f k x7 x11 0 ([] : List Int)).bind fun t239 => (if (t236.length : Int) = (t239.length : Int) then (if x1 = x9 then (if 0 ≤ x11 then (if x11 < (x7.length : Int) then (larchlaw18_StepsSums.j1 k x1 x9 t236 t239 (((rd_T34 x7 x11).f2) != 1)) else (none)) else (none)) else (larchlaw18_StepsSums.j1 k x1 x9 t236 t239 false)) else (larchlaw18_StepsSums.j1 k x1 x9 t236 t239 true))))
def larchlaw18_StepsSums.j1 : Nat → Int → Int → List Int → List Int → Bool → Option (Bool)
 | 0, _, _, _, _, _ => none
 | k + 1, x1, x9, x13, x14, x69 => if x69 = true then (some false) else (larchlaw18_StepsSums.l0 k x1 x9 x13 x14 (x13.length : Int) 0)
def larchlaw18_StepsSums.l0 : Nat → Int → Int → List Int → List Int → Int → Int → Option (Bool)
 | 0, _, _, _, _, _, _ => none
 | k + 1, x1, x9, x13, x14, x71, x72 => if x72 < x71 then (if 0 ≤ x72 then (if x72 < (x14.length : Int) then (if x72 < (x13.length : Int) then (if 0 < (x14.length : Int) then (if 0 < (x13.length : Int) then (if (wrap64 ((rd x14 x72) - (rd x13 x72))) = (wrap64 ((rd x14 0) - (rd x13 0))) then (if x1 = x9 then (larchlaw18_StepsSums.l0 k x1 x9 x13 x14 x71 (wrap64 (x72 + 1))) else (if (rd x13 x72) = (rd x14 x72) then (larchlaw18_StepsSums.l0 k x1 x9 x13 x14 x71 (wrap64 (x72 + 1))) else (some false))) else (some false)) else (none)) else (none)) else (none)) else (none)) else (none)) else (some true)
end
def larchlaw18_StepsSums.f (k : Nat) (l0 : List (S34)) (a1 : Int) (a2_0 : Int) (a2_1 : Bool) : Option (Bool) := (larchlaw18_awake.f k).bind fun t227 => (if t227 = true then ((larchlaw18_done.f k l0 a1 a2_0 a2_1).bind fun bt228 => (if bt228.2 = true then ((table_Root.f k l0).bind fun bt232 => ((table_Root.f k bt228.1).bind fun bt234 => (if bt232.2 = 0 then (larchlaw18_StepsSums.j0 k l0 a1 bt228.1 bt232.1 bt234.1 (bt234.2 != 0)) else (larchlaw18_StepsSums.j0 k l0 a1 bt228.1 bt232.1 bt234.1 true)))) else (some ((bt228.1.length : Int) == 0)))) else (some false))
def larchlaw18_red.f (l0 : List (S34)) (a1 : Int) (a2 : Int) : Option (Int) := if 0 ≤ a1 then (if a1 < (l0.length : Int) then (if ((rd_T34 l0 a1).f2) = 0 then (if 0 ≤ a2 then (if a2 < (l0.length : Int) then (if ((rd_T34 l0 a2).f2) = 0 then (some 1) else (some 0)) else (none)) else (none)) else (some 0)) else (none)) else (none)
end Go.Proofs.Ytgleaefhflamnaa.T
namespace Go.Proofs.Ytgleaefhflamnaa.T
open Go.RowKit Go.Proofs.YtgleaefhflamnaaW.PrintWords Go.Proofs.YtgleaefhflamnaaW.PrintLast Go.Proofs.YtgleaefhflamnaaW.PrintMore
theorem done_f {k : Nat} {t : List S34} {a1 kind : Int} {mir : Bool} {r1 : List S34} {r2 : Int} (h : steps_Do.f k t a1 kind mir = some (r1, r2)) : larchlaw18_done.f k t a1 kind mir = some (r1, r2 == 0) := by
 unfold larchlaw18_done.f larchlaw18_to.f
 rw [Option.bind_some]
 simp only
 rw [h, Option.bind_some]
end Go.Proofs.Ytgleaefhflamnaa.T
namespace Go.Proofs.Ytgleaefhflamnaa.T
open Go.RowKit Go.Proofs.YtgleaefhflamnaaW.PrintWords Go.Proofs.YtgleaefhflamnaaW.PrintLast Go.Proofs.YtgleaefhflamnaaW.PrintMore
attribute [local go_sem] max2_int min2_int max_two min_two max_three min_three max_four min_four   -- for this text's walks alone
set_option linter.unusedVariables false
set_option linter.unusedSimpArgs false
def larchlaw18_bad.f : Nat → List (S34) → Int → Option (Int)
 | 0, _, _ => none
 | k + 1, l0, a1 => if 0 ≤ a1 then (if a1 < (l0.length : Int) then (if ((rd_T34 l0 a1).f4) ≥ 0 then ((larchlaw18_red.f l0 ((rd_T34 l0 a1).f4) a1).bind fun t254 => ((larchlaw18_red.f l0 ((rd_T34 l0 a1).f5) a1).bind fun t256 => ((larchlaw18_bad.f k l0 ((rd_T34 l0 a1).f4)).bind fun t258 => ((larchlaw18_bad.f k l0 ((rd_T34 l0 a1).f5)).bind fun t260 => (some (wrap64 ((mx (wrap64 (((rd_T34 l0 a1).f2) - 1)) 0) + (wrap64 ((wrap64 ((wrap64 (t254 + t256)) + t258)) + t260))))))))) else (some (mx (wrap64 (((rd_T34 l0 a1).f2) - 1)) 0))) else (none)) else (none)
def larchlaw18_StepsViolations.j0 : Nat → List (S34) → List (S34) → Int → Int → Bool → Int → Bool → Option (Bool)
 | 0, _, _, _, _, _, _, _ => none
 | k + 1, x0, x7, x9, x11, x45, x262000, x262001 => if x45 = true then (some false) else ((larchlaw18_bad.f k x0 x9).bind fun t271 => ((larchlaw18_bad.f k x7 x11).bind fun t272 => (if x262000 = 2 then (if t272 ≤ t271 then (some (decide (t272 < t271))) else (some false)) else (if x262000 = 3 then (if t272 ≤ t271 then (some (decide (t272 < t271))) else (some false)) else (if x262000 ≥ 5 then (if t272 ≤ t271 then (if x262000 ≤ 11 then (some (decide (t272 < t271))) else (some true)) else (some false)) else (if t272 ≤ t271 then (some true) else (some false)))))))
def larchlaw18_StepsViolations.f (k : Nat) (l0 : List (S34)) (a1 : Int) (a2_0 : Int) (a2_1 : Bool) : Option (Bool) := (larchlaw18_awake.f k).bind fun t262 => (if t262 = true then ((larchlaw18_done.f k l0 a1 a2_0 a2_1).bind fun bt263 => (if bt263.2 = true then ((table_Root.f k l0).bind fun bt267 => ((table_Root.f k bt263.1).bind fun bt269 => (if bt267.2 = 0 then (larchlaw18_StepsViolations.j0 k l0 bt263.1 bt267.1 bt269.1 (bt269.2 != 0) a2_0 a2_1) else (larchlaw18_StepsViolations.j0 k l0 bt263.1 bt267.1 bt269.1 true a2_0 a2_1)))) else (some ((bt263.1.length : Int) == 0)))) else (some false))
end Go.Proofs.Ytgleaefhflamnaa.T
namespace Go.Proofs.Ytgleaefhflamnaa.T
open Go.RowKit Go.Proofs.YtgleaefhflamnaaW.PrintWords Go.Proofs.YtgleaefhflamnaaW.PrintLast Go.Proofs.YtgleaefhflamnaaW.PrintMore
/-- The mirror of a move. -/
def mirM (kind : Int) (mir : Bool) : Bool := if kind = 1 ∨ kind = 11 ∨ kind = 12 then mir else !mir
theorem move_of_do {k : Nat} {t : List S34} {a1 kind : Int} {mir : Bool} {r1 : List S34} (h : steps_Do.f k t a1 kind mir = some (r1, 0)) : steps_Move_is.f kind mir = some true := by
 unfold steps_Do.f at h
 obtain ⟨bt, _, h⟩ := Option.bind_eq_some_iff.1 h
 split at h
 ·obtain ⟨b, hb, h⟩ := Option.bind_eq_some_iff.1 h
  cases b with
  | true => exact hb
  | false => simp at h
 ·rename_i h0
  have := Option.some.inj h
  exact absurd (congrArg Prod.snd this) h0
theorem alone_f (kind : Int) : steps_alone.f kind = some (decide (kind = 1 ∨ kind = 11 ∨ kind = 12)) := by
 unfold steps_alone.f
 by_cases h1 : kind = 1
 ·simp [h1]
 ·by_cases h2 : kind = 11
  ·simp [h2]
  ·by_cases h3 : kind = 12 <;> simp [h1, h2, h3]
theorem move_mir {kind : Int} {mir : Bool} (h : steps_Move_is.f kind mir = some true) : steps_Move_is.f kind (mirM kind mir) = some true ∧ (kind = 1 ∨ kind = 11 ∨ kind = 12 → mir = false) := by
 have hk := move_kind h
 unfold steps_Move_is.f at h ⊢
 rw [if_pos (by omega), if_pos (by omega), alone_f] at h
 rw [if_pos (by omega), if_pos (by omega), alone_f]
 unfold mirM
 by_cases hs : kind = 1 ∨ kind = 11 ∨ kind = 12
 ·rw [if_pos hs]
  cases mir with
  | true => simp [hs] at h
  | false => exact ⟨rfl, fun _ => rfl⟩
 ·rw [if_neg hs]
  refine ⟨?_, fun h => absurd h hs⟩
  cases mir <;> simp [hs]
theorem mirM_do {kind : Int} {mir : Bool} (h : kind = 1 ∨ kind = 11 ∨ kind = 12 → mir = false) (X : Tr) : doT (mirM kind mir) (mirT X) kind = mirT (doT mir X kind) := by
 unfold mirM
 by_cases hs : kind = 1 ∨ kind = 11 ∨ kind = 12
 ·rw [if_pos hs, h hs]; exact sym_do X hs
 ·rw [if_neg hs]; exact mir_do mir X kind
theorem mirM_can {kind : Int} {mir : Bool} (h : kind = 1 ∨ kind = 11 ∨ kind = 12 → mir = false) (rt : Bool) {X : Tr} (hX : TwoT X) : canT (mirM kind mir) rt (mirT X) kind = canT mir rt X kind := by
 unfold mirM
 by_cases hs : kind = 1 ∨ kind = 11 ∨ kind = 12
 ·rw [if_pos hs, h hs]; exact sym_can rt hs
 ·rw [if_neg hs]; exact mir_can mir rt hX kind
/-- The part at a place. -/
def subP (c : Nat) : Tr → Tr
 | .nil => .nil
 | .node n p l r => if p = c then .node n p l r else if (c : Int) ∈ plT l then subP c l else subP c r
theorem at_sub {c : Nat} : ∀ (T : Tr) (j : Nat) (hj : j < (plT T).length), (plT T)[j] = (c : Int) → (plT T).Nodup → atT j T = subP c T
 | .nil, j, hj, _, _ => absurd hj (by simp [plT])
 | .node n p l r, 0, hj, hc, hn => by
  simp only [plT, List.getElem_cons_zero] at hc
  rw [atT, subP, if_pos hc]
 | .node n p l r, j + 1, hj, hc, hn => by
  simp only [plT, List.getElem_cons_succ, List.nodup_cons, List.mem_append, List.length_cons, List.length_append] at hc hn hj
  have hne : p ≠ c := by
   intro e
   have hm : (c : Int) ∈ plT l ++ plT r := hc ▸ List.getElem_mem _
   rw [List.mem_append] at hm
   exact hn.1 (e ▸ hm)
  have hsz := size_pl l
  rw [subP, if_neg hne, atT]
  by_cases hlt : j < (plT l).length
  ·rw [List.getElem_append_left hlt] at hc
   rw [if_pos (by omega), if_pos (hc ▸ List.getElem_mem _ : (c : Int) ∈ plT l)]
   exact at_sub l j hlt hc (nodup_app_l hn.2)
  ·rw [List.getElem_append_right (by omega)] at hc
   have hl : (c : Int) ∉ plT l := fun e => (List.nodup_append.1 hn.2).2.2 _ e _ (hc ▸ List.getElem_mem _ : (c : Int) ∈ plT r) rfl
   rw [if_neg (by omega), if_neg hl, hsz]
   exact at_sub r _ (by omega) hc (nodup_app_r hn.2)
theorem sub_m {c : Nat} : ∀ {T : Tr}, (c : Int) ∈ plT T → (plT T).Nodup → subP c (mirT T) = mirT (subP c T)
 | .nil, h, _ => absurd h (by simp [plT])
 | .node n p l r, h, hn => by
  by_cases hp : p = c
  ·rw [mirT, subP, if_pos hp, subP, if_pos hp, mirT]
  ·simp only [plT, List.nodup_cons, List.mem_cons, List.mem_append] at h hn
   have hd := (List.nodup_append.1 hn.2).2.2
   rw [mirT, subP, if_neg hp, subP, if_neg hp]
   by_cases hl : (c : Int) ∈ plT l
   ·have hr : (c : Int) ∉ plT (mirT r) := fun e => hd _ hl _ ((mir_perm r).mem_iff.1 e) rfl
    rw [if_neg hr, if_pos hl]
    exact sub_m hl (nodup_app_l hn.2)
   ·have hr : (c : Int) ∈ plT r := by
     rcases h with h | h | h
     ·exact absurd h.symm hp
     ·exact absurd h hl
     ·exact h
    rw [if_pos ((mir_perm r).mem_iff.2 hr), if_neg hl]
    exact sub_m hr (nodup_app_r hn.2)
theorem new_m {c : Nat} {R : Tr} : ∀ {T : Tr}, newX c (mirT R) (mirT T) = mirT (newX c R T)
 | .nil => by rw [mirT, new_no (by simp [plT]), new_no (by simp [plT])]; rfl
 | .node n p l r => by
  by_cases hp : p = c
  ·rw [mirT, newX, newX, plc, plc, if_pos hp, if_pos hp]
  ·rw [mirT, newX, newX, plc, plc, if_neg hp, if_neg hp, repl_new, repl_new, mirT, new_m, new_m]
theorem same_self (y : List S34) (hy : y.length ≤ 1000000) : ∃ k, larchref18_SameTable.f k y y = some true := by
 have key : ∀ (d i k : Nat), i + d = y.length → d < k → larchref18_SameTable.l0 k y y i = some true := by
  intro d
  induction d with
  | zero =>
   intro i k hi hk
   cases k with
   | zero => omega
   | succ k => rw [larchref18_SameTable.l0, if_neg (by omega)]
  | succ d ih =>
   intro i k hi hk
   cases k with
   | zero => omega
   | succ k =>
    rw [larchref18_SameTable.l0, if_pos (by omega), if_pos (by omega), if_pos (by omega), if_neg (by simp), Go.IntWalk.wrap64_in _ (by omega)]
    exact ih (i + 1) k (by omega) (by omega)
 refine ⟨y.length + 1, ?_⟩
 unfold larchref18_SameTable.f
 rw [if_pos rfl]
 exact key y.length 0 _ (by omega) (by omega)
end Go.Proofs.Ytgleaefhflamnaa.T
namespace Go.Proofs.Ytgleaefhflamnaa.T
open Go.RowKit Go.Proofs.YtgleaefhflamnaaW.PrintWords Go.Proofs.YtgleaefhflamnaaW.PrintLast Go.Proofs.YtgleaefhflamnaaW.PrintMore
theorem getD_elem {l : List Int} {j : Nat} (h : j < l.length) : l.getD j 0 = l[j] := by rw [List.getD, List.getElem?_eq_getElem h, Option.getD_some]
theorem ren_idx {T : Tr} (h : Ok T) {j : Nat} (hj : j < sizeT T) : ∃ h' : j < (plT (renT T 0)).length, (plT (renT T 0))[j] = (j : Int) := by
 have e := ren_pl h 0
 refine ⟨by rw [e, List.length_map, List.length_range']; exact hj, ?_⟩
 simp only [e, List.getElem_map, List.getElem_range']
 omega
/-- The part of the mirrored tree at the place. -/
theorem part_mir {t : List S34} {T X0 W X : Tr} {c0 c j0 : Nat} (hg : Good t T) (hX0 : Crown T X0) (hF : Flip t T X0 c0 W) (hin : (c : Int) ∈ plT X0) (hX : mkT t t.length c = some X) (hj : j0 < (plT W).length) (hjc : (plT W)[j0] = (c : Int)) : atT j0 W = mirT X := by
 obtain ⟨c', hc', hcl, hm, hn, hl⟩ := crown_tree hg hX0
 obtain ⟨a, ha, hac⟩ := List.getElem_of_mem hin
 have e1 := mk_at hg.form _ _ X0 hm a ha
 rw [hac, Int.toNat_natCast, hX] at e1
 have e2 : X = subP c X0 := (Option.some.inj e1).trans (at_sub X0 a ha hac hn)
 rw [at_sub W j0 hj hjc hF.nodup, e2, ← sub_m hin hn]
 obtain ⟨n0, n1, p1, q1, q0, e, e'⟩ := mir_crown hX0 hg.nodup hF.at0 (mirT X0)
 have hnd := hF.nodup
 rw [hF.isW, e'] at hnd ⊢
 have hcm : (c : Int) ∈ plT (mirT X0) := (mir_perm X0).mem_iff.2 hin
 simp only [plT, List.cons_append, List.nodup_cons, List.mem_cons, List.mem_append, not_or, List.append_assoc, List.nil_append] at hnd
 have h0 : ¬ (0 : Int) = (c : Int) := fun e => hnd.1.2.1 (e ▸ hcm)
 have h1 : ¬ p1 = (c : Int) := fun e => hnd.2.1.1 (e ▸ hcm)
 rw [subP, if_neg h0, if_pos (by simp only [plT, List.mem_cons, List.mem_append]; exact .inr (.inl hcm)), subP, if_neg h1, if_pos hcm]
theorem mir_root {t : List S34} {T X0 W : Tr} {c0 c j0 : Nat} (hg : Good t T) (hX0 : Crown T X0) (hF : Flip t T X0 c0 W) (hin : (c : Int) ∈ plT X0) (hj : j0 < (plT W).length) (hjc : (plT W)[j0] = (c : Int)) : 2 ≤ j0 ∧ (j0 : Int) ∈ plT (renT (mirT X0) 2) ∧ (((j0 : Int) == plc (renT (mirT X0) 2)) = ((c : Int) == plc X0)) := by
 obtain ⟨n0, n1, p1, q1, q0, e, e'⟩ := mir_crown hX0 hg.nodup hF.at0 (mirT X0)
 obtain ⟨c', hc', hcl, hm, hn, hl⟩ := crown_tree hg hX0
 have hokm := ok_m (ok_mkT hg.form hm)
 have hcm : (c : Int) ∈ plT (mirT X0) := (mir_perm X0).mem_iff.2 hin
 have hnd := hF.nodup
 have hW := hF.isW
 rw [e'] at hW
 subst hW
 have hpl : plT (.node n0 0 (.node n1 p1 (mirT X0) (.node sn34 q1 .nil .nil)) (.node sn34 q0 .nil .nil)) = 0 :: p1 :: (plT (mirT X0) ++ [q1, q0]) := by simp [plT]
 have hlen : (plT (mirT X0)).length = sizeT (mirT X0) := (size_pl _).symm
 simp only [hpl] at hj hjc hnd
 obtain ⟨b, hb, hbc⟩ := List.getElem_of_mem hcm
 have hjb : j0 = b + 2 := by
  have hb2 : b + 2 < (0 :: p1 :: (plT (mirT X0) ++ [q1, q0])).length := by simp only [List.length_cons, List.length_append]; omega
  have hbb : (0 :: p1 :: (plT (mirT X0) ++ [q1, q0]))[b + 2] = (c : Int) := by
   rw [List.getElem_cons_succ, List.getElem_cons_succ, List.getElem_append_left hb, hbc]
  refine Decidable.byContradiction fun hne => ?_
  have := getD_idx hnd hj hb2 hne
  rw [getD_elem hj, getD_elem hb2, hjc] at this
  exact this hbb.symm
 have hplr := ren_pl hokm 2
 refine ⟨by omega, ?_, ?_⟩
 ·rw [hplr, List.mem_map]
  exact ⟨j0, by rw [List.mem_range'_1]; omega, rfl⟩
 ·rw [ren_plc 2 (ok_ne hokm)]
  have hr : plc X0 = plc (mirT X0) := by cases X0 <;> rfl
  have h0 : (plT (mirT X0)).getD 0 0 = plc (mirT X0) := by
   cases hX : mirT X0 with
   | nil => rw [hX] at hokm; exact hokm.elim
   | node n p l r => rfl
  have hnm : (plT (mirT X0)).Nodup := (mir_perm X0).nodup_iff.2 hn
  by_cases hb0 : b = 0
  ·subst hb0
   have h2 : (c : Int) = plc X0 := by rw [hr, ← h0, getD_elem hb, hbc]
   rw [hjb, h2]
   simp
  ·have h2 : (c : Int) ≠ plc X0 := by
    intro e2
    have := getD_idx hnm hb (by omega : 0 < _) hb0
    rw [getD_elem hb, hbc, h0, ← hr] at this
    exact this e2
   rw [show ((j0 : Int) == ((2 : Nat) : Int)) = false by simp; omega, show ((c : Int) == plc X0) = false by simpa using h2]
/-- THE MIRROR OF A MOVE: the same table. -/
theorem mirror_moved {t : List S34} {a1 kind : Int} {mir : Bool} {u : List S34} {T X0 X R W : Tr} {c c0 j0 : Nat} {rt : Bool} (h : Moved t a1 kind mir u T X0 X R c rt) (hmv : steps_Move_is.f kind mir = some true) (hF : Flip t T X0 c0 W) (hj : j0 < (plT W).length) (hjc : (plT W)[j0] = (c : Int)) :
  ∃ k, steps_Do.f k (flatT W 0) j0 kind (mirM kind mir) = some (flatT (replT 2 (mirT (renT (newX c R X0) 2)) (renT (replT c R T) 0)) 0, 0) := by
 obtain ⟨hmv', hsym⟩ := move_mir hmv
 obtain ⟨h2, hin', hroot⟩ := mir_root h.good h.crown hF h.inX hj hjc
 have hX := h.sub
 have hokX : Ok X := ok_mkT h.good.form hX
 have hat := part_mir h.good h.crown hF h.inX hX hj hjc
 have hsz : j0 < sizeT W := by rw [size_pl]; exact hj
 obtain ⟨hj', hjj⟩ := ren_idx hF.ok hsz
 have hmk := mk_at hF.good.form _ _ _ hF.good.tree j0 hj'
 rw [hjj, Int.toNat_natCast] at hmk
 have hnX : nT (atT j0 (renT W 0)) = nT (mirT X) := by rw [nT_at, nT_ren hF.ok, ← nT_at, hat]
 have hokX' : Ok (atT j0 (renT W 0)) := ok_mkT hF.good.form hmk
 have hcan : canT (mirM kind mir) rt (atT j0 (renT W 0)) kind = true := by
  rw [← nT_can, hnX, nT_can, mirM_can hsym rt (two_ok hokX)]
  exact h.can
 have hdo : nT (doT (mirM kind mir) (atT j0 (renT W 0)) kind) = nT (mirT (doT mir X kind)) := by
  rw [nT_do, hnX, ← nT_do, mirM_do hsym]
 have hwt : wt (doT (mirM kind mir) (atT j0 (renT W 0)) kind) = wt (doT mir X kind) := by
  rw [← wt_n, hdo, wt_n, wt_m]
 have hbig : rt = false → ¬ 1000000 < wt (doT (mirM kind mir) (atT j0 (renT W 0)) kind) := by
  intro hrt
  rw [hwt]
  have hR := h.isR
  rw [hrt, if_neg (by simp)] at hR
  have := (ok_wt h.gives.ok)
  rw [hR] at this
  omega
 have hrt' : (((j0 : Int) == plc (renT (mirT X0) 2)) = rt) := by rw [hroot, ← h.place]; exact h.isrt
 obtain ⟨k, hk⟩ := do_canon hF.good hF.crownR hin' hmk hmv' hrt' hcan hbig
 refine ⟨k, ?_⟩
 rw [hk]
 -- the two trees have one shape
 have hokR' : Ok (if rt = true then setW (doT (mirM kind mir) (atT j0 (renT W 0)) kind) 1 else doT (mirM kind mir) (atT j0 (renT W 0)) kind) := by
  cases rt with
  | true => rw [if_pos rfl]; exact (gives_root _ h.kinds hokX' hcan).ok
  | false => rw [if_neg (by simp)]; exact (gives_plain _ h.kinds hokX' hcan (hbig rfl)).ok
 have hnR : nT (if rt = true then setW (doT (mirM kind mir) (atT j0 (renT W 0)) kind) 1 else doT (mirM kind mir) (atT j0 (renT W 0)) kind) = nT (mirT R) := by
  rw [h.isR]
  cases rt with
  | true => rw [if_pos rfl, if_pos rfl, nT_set, hdo, ← nT_set, mir_set]
  | false => rw [if_neg (by simp), if_neg (by simp), hdo]
 obtain ⟨_, ht⟩ := moved_two h
 have hgU := ht.goodU
 have hcU := ht.crownU
 have hlen := h.good.len
 have hokY : Ok (renT (newX c R X0) 2) := ok_mkT hgU.form ht.mkU
 refine congrArg some (Prod.ext ?_ rfl)
 refine flat_shape (repl_ok hokR' (good_ok hF.good)) (repl_ok (ok_m hokY) (good_ok hgU)) ?_ 0
 -- the left side
 have hnewW : ∀ M, newX j0 M (renT W 0) = replT j0 M (renT W 0) := fun M => by rw [newX, good_plc hF.good, if_neg (by omega)]
 rw [← hnewW, new_at _ _ j0 hj' j0 hjj hF.good.nodup, nT_rpi, hnR, nT_ren hF.ok, ← nT_rpi, ← new_at (mirT R) W j0 hj c hjc hF.nodup]
 -- the right side
 obtain ⟨n0, n1, p1, q1, q0, e, e'⟩ := mir_crown h.crown h.good.nodup hF.at0 (mirT X0)
 obtain ⟨m0, m1, r1, s1, s0, f, f'⟩ := mir_crown hcU hgU.nodup (c0 := 2) (by rw [ht.atU]; rfl) (mirT (renT (newX c R X0) 2))
 rw [f']
 have hnd := h.good.nodup
 have hin := h.inX
 have hW : newX c (mirT R) W = .node n0 0 (.node n1 p1 (mirT (newX c R X0)) (.node sn34 q1 .nil .nil)) (.node sn34 q0 .nil .nil) ∧ replT c R T = .node n0 0 (.node n1 p1 (newX c R X0) (.node sn34 q1 .nil .nil)) (.node sn34 q0 .nil .nil) := by
  rw [e] at hnd
  simp only [plT, List.cons_append, List.nodup_cons, List.mem_cons, List.mem_append, not_or, List.append_assoc, List.nil_append] at hnd
  have h0 : ¬ (0 : Int) = (c : Int) := fun e => hnd.1.2.1 (e ▸ hin)
  have h1 : ¬ p1 = (c : Int) := fun e => hnd.2.1.1 (e ▸ hin)
  have hd := (List.nodup_append.1 hnd.2.2).2.2
  have h2 : ¬ q1 = (c : Int) := fun e => hd _ hin q1 (by simp) e.symm
  have h3 : ¬ q0 = (c : Int) := fun e => hd _ hin q0 (by simp) e.symm
  have sn : ∀ (q : Int) (M : Tr), ¬ q = (c : Int) → newX c M (.node sn34 q .nil .nil) = .node sn34 q .nil .nil := fun q M hq => new_no (by simp only [plT, List.append_nil, List.mem_singleton]; exact fun e => hq e.symm)
  constructor
  ·rw [hF.isW, e', newX, plc, if_neg h0, repl_new, sn q0 _ h3, newX, plc, if_neg h1, repl_new, sn q1 _ h2, new_m]
  ·rw [e, repl_new, sn q0 _ h3, newX, plc, if_neg h1, repl_new, sn q1 _ h2]
 rw [hW.1]
 have hokU : Ok (replT c R T) := h.okR
 have hnU : nT (renT (replT c R T) 0) = nT (replT c R T) := nT_ren hokU 0
 rw [f, hW.2] at hnU
 simp only [nT] at hnU ⊢
 injection hnU with a1 a2 a3 a4
 injection a3 with b1 b2 b3 b4
 rw [a1, b1, nT_m, nT_m, b3]
end Go.Proofs.Ytgleaefhflamnaa.T
/- The law StepsMirrors, walked. -/
namespace Go.Proofs.Ytgleaefhflamnaa.T
open Go.RowKit Go.Proofs.YtgleaefhflamnaaW.PrintWords Go.Proofs.YtgleaefhflamnaaW.PrintLast Go.Proofs.YtgleaefhflamnaaW.PrintMore
set_option linter.unusedVariables false
set_option linter.unusedSimpArgs false
set_option maxHeartbeats 4000000 in
set_option maxRecDepth 100000 in
theorem mirrors_no (k : Nat) (A0 : Option Addr) (c0 : Nat) (l0 : List S34) (a1 kind : Int) (mir : Bool) (w : World) (hr0 : Kd.C k34 w A0 l0.length l0) (hc0 : l0.length ≤ c0) (r1 : List S34)
  (ha : larchlaw18_awake.f k = some true) (hd : larchlaw18_done.f k l0 a1 kind mir = some (r1, false)) :
  Calls Try.prog 6 #[.slice A0 l0.length c0, .int .i64 a1, .agg #[.int .i64 kind, .bool mir]] w fun e w' => e = .returned (.bool true) ∧ Below w.heap.size w w' := by
 have hu24 := Try.underlying24
 have HR0 := Am hr0
 have HC0 := Am hc0
 have HA := Am ha
 have HD := Am hd
 clear hr0 hc0 ha hd
 go_enter Try.func6, Try.ntmps6
 go_wp2_with (fail)
 refine (larchlaw18_awake.calls k true _ HA.out).mono ?_
 rintro e w1 ⟨rfl, hb⟩
 have hb0 : Below w.heap.size w w1 := ((Below.refl _ _).alloc (Nat.le_refl _) _).trans (hb.mono (by simp))
 have hbk : w1.heap[w.heap.size]? = some (.cells #[.int .i64 kind, .bool mir] 24 (0, 0)) := by rw [hb.block _ (by simp)]; exact heap_alloc_new w _
 have HB := Am hb0
 have z0 : w1.cell? ⟨w.heap.size, 0, none⟩ = some (.int .i64 kind) := (cell_of hbk 0).trans rfl
 have z1 : w1.cell? ⟨w.heap.size, 1, none⟩ = some (.bool mir) := (cell_of hbk 1).trans rfl
 clear hb hb0 hbk
 go_wp2_with (fail)
 refine (larchlaw18_done.calls k A0 c0 l0 a1 kind mir r1 false _ (Kd.C_below HR0.out HB.out) HC0.out HD.out).mono ?_
 rintro e w2 ⟨v2, rfl, ho, hb⟩
 obtain ⟨A2, c2, rfl⟩ := Kd.R_slice ho
 have HB2 := Am (HB.out.trans (hb.mono HB.out.size))
 clear ho hb
 go_wp2
 go_ret
 exact ⟨rfl, HB2.out⟩
set_option maxHeartbeats 4000000 in
set_option maxRecDepth 100000 in
theorem mirrors_max (k : Nat) (A0 : Option Addr) (c0 : Nat) (l0 : List S34) (c : Nat) (kind : Int) (mir : Bool) (w : World) (hr0 : Kd.C k34 w A0 l0.length l0) (hc0 : l0.length ≤ c0) (hct : c < l0.length) (r1 : List S34)
  (ha : larchlaw18_awake.f k = some true) (hd : larchlaw18_done.f k l0 c kind mir = some (r1, true)) (hw : (l0.getD c z34).f2 = 1000000) (hu : 0 < r1.length) :
  Calls Try.prog 6 #[.slice A0 l0.length c0, .int .i64 c, .agg #[.int .i64 kind, .bool mir]] w fun e w' => e = .returned (.bool true) ∧ Below w.heap.size w w' := by
 have hu24 := Try.underlying24
 have hu34 := Try.underlying34
 have HR0 := Am hr0
 have HC0 := Am hc0
 have HA := Am ha
 have HD := Am hd
 have HCT := Am hct
 have q1 : (((l0.getD c z34).f2) == 1000000) = true := by rw [hw]; rfl
 have q2 : decide (0 < (r1.length : Int)) = true := decide_eq_true (by omega)
 have q3 : decide (0 < r1.length) = true := decide_eq_true hu
 clear hr0 hc0 ha hd hct hw hu
 go_enter Try.func6, Try.ntmps6
 go_wp2_with (fail)
 refine (larchlaw18_awake.calls k true _ HA.out).mono ?_
 rintro e w1 ⟨rfl, hb⟩
 have hb0 : Below w.heap.size w w1 := ((Below.refl _ _).alloc (Nat.le_refl _) _).trans (hb.mono (by simp))
 have hbk : w1.heap[w.heap.size]? = some (.cells #[.int .i64 kind, .bool mir] 24 (0, 0)) := by rw [hb.block _ (by simp)]; exact heap_alloc_new w _
 have HB := Am hb0
 have HK := Am hbk
 have z0 : w1.cell? ⟨w.heap.size, 0, none⟩ = some (.int .i64 kind) := (cell_of hbk 0).trans rfl
 have z1 : w1.cell? ⟨w.heap.size, 1, none⟩ = some (.bool mir) := (cell_of hbk 1).trans rfl
 clear hb hb0 hbk
 go_wp2_with (fail)
 refine (larchlaw18_done.calls k A0 c0 l0 c kind mir r1 true _ (Kd.C_below HR0.out HB.out) HC0.out HD.out).mono ?_
 clear z0 z1
 rintro e w2 ⟨v2, rfl, ho, hb⟩
 obtain ⟨A2, c2, rfl⟩ := Kd.R_slice ho
 have HO2 := Am (Kd.R_lower ho HB.out.size)
 have hk2 := (hb.block w.heap.size (blk_lt HK.out)).trans HK.out
 have HB2 := Am (HB.out.trans (hb.mono HB.out.size))
 have HK2 := Am hk2
 have z0 : w2.cell? ⟨w.heap.size, 0, none⟩ = some (.int .i64 kind) := (cell_of hk2 0).trans rfl
 have z1 : w2.cell? ⟨w.heap.size, 1, none⟩ = some (.bool mir) := (cell_of hk2 1).trans rfl
 clear ho hb hk2 HB HK
 obtain ⟨ad, rfl, hz⟩ := rd_cells HR0.out HCT.out
 have y2 := (hz _ HB2.out).2.2.1
 have p1 : (0 ≤ (c : Int)) = True := eq_true (by omega)
 have p2 : ((c : Int) < (l0.length : Int)) = True := eq_true (by have := HCT.out; omega)
 clear hz
 generalize (l0.getD c z34).f2 = a at y2 q1
 go_wp2
 go_ret
 exact ⟨rfl, HB2.out⟩
set_option maxHeartbeats 4000000 in
set_option maxRecDepth 100000 in
theorem mirrors_full (k : Nat) (A0 : Option Addr) (c0 : Nat) (l0 : List S34) (c : Nat) (kind : Int) (mir : Bool) (w : World) (hr0 : Kd.C k34 w A0 l0.length l0) (hc0 : l0.length ≤ c0) (hct : c < l0.length) (r1 : List S34)
  (ha : larchlaw18_awake.f k = some true) (hd : larchlaw18_done.f k l0 c kind mir = some (r1, true)) (hw : (l0.getD c z34).f2 ≠ 1000000) (hlen : l0.length ≤ 100000)
  (r : Int) (x v : List S34) (j0 : Nat) (h1 : table_Root.f k l0 = some (r, 0)) (h2 : larchlaw18_flipped.f k l0 r = some (x, true)) (h3 : larchlaw18_flipped.f k (l0.set c (mkN (l0.getD c z34))) r = some (v, true))
  (hvu : v.length = x.length) (hul : x.length ≤ 100000) (hj0 : j0 < x.length) (he : ∀ j, j < j0 → (v.getD j z34).f2 = (x.getD j z34).f2) (hne : (v.getD j0 z34).f2 ≠ (x.getD j0 z34).f2)
  (b1 b11 b12 : Bool) (e1 : (kind != 1) = b1) (e11 : (kind != 11) = b11) (e12 : (kind != 12) = b12) (y z : List S34) (q : Int) (hd2 : larchlaw18_done.f k x j0 kind (if b1 && b11 && b12 then !mir else mir) = some (y, true))
  (h4 : table_Root.f k r1 = some (q, 0)) (h5 : larchlaw18_flipped.f k r1 q = some (z, true)) (h6 : larchref18_SameTable.f k y z = some true) :
  Calls Try.prog 6 #[.slice A0 l0.length c0, .int .i64 c, .agg #[.int .i64 kind, .bool mir]] w fun e w' => e = .returned (.bool true) ∧ Below w.heap.size w w' := by
 have hu24 := Try.underlying24
 have hu34 := Try.underlying34
 have HR0 := Am hr0
 have HC0 := Am hc0
 have HA := Am ha
 have HD := Am hd
 have HCT := Am hct
 have q1 : (((l0.getD c z34).f2) == 1000000) = false := by simpa using hw
 have HL := Am hlen
 have H1 := Am h1
 have H2 := Am h2
 have H3 := Am h3
 have HV := Am hvu
 have HU := Am hul
 have HJ := Am hj0
 have HE := Am he
 have HN := Am hne
 have HD2 := Am hd2
 have H4 := Am h4
 have H5 := Am h5
 have H6 := Am h6
 clear hr0 hc0 ha hd hct hw hlen h1 h2 h3 hvu hul hj0 he hne hd2 h4 h5 h6
 go_enter Try.func6, Try.ntmps6
 go_wp2_with (fail)
 refine (larchlaw18_awake.calls k true _ HA.out).mono ?_
 rintro e w1 ⟨rfl, hb⟩
 have hb0 : Below w.heap.size w w1 := ((Below.refl _ _).alloc (Nat.le_refl _) _).trans (hb.mono (by simp))
 have hbk : w1.heap[w.heap.size]? = some (.cells #[.int .i64 kind, .bool mir] 24 (0, 0)) := by rw [hb.block _ (by simp)]; exact heap_alloc_new w _
 have HB := Am hb0
 have HK := Am hbk
 have z0 : w1.cell? ⟨w.heap.size, 0, none⟩ = some (.int .i64 kind) := (cell_of hbk 0).trans rfl
 have z1 : w1.cell? ⟨w.heap.size, 1, none⟩ = some (.bool mir) := (cell_of hbk 1).trans rfl
 clear hb hb0 hbk
 go_wp2_with (fail)
 refine (larchlaw18_done.calls k A0 c0 l0 c kind mir r1 true _ (Kd.C_below HR0.out HB.out) HC0.out HD.out).mono ?_
 clear z0 z1
 rintro e w2 ⟨v2, rfl, ho, hb⟩
 obtain ⟨A2, c2, rfl⟩ := Kd.R_slice ho
 have HO2 := Am (Kd.R_lower ho HB.out.size)
 have hk2 := (hb.block w.heap.size (blk_lt HK.out)).trans HK.out
 have HB2 := Am (HB.out.trans (hb.mono HB.out.size))
 have HK2 := Am hk2
 have z0 : w2.cell? ⟨w.heap.size, 0, none⟩ = some (.int .i64 kind) := (cell_of hk2 0).trans rfl
 have z1 : w2.cell? ⟨w.heap.size, 1, none⟩ = some (.bool mir) := (cell_of hk2 1).trans rfl
 clear ho hb hk2 HB HK
 obtain ⟨ad, rfl, hz⟩ := rd_cells HR0.out HCT.out
 have y2 := (hz _ HB2.out).2.2.1
 have p1 : (0 ≤ (c : Int)) = True := eq_true (by omega)
 have p2 : ((c : Int) < (l0.length : Int)) = True := eq_true (by have := HCT.out; omega)
 clear hz
 generalize (l0.getD c z34).f2 = a at y2 q1
 go_wp2_with (fail)
 refine (mirrored_calls k (some ad) c0 l0 c r x v j0 _ (Kd.C_below HR0.out HB2.out) HC0.out HCT.out HL.out H1.out H2.out H3.out HV.out HU.out HJ.out HE.out HN.out).mono ?_
 clear z0 z1 y2 q1
 rintro e w3 ⟨v3, rfl, ho, hb⟩
 obtain ⟨A3, c3, rfl⟩ := Kd.R_slice ho
 have HO3 := Am (Kd.R_lower ho HB2.out.size)
 have HP3 := Am (Kd.R_below HO2.out hb)
 have hk3 := (hb.block w.heap.size (blk_lt HK2.out)).trans HK2.out
 have hlt3 := blk_lt hk3
 have HB3 := Am (HB2.out.trans (hb.mono HB2.out.size))
 have z0 : w3.cell? ⟨w.heap.size, 0, none⟩ = some (.int .i64 kind) := (cell_of hk3 0).trans rfl
 have z1 : w3.cell? ⟨w.heap.size, 1, none⟩ = some (.bool mir) := (cell_of hk3 1).trans rfl
 clear ho hb hk3 HO2 HB2 HK2
 cases b1 <;> cases b11 <;> cases b12
 all_goals
  go_wp2_with (fail)
  refine (larchlaw18_done.calls k A3 c3 x j0 kind _ y true _ (Kd.R_reads' (Kd.R_alloc HO3.out _)).2.2 (Kd.R_reads' HO3.out).2.1 HD2.out).mono ?_
  clear z0 z1 e1 e11 e12
  rintro e w4 ⟨v4, rfl, ho, hb⟩
  obtain ⟨A4, c4, rfl⟩ := Kd.R_slice ho
  have HO4 := Am (Kd.R_lower ho (below_size (ba HB3.out _)))
  have HP4 := Am (Kd.R_below (Kd.R_alloc HP3.out _) hb)
  have HB4 := Am ((ba HB3.out _).trans (hb.mono (below_size (ba HB3.out _))))
  clear ho hb HO3 HP3 HB3
  go_wp2_with (fail)
  refine (table_Root.calls k A2 c2 r1 q 0 _ (Kd.R_reads' HP4.out).2.2 (Kd.R_reads' HP4.out).2.1 H4.out).mono ?_
  rintro e w5 ⟨rfl, hb⟩
  have HO5 := Am (Kd.R_below HO4.out hb)
  have HP5 := Am (Kd.R_below HP4.out hb)
  have HB5 := Am (HB4.out.trans (hb.mono HB4.out.size))
  clear hb HO4 HP4 HB4
  go_wp2_with (fail)
  refine (flipped_calls k A2 c2 r1 q z _ (Kd.R_reads' HP5.out).2.2 (Kd.R_reads' HP5.out).2.1 H5.out).mono ?_
  rintro e w6 ⟨v6, rfl, ho, hb⟩
  obtain ⟨A6, c6, rfl⟩ := Kd.R_slice ho
  have HO6 := Am (Kd.R_below HO5.out hb)
  have HQ6 := Am ho
  have HB6 := Am (HB5.out.trans (hb.mono HB5.out.size))
  clear ho hb HO5 HP5 HB5
  go_wp2_with (fail)
  refine (larchref18_SameTable.calls k A4 c4 y A6 c6 z true _ (Kd.R_reads' HO6.out).2.2 (Kd.R_reads' HO6.out).2.1 (Kd.R_reads' HQ6.out).2.2 (Kd.R_reads' HQ6.out).2.1 H6.out).mono ?_
  rintro e w7 ⟨rfl, m, rfl⟩
  go_wp2
  go_ret
  exact ⟨rfl, bn HB6.out _⟩
end Go.Proofs.Ytgleaefhflamnaa.T
/- StepsMirrors: for every table, place and move the law returns true. -/
namespace Go.Proofs.Ytgleaefhflamnaa.T
open Go.RowKit Go.Proofs.YtgleaefhflamnaaW.PrintWords Go.Proofs.YtgleaefhflamnaaW.PrintLast Go.Proofs.YtgleaefhflamnaaW.PrintMore
set_option linter.unusedVariables false
theorem mirrored_parts {t : List S34} {T X0 W : Tr} {c0 : Nat} (hg : Good t T) (hX : Crown T X0) (hF : Flip t T X0 c0 W) {c : Nat} (hin : (c : Int) ∈ plT X0) (hct : c < t.length) (hne : (t.getD c z34).f2 ≠ 1000000) :
  ∃ (k j0 : Nat) (v : List S34), table_Root.f k t = some ((c0 : Int), 0) ∧ larchlaw18_flipped.f k t c0 = some (flatT W 0, true) ∧ larchlaw18_flipped.f k (t.set c (mkN (t.getD c z34))) c0 = some (v, true) ∧ v.length = (flatT W 0).length ∧ (flatT W 0).length ≤ 100000 ∧ j0 < (flatT W 0).length ∧
   (∀ j, j < j0 → (v.getD j z34).f2 = ((flatT W 0).getD j z34).f2) ∧ (v.getD j0 z34).f2 ≠ ((flatT W 0).getD j0 z34).f2 ∧ j0 < (plT W).length ∧ (plT W).getD j0 0 = (c : Int) := by
 have hlen := hg.len
 have hWsz := hF.size
 obtain ⟨k1, h1⟩ := root_at hg hX
 rw [hF.at0] at h1
 obtain ⟨k2, h2⟩ := flipped_tree hg hX hF.at0
 rw [← hF.isW] at h2
 have hgm := good_mark hg c
 have hXm := crown_wc hX hg.nodup hin
 obtain ⟨k3, h3⟩ := flipped_tree hgm hXm (c0 := c0) (by rw [plc_wc]; exact hF.at0)
 rw [← wc_m, ← wc_repl, ← hF.isW] at h3
 obtain ⟨j0, hj0, hjc⟩ := List.getElem_of_mem (hF.mem _ hin)
 have spl := size_pl W
 have hjc' : (plT W).getD j0 0 = (c : Int) := by rw [getD_elem hj0, hjc]
 have hw : Wg (fun p => (t.getD p.toNat z34).f2) W := by
  rw [hF.isW]
  obtain ⟨c', _, _, hm, _, _⟩ := crown_tree hg hX
  exact wg_repl (wg_m (mk_wg hg.form _ _ _ hm)) (mk_wg hg.form _ _ _ hg.tree)
 have hok2 : Ok (wcT c W) := by
  have := repl_ok (ok_m (ok_mkT hgm.form (crown_tree hgm hXm).choose_spec.2.2.1)) (good_ok hgm) (c := c0)
  rw [hF.isW, wc_repl, wc_m]
  exact this
 have hsw : sizeT (wcT c W) = sizeT W := by rw [size_pl, size_pl, pl_wc]
 have wu := flat_wg hF.ok hw 0
 have wv := flat_wg hok2 (wg_wc (c := c) hw) 0
 rw [pl_wc, hsw] at wv
 have lu := flT_len hF.ok 0
 have lv := flT_len hok2 0
 refine ⟨max k1 (max k2 k3), j0, flatT (wcT c W) 0, up_to (fun k => table_Root.mono _ k) (by omega : k1 ≤ _) h1, up_to (fun k => larchlaw18_flipped.mono _ _ k) (by omega : k2 ≤ _) h2, up_to (fun k => larchlaw18_flipped.mono _ _ k) (by omega : k3 ≤ _) h3, by omega, by omega, by omega, ?_, ?_, hj0, hjc'⟩
 ·intro j hj
  rw [wu j (by omega), wv j (by omega)]
  refine if_neg ?_
  rw [← hjc']
  exact getD_idx hF.nodup (by omega) hj0 (by omega)
 ·rw [wu j0 (by omega), wv j0 (by omega), hjc']
  simp only [Int.toNat_natCast]
  rw [if_pos trivial]
  exact fun e => hne e.symm
theorem mirrors_any (A0 : Option Addr) (c0 : Nat) (l0 : List S34) (a1 kind : Int) (mir : Bool) (w : World) (hr0 : Kd.C k34 w A0 l0.length l0) (hc0 : l0.length ≤ c0) :
  Calls Try.prog 6 #[.slice A0 l0.length c0, .int .i64 a1, .agg #[.int .i64 kind, .bool mir]] w fun e w' => e = .returned (.bool true) ∧ Below w.heap.size w w' := by
 obtain ⟨ka, hka⟩ := awake_true
 obtain ⟨kd, r1, r2, hkd, hr⟩ := do_total l0 a1 kind mir
 have hdn := done_f hkd
 have upA : ∀ {K}, ka ≤ K → larchlaw18_awake.f K = some true := fun h => up_to (fun k => larchlaw18_awake.mono k) h hka
 have upD : ∀ {K}, kd ≤ K → larchlaw18_done.f K l0 a1 kind mir = some (r1, r2 == 0) := fun h => up_to (fun k => larchlaw18_done.mono l0 a1 kind mir k) h hdn
 rcases hr with ⟨h2, rfl⟩ | ⟨rfl, T, X0, X, R, c, rt, hm⟩
 ·exact mirrors_no (max ka kd) A0 c0 l0 a1 kind mir w hr0 hc0 [] (upA (Nat.le_max_left _ _)) (by rw [upD (Nat.le_max_right _ _), show (r2 == 0) = false by simpa using h2])
 ·obtain ⟨_, ht⟩ := moved_two hm
  have hg := hm.good
  have hct : c < l0.length := by
   obtain ⟨c0, _, _, hm0, _, _⟩ := crown_tree hg hm.crown
   have := (plT_mem _ _ _ hm0).2 _ hm.inX
   omega
  have hpl := hm.place
  subst hpl
  have hp := hg.pos
  have hl := ht.len
  by_cases hw : (l0.getD c z34).f2 = 1000000
  ·exact mirrors_max (max ka kd) A0 c0 l0 c kind mir w hr0 hc0 hct r1 (upA (Nat.le_max_left _ _)) (upD (Nat.le_max_right _ _)) hw (by omega)
  ·obtain ⟨d0, hF⟩ := flip_of hg hm.crown
   obtain ⟨km, j0, v, m1, m2, m3, m4, m5, m6, m7, m8, hj, hjc⟩ := mirrored_parts hg hm.crown hF hm.inX hct hw
   rw [getD_elem hj] at hjc
   have hmv := move_of_do hkd
   obtain ⟨ky, hky⟩ := mirror_moved hm hmv hF hj hjc
   have hdy := done_f hky
   obtain ⟨kr, hkr⟩ := root_at ht.goodU ht.crownU
   have h20 : plc (renT (newX c R X0) 2) = ((2 : Nat) : Int) := by rw [ht.atU]; rfl
   obtain ⟨kf, hkf⟩ := flipped_tree ht.goodU ht.crownU h20
   rw [h20] at hkr
   have hlz : (flatT (replT 2 (mirT (renT (newX c R X0) 2)) (renT (replT c R T) 0)) 0).length ≤ 1000000 := by
    obtain ⟨c2, hF2⟩ := flip_of ht.goodU ht.crownU
    have e : c2 = 2 := by have := hF2.at0; omega
    subst e
    rw [flT_len hF2.ok, hF2.size]
    have := ht.goodU.len
    omega
   obtain ⟨ks, hks⟩ := same_self _ hlz
   have hmm : (if (kind != 1) && (kind != 11) && (kind != 12) then !mir else mir) = mirM kind mir := by
    unfold mirM
    by_cases e1 : kind = 1
    ·simp [e1]
    ·by_cases e11 : kind = 11
     ·simp [e11]
     ·by_cases e12 : kind = 12
      ·simp [e12]
      ·simp [e1, e11, e12]
   have hK : ∀ n, n ≤ ka + kd + km + ky + kr + kf + ks → n ≤ ka + kd + km + ky + kr + kf + ks := fun _ h => h
   exact mirrors_full (ka + kd + km + ky + kr + kf + ks) A0 c0 l0 c kind mir w hr0 hc0 hct r1 (upA (by omega)) (upD (by omega)) hw hg.len d0 _ v j0
    (up_to (fun k => table_Root.mono _ k) (show km ≤ _ by omega) m1) (up_to (fun k => larchlaw18_flipped.mono _ _ k) (show km ≤ _ by omega) m2) (up_to (fun k => larchlaw18_flipped.mono _ _ k) (show km ≤ _ by omega) m3) m4 m5 m6 m7 m8
    _ _ _ rfl rfl rfl _ _ _ (by rw [hmm]; exact up_to (fun k => larchlaw18_done.mono _ _ _ _ k) (show ky ≤ _ by omega) hdy)
    (up_to (fun k => table_Root.mono _ k) (show kr ≤ _ by omega) hkr) (up_to (fun k => larchlaw18_flipped.mono _ _ k) (show kf ≤ _ by omega) hkf) (up_to (fun k => larchref18_SameTable.mono _ _ k) (show ks ≤ _ by omega) hks)
end Go.Proofs.Ytgleaefhflamnaa.T
