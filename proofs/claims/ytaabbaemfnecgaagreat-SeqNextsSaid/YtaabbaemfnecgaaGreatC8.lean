/- A part of the proof: see YtaabbaemfnecgaaGreatLawSeqNexts. -/
import Derived.Test.YtaabbaemfnecgaaGreatC7
set_option linter.unusedVariables false
set_option linter.unusedSimpArgs false
set_option maxHeartbeats 32000000
set_option maxRecDepth 100000
namespace Go.Proofs.YtaabbaemfnecgaaGreat.T
open Go.RowKit Go.Proofs.YtaabbaemfnecgaaGreatW.PrintWords Go.Proofs.YtaabbaemfnecgaaGreatW.PrintLast Go.Proofs.YtaabbaemfnecgaaGreatW.PrintMore
attribute [local go_sem] Tryz.underlying22 Tryz.underlying27 Tryz.underlying49 Tryz.underlying60 Tryz.underlying69 Tryz.underlying71 Tryz.underlying107 Tryz.underlying148 Tryz.underlying165 Tryz.underlying175
section
open Go.Proofs.YtaabbaemfnecgaaGreat.V
theorem gen_l {P : Program} {ops : Array Oper} {Q : Exit → Act → World → Prop} {l : List Oper} {a : Act} {W : World} (S : World → Prop) (h : S W) (k : ∀ W', S W' → wpList P ops Q l a W') : wpList P ops Q l a W := k W h
theorem Bt.ne {W : World} {B g : Nat} {t : List S69} (h : Bt W B g t) (hp : 0 < t.length) {gb T : Nat} {c : Array Value} (hb : W.heap[gb]? = some (.cells c T (0, 0))) (ht : (T == 148) = false) : gb ≠ g := by
 obtain ⟨c, h⟩ := h
 exact row_ne h hp hb ht
theorem box107 {W : World} {g : Nat} {a b c d : Value} (h : W.heap[g]? = some (.cells #[a, b, c, d] 107 (0, 0))) : W.cell? ⟨g, 0, none⟩ = some a ∧ W.cell? ⟨g, 1, none⟩ = some b ∧ W.cell? ⟨g, 2, none⟩ = some c ∧ W.cell? ⟨g, 3, none⟩ = some d ∧ W.frozen? ⟨g, 0, none⟩ = false ∧ W.frozen? ⟨g, 1, none⟩ = false ∧ W.frozen? ⟨g, 2, none⟩ = false ∧ W.frozen? ⟨g, 3, none⟩ = false :=
 ⟨(blk_cell h 0).trans rfl, (blk_cell h 1).trans rfl, (blk_cell h 2).trans rfl, (blk_cell h 3).trans rfl, blk_frozen h 0, blk_frozen h 1, blk_frozen h 2, blk_frozen h 3⟩
structure In2 (t : List S69) (e a b : Nat) : Prop where
 pe : e < t.length
 pl : (t.getD e z69).f4 = a
 pr : (t.getD e z69).f5 = b
 pa : a < t.length
 pb : b < t.length
theorem In2.fl {t : List S69} {e a b : Nat} (h : In2 t e a b) (g : Nat) : (nodB g (t.getD e z69)).f4 = some ⟨g, a * 6, none⟩ := by
 unfold nodB
 rw [h.pl, h.pr]
 show (if (a : Int) = -1 then none else pB g (a : Int)) = _
 rw [if_neg (by omega)]
 rfl
theorem In2.fr {t : List S69} {e a b : Nat} (h : In2 t e a b) (g : Nat) : (nodB g (t.getD e z69)).f5 = some ⟨g, b * 6, none⟩ := by
 unfold nodB
 rw [h.pl, h.pr]
 show (if (a : Int) = -1 then none else pB g (b : Int)) = _
 rw [if_neg (by omega)]
 rfl
theorem side_in {w : World} {B g : Nat} {t : List S69} (hb : Bt w B g t) {j a b : Nat} (h : In2 t j a b) (m : Bool) :
  Calls Tryz.prog 112 #[.pointer (some ⟨g, j * 6, none⟩), .bool m] w (RB w (.tuple #[.pointer (some ⟨g, (if m then b else a) * 6, none⟩), .pointer (some ⟨g, (if m then a else b) * 6, none⟩)])) := by
 refine (side_calls hb h.pe m).mono ?_
 rintro _ w' ⟨rfl, hb'⟩
 refine ⟨?_, hb'⟩
 rw [h.fl g, h.fr g]
 cases m <;> rfl
def redK (t : List S69) (m : Bool) (o p : Nat) : Int := if (t.getD o z69).f2 = 0 then 1 else if (t.getD p z69).f2 = 0 then 2 else 3
def redM (t : List S69) (m : Bool) (o : Nat) : Bool := if (t.getD o z69).f2 = 0 then false else m
theorem red_calls {w : World} {B g : Nat} {t : List S69} (hb : Bt w B g t) (u e f a b c d : Nat) (he : In2 t e a b) (hf : In2 t f c d) (m : Bool) (hm : decide (b = f) = m) :
  Calls Tryz.prog 111 #[.pointer (some ⟨g, u * 6, none⟩), .pointer (some ⟨g, e * 6, none⟩), .pointer (some ⟨g, f * 6, none⟩)] w (RB w (.agg #[.pointer (some ⟨g, u * 6, none⟩), .pointer (some ⟨g, e * 6, none⟩), .int .i64 (redK t m (if m then a else b) (if m then d else c)), .bool (redM t m (if m then a else b))])) := by
 have HBT := Am hb
 have HE := Am he
 have HF := Am hf
 have HB := Br w
 obtain ⟨o, ho⟩ : ∃ o, (if m then a else b) = o := ⟨_, rfl⟩
 obtain ⟨p, hp⟩ : ∃ p, (if m then d else c) = p := ⟨_, rfl⟩
 have HO := Am ho
 have HP := Am hp
 obtain ⟨o2, ho2⟩ : ∃ o2, (if m then b else a) = o2 := ⟨_, rfl⟩
 obtain ⟨p2, hp2⟩ : ∃ p2, (if m then c else d) = p2 := ⟨_, rfl⟩
 have HO2 := Am ho2
 have HP2 := Am hp2
 have HOL := Am (show o < t.length by rw [← ho]; split; exact he.pa; exact he.pb)
 have HPL := Am (show p < t.length by rw [← hp]; split; exact hf.pb; exact hf.pa)
 rw [ho, hp]
 have heq := run_eq94 g b f
 rw [hm] at heq
 obtain ⟨no, hno⟩ : ∃ no, t.getD o z69 = no := ⟨_, rfl⟩
 obtain ⟨np, hnp⟩ : ∃ np, t.getD p z69 = np := ⟨_, rfl⟩
 rw [redK, redM, hno, hnp]
 have HNO := Am hno
 have HNP := Am hnp
 clear hb he hf ho hp ho2 hp2 hm hno hnp
 cases q1 : (no.f2 == 0) with
 | true =>
  have h1 : no.f2 = 0 := by simpa using q1
  rw [if_pos h1, if_pos h1]
  clear h1
  go_enter Tryz.func111, Tryz.ntmps111
  go_wp2_with (first | ((with_reducible refine Gd 6 rfl ?_); refine bF 6 HB.out (cs := #[.pointer none, .pointer none, .int .i64 0, .bool false]) (t := 107) ?_; clear HB; intro ga w_ga GX_ga GE_ga HK_ga HB BB_ga; obtain ⟨y0, y1, y2, y3, f0, f1, f2, f3⟩ := box107 HK_ga.out; obtain ⟨z0, z1, z2, z3, z4, z5⟩ := (HBT.out.below HB.out).at HE.out.pe; rw [HE.out.fr g] at z5))
  refine (side_in (HBT.out.below HB.out) HE.out m).mono ?_
  rintro _ w2 ⟨rfl, hb2⟩
  rw [HO.out, HO2.out]
  have HK2 := Am (blkB hb2 HK_ga.out)
  have HB2 := Am (bel_t HB.out hb2)
  clear hb2 HK_ga HB BB_ga heq y0 y1 y2 y3 f0 f1 f2 f3 z0 z1 z2 z3 z4 z5
  go_wp2_with (fail)
  refine (side_in (HBT.out.below HB2.out) HF.out m).mono ?_
  rintro _ w3 ⟨rfl, hb3⟩
  rw [HP.out, HP2.out]
  have HK3 := Am (blkB hb3 HK2.out)
  have HB := Am (bel_t HB2.out hb3)
  clear hb3 HK2 HB2
  go_wp2_with (first | ((with_reducible refine Gd 12 rfl ?_); refine bF 12 HB.out (cs := #[.pointer none, .pointer none, .int .i64 0, .bool false]) (t := 107) ?_; clear HB; intro gc w_gc GX_gc GE_gc HK_gc HB BB_gc; obtain ⟨y0, y1, y2, y3, f0, f1, f2, f3⟩ := box107 HK_gc.out) | ((with_reducible refine Gd 39 rfl ?_); have hne : ga ≠ gc := (by (intro e; have h1 := blk_lt HK3.out; have h2 := GX_gc.out; omega)); refine gen_l (fun W => W.heap[gc]? = some (.cells #[.pointer (some ⟨g, u * 6, none⟩), .pointer (some ⟨g, e * 6, none⟩), .int .i64 3, .bool m] 107 (0, 0)) ∧ W.heap[ga]? = some (.cells #[.pointer none, .pointer none, .int .i64 0, .bool false] 107 (0, 0)) ∧ Bt W B g t ∧ Below w.heap.size w W) ⟨blk_set (blk_set (blk_set (blk_set HK_gc.out 0 (.pointer (some ⟨g, u * 6, none⟩))) 1 (.pointer (some ⟨g, e * 6, none⟩))) 2 (.int .i64 3)) 3 (.bool m), blk_far (blk_far (blk_far (blk_far (blkB BB_gc.out HK3.out) (p := ⟨gc, 0, none⟩) hne _) (p := ⟨gc, 1, none⟩) hne _) (p := ⟨gc, 2, none⟩) hne _) (p := ⟨gc, 3, none⟩) hne _, HBT.out.below (below_set (below_set (below_set (below_set HB.out GE_gc.out (j := 0) (v := (.pointer (some ⟨g, u * 6, none⟩)))) GE_gc.out (j := 1) (v := (.pointer (some ⟨g, e * 6, none⟩)))) GE_gc.out (j := 2) (v := .int .i64 3)) GE_gc.out (j := 3) (v := .bool m)), below_set (below_set (below_set (below_set HB.out GE_gc.out (j := 0) (v := (.pointer (some ⟨g, u * 6, none⟩)))) GE_gc.out (j := 1) (v := (.pointer (some ⟨g, e * 6, none⟩)))) GE_gc.out (j := 2) (v := .int .i64 3)) GE_gc.out (j := 3) (v := .bool m)⟩ (fun w7 hh => ?_); clear HK_gc y0 y1 y2 y3 f0 f1 f2 f3 HB BB_gc; obtain ⟨hk7, hl7, ht7, hb7⟩ := hh; have hne2 : ¬ (gc = ga) := (fun e => hne e.symm); obtain ⟨y0, y1, y2, y3, f0, f1, f2, f3⟩ := box107 hk7; obtain ⟨v0, v1, v2, v3, e0, e1, e2, e3⟩ := box107 hl7; obtain ⟨-, -, oc_, -, -, -⟩ := ht7.at HOL.out; obtain ⟨-, -, pc_, -, -, -⟩ := ht7.at HPL.out; rw [HNO.out] at oc_; rw [HNP.out] at pc_; have hng := Bt.ne ht7 (Nat.lt_of_le_of_lt (Nat.zero_le _) HOL.out) hk7 rfl; have hng2 : ¬ (g = gc) := (fun e => hng e.symm); have HK7 := Am hk7; have HL7 := Am hl7; have HB := Am hb7; clear hk7 hl7 ht7 hb7))
  refine bodyPost_ret (results_cell_row rfl _ _ ga 107 #[.pointer (some ⟨g, u * 6, none⟩), .pointer (some ⟨g, e * 6, none⟩), .int .i64 1, .bool false] (0, 0) _ rfl (by apply bp4; with_reducible repeat (first | exact HL7.out | refine blk_far ?_ hne _)) Tryz.underlying107 rfl (by kernel_rfl)) rfl ?_
  exact dd46
 | false =>
  have h1 : ¬ no.f2 = 0 := by simpa using q1
  rw [if_neg h1, if_neg h1]
  clear h1
  cases q2 : (np.f2 == 0) with
  | true =>
   have h2 : np.f2 = 0 := by simpa using q2
   rw [if_pos h2]
   clear h2
   go_enter Tryz.func111, Tryz.ntmps111
   go_wp2_with (first | ((with_reducible refine Gd 6 rfl ?_); refine bF 6 HB.out (cs := #[.pointer none, .pointer none, .int .i64 0, .bool false]) (t := 107) ?_; clear HB; intro ga w_ga GX_ga GE_ga HK_ga HB BB_ga; obtain ⟨y0, y1, y2, y3, f0, f1, f2, f3⟩ := box107 HK_ga.out; obtain ⟨z0, z1, z2, z3, z4, z5⟩ := (HBT.out.below HB.out).at HE.out.pe; rw [HE.out.fr g] at z5))
   refine (side_in (HBT.out.below HB.out) HE.out m).mono ?_
   rintro _ w2 ⟨rfl, hb2⟩
   rw [HO.out, HO2.out]
   have HK2 := Am (blkB hb2 HK_ga.out)
   have HB2 := Am (bel_t HB.out hb2)
   clear hb2 HK_ga HB BB_ga heq y0 y1 y2 y3 f0 f1 f2 f3 z0 z1 z2 z3 z4 z5
   go_wp2_with (fail)
   refine (side_in (HBT.out.below HB2.out) HF.out m).mono ?_
   rintro _ w3 ⟨rfl, hb3⟩
   rw [HP.out, HP2.out]
   have HK3 := Am (blkB hb3 HK2.out)
   have HB := Am (bel_t HB2.out hb3)
   clear hb3 HK2 HB2
   go_wp2_with (first | ((with_reducible refine Gd 12 rfl ?_); refine bF 12 HB.out (cs := #[.pointer none, .pointer none, .int .i64 0, .bool false]) (t := 107) ?_; clear HB; intro gc w_gc GX_gc GE_gc HK_gc HB BB_gc; obtain ⟨y0, y1, y2, y3, f0, f1, f2, f3⟩ := box107 HK_gc.out) | ((with_reducible refine Gd 39 rfl ?_); have hne : ga ≠ gc := (by (intro e; have h1 := blk_lt HK3.out; have h2 := GX_gc.out; omega)); refine gen_l (fun W => W.heap[gc]? = some (.cells #[.pointer (some ⟨g, u * 6, none⟩), .pointer (some ⟨g, e * 6, none⟩), .int .i64 3, .bool m] 107 (0, 0)) ∧ W.heap[ga]? = some (.cells #[.pointer none, .pointer none, .int .i64 0, .bool false] 107 (0, 0)) ∧ Bt W B g t ∧ Below w.heap.size w W) ⟨blk_set (blk_set (blk_set (blk_set HK_gc.out 0 (.pointer (some ⟨g, u * 6, none⟩))) 1 (.pointer (some ⟨g, e * 6, none⟩))) 2 (.int .i64 3)) 3 (.bool m), blk_far (blk_far (blk_far (blk_far (blkB BB_gc.out HK3.out) (p := ⟨gc, 0, none⟩) hne _) (p := ⟨gc, 1, none⟩) hne _) (p := ⟨gc, 2, none⟩) hne _) (p := ⟨gc, 3, none⟩) hne _, HBT.out.below (below_set (below_set (below_set (below_set HB.out GE_gc.out (j := 0) (v := (.pointer (some ⟨g, u * 6, none⟩)))) GE_gc.out (j := 1) (v := (.pointer (some ⟨g, e * 6, none⟩)))) GE_gc.out (j := 2) (v := .int .i64 3)) GE_gc.out (j := 3) (v := .bool m)), below_set (below_set (below_set (below_set HB.out GE_gc.out (j := 0) (v := (.pointer (some ⟨g, u * 6, none⟩)))) GE_gc.out (j := 1) (v := (.pointer (some ⟨g, e * 6, none⟩)))) GE_gc.out (j := 2) (v := .int .i64 3)) GE_gc.out (j := 3) (v := .bool m)⟩ (fun w7 hh => ?_); clear HK_gc y0 y1 y2 y3 f0 f1 f2 f3 HB BB_gc; obtain ⟨hk7, hl7, ht7, hb7⟩ := hh; have hne2 : ¬ (gc = ga) := (fun e => hne e.symm); obtain ⟨y0, y1, y2, y3, f0, f1, f2, f3⟩ := box107 hk7; obtain ⟨v0, v1, v2, v3, e0, e1, e2, e3⟩ := box107 hl7; obtain ⟨-, -, oc_, -, -, -⟩ := ht7.at HOL.out; obtain ⟨-, -, pc_, -, -, -⟩ := ht7.at HPL.out; rw [HNO.out] at oc_; rw [HNP.out] at pc_; have hng := Bt.ne ht7 (Nat.lt_of_le_of_lt (Nat.zero_le _) HOL.out) hk7 rfl; have hng2 : ¬ (g = gc) := (fun e => hng e.symm); have HK7 := Am hk7; have HL7 := Am hl7; have HB := Am hb7; clear hk7 hl7 ht7 hb7))
   refine bodyPost_ret (results_cell_row rfl _ _ ga 107 #[.pointer (some ⟨g, u * 6, none⟩), .pointer (some ⟨g, e * 6, none⟩), .int .i64 2, .bool m] (0, 0) _ rfl (by apply bp4; with_reducible repeat (first | exact HL7.out | refine blk_far ?_ hne _)) Tryz.underlying107 rfl (by kernel_rfl)) rfl ?_
   exact dd46
  | false =>
   have h2 : ¬ np.f2 = 0 := by simpa using q2
   rw [if_neg h2]
   clear h2
   go_enter Tryz.func111, Tryz.ntmps111
   go_wp2_with (first | ((with_reducible refine Gd 6 rfl ?_); refine bF 6 HB.out (cs := #[.pointer none, .pointer none, .int .i64 0, .bool false]) (t := 107) ?_; clear HB; intro ga w_ga GX_ga GE_ga HK_ga HB BB_ga; obtain ⟨y0, y1, y2, y3, f0, f1, f2, f3⟩ := box107 HK_ga.out; obtain ⟨z0, z1, z2, z3, z4, z5⟩ := (HBT.out.below HB.out).at HE.out.pe; rw [HE.out.fr g] at z5))
   refine (side_in (HBT.out.below HB.out) HE.out m).mono ?_
   rintro _ w2 ⟨rfl, hb2⟩
   rw [HO.out, HO2.out]
   have HK2 := Am (blkB hb2 HK_ga.out)
   have HB2 := Am (bel_t HB.out hb2)
   clear hb2 HK_ga HB BB_ga heq y0 y1 y2 y3 f0 f1 f2 f3 z0 z1 z2 z3 z4 z5
   go_wp2_with (fail)
   refine (side_in (HBT.out.below HB2.out) HF.out m).mono ?_
   rintro _ w3 ⟨rfl, hb3⟩
   rw [HP.out, HP2.out]
   have HK3 := Am (blkB hb3 HK2.out)
   have HB := Am (bel_t HB2.out hb3)
   clear hb3 HK2 HB2
   go_wp2_with (first | ((with_reducible refine Gd 12 rfl ?_); refine bF 12 HB.out (cs := #[.pointer none, .pointer none, .int .i64 0, .bool false]) (t := 107) ?_; clear HB; intro gc w_gc GX_gc GE_gc HK_gc HB BB_gc; obtain ⟨y0, y1, y2, y3, f0, f1, f2, f3⟩ := box107 HK_gc.out) | ((with_reducible refine Gd 39 rfl ?_); have hne : ga ≠ gc := (by (intro e; have h1 := blk_lt HK3.out; have h2 := GX_gc.out; omega)); refine gen_l (fun W => W.heap[gc]? = some (.cells #[.pointer (some ⟨g, u * 6, none⟩), .pointer (some ⟨g, e * 6, none⟩), .int .i64 3, .bool m] 107 (0, 0)) ∧ W.heap[ga]? = some (.cells #[.pointer none, .pointer none, .int .i64 0, .bool false] 107 (0, 0)) ∧ Bt W B g t ∧ Below w.heap.size w W) ⟨blk_set (blk_set (blk_set (blk_set HK_gc.out 0 (.pointer (some ⟨g, u * 6, none⟩))) 1 (.pointer (some ⟨g, e * 6, none⟩))) 2 (.int .i64 3)) 3 (.bool m), blk_far (blk_far (blk_far (blk_far (blkB BB_gc.out HK3.out) (p := ⟨gc, 0, none⟩) hne _) (p := ⟨gc, 1, none⟩) hne _) (p := ⟨gc, 2, none⟩) hne _) (p := ⟨gc, 3, none⟩) hne _, HBT.out.below (below_set (below_set (below_set (below_set HB.out GE_gc.out (j := 0) (v := (.pointer (some ⟨g, u * 6, none⟩)))) GE_gc.out (j := 1) (v := (.pointer (some ⟨g, e * 6, none⟩)))) GE_gc.out (j := 2) (v := .int .i64 3)) GE_gc.out (j := 3) (v := .bool m)), below_set (below_set (below_set (below_set HB.out GE_gc.out (j := 0) (v := (.pointer (some ⟨g, u * 6, none⟩)))) GE_gc.out (j := 1) (v := (.pointer (some ⟨g, e * 6, none⟩)))) GE_gc.out (j := 2) (v := .int .i64 3)) GE_gc.out (j := 3) (v := .bool m)⟩ (fun w7 hh => ?_); clear HK_gc y0 y1 y2 y3 f0 f1 f2 f3 HB BB_gc; obtain ⟨hk7, hl7, ht7, hb7⟩ := hh; have hne2 : ¬ (gc = ga) := (fun e => hne e.symm); obtain ⟨y0, y1, y2, y3, f0, f1, f2, f3⟩ := box107 hk7; obtain ⟨v0, v1, v2, v3, e0, e1, e2, e3⟩ := box107 hl7; obtain ⟨-, -, oc_, -, -, -⟩ := ht7.at HOL.out; obtain ⟨-, -, pc_, -, -, -⟩ := ht7.at HPL.out; rw [HNO.out] at oc_; rw [HNP.out] at pc_; have hng := Bt.ne ht7 (Nat.lt_of_le_of_lt (Nat.zero_le _) HOL.out) hk7 rfl; have hng2 : ¬ (g = gc) := (fun e => hng e.symm); have HK7 := Am hk7; have HL7 := Am hl7; have HB := Am hb7; clear hk7 hl7 ht7 hb7))
   refine bodyPost_ret (results_cell_row rfl _ _ ga 107 #[.pointer (some ⟨g, u * 6, none⟩), .pointer (some ⟨g, e * 6, none⟩), .int .i64 3, .bool m] (0, 0) _ rfl (by apply bp4; with_reducible repeat (first | exact HL7.out | refine blk_far ?_ hne _)) Tryz.underlying107 rfl (by kernel_rfl)) rfl ?_
   exact dd46
end
section
open Go.Proofs.YtaabbaemfnecgaaGreat.V
theorem box175 {W : World} {g : Nat} {a b c : Value} (h : W.heap[g]? = some (.cells #[a, b, c] 175 (0, 0))) : W.cell? ⟨g, 0, none⟩ = some a ∧ W.cell? ⟨g, 1, none⟩ = some b ∧ W.cell? ⟨g, 2, none⟩ = some c ∧ W.frozen? ⟨g, 0, none⟩ = false ∧ W.frozen? ⟨g, 1, none⟩ = false ∧ W.frozen? ⟨g, 2, none⟩ = false :=
 ⟨(blk_cell h 0).trans rfl, (blk_cell h 1).trans rfl, (blk_cell h 2).trans rfl, blk_frozen h 0, blk_frozen h 1, blk_frozen h 2⟩
theorem box49 {W : World} {g : Nat} {a b : Value} (h : W.heap[g]? = some (.cells #[a, b] 49 (0, 0))) : W.cell? ⟨g, 0, none⟩ = some a ∧ W.cell? ⟨g, 1, none⟩ = some b ∧ W.frozen? ⟨g, 0, none⟩ = false ∧ W.frozen? ⟨g, 1, none⟩ = false :=
 ⟨(blk_cell h 0).trans rfl, (blk_cell h 1).trans rfl, blk_frozen h 0, blk_frozen h 1⟩
section
variable {A0 Ap : Option Addr} {c0 cp : Nat} {t : List S69} {par : List Int} {m : Bool} {w : World}
theorem lw_calls (hr0 : Kd.C k69 w A0 t.length t) (hc0 : t.length ≤ c0) (hr1 : Kd.C (Kd.int .i64) w Ap par.length par) (hc1 : par.length ≤ cp) {i : Nat} (hi : i < t.length) :
  Calls Tryz.prog 116 #[.agg #[.slice A0 t.length c0, .slice Ap par.length cp, .bool m], .int .i64 (i : Int)] w (RB w (.int .i64 (t.getD i z69).f2)) :=
 seq_look_w.calls A0 c0 t Ap cp par m i _ w hr0 hc0 hr1 hc1 (by unfold seq_look_w.f; rw [if_pos (by omega), if_pos (by omega)]; rfl)
theorem ll_calls (hr0 : Kd.C k69 w A0 t.length t) (hc0 : t.length ≤ c0) {i a b : Nat} (hi : In2 t i a b) :
  Calls Tryz.prog 158 #[.agg #[.slice A0 t.length c0, .slice Ap par.length cp, .bool m], .int .i64 (i : Int)] w (RB w (.int .i64 ((if m then b else a : Nat) : Int))) := by
 have HR0 := Am hr0
 have HI := Am hi
 have HB := Br w
 obtain ⟨ad, ead, hz⟩ := rd_cells hr0 hi.pe
 have HZ := Am hz
 cases ead
 have p1 : (0 ≤ (i : Int)) = True := eq_true (by omega)
 have p2 : ((i : Int) < (t.length : Int)) = True := eq_true (by have := hi.pe; omega)
 clear hr0 hz hi
 cases m with
 | true =>
  go_enter Tryz.func158, Tryz.ntmps158
  exact dd34
 | false =>
  go_enter Tryz.func158, Tryz.ntmps158
  exact dd33
theorem lr_calls (hr0 : Kd.C k69 w A0 t.length t) (hc0 : t.length ≤ c0) {i a b : Nat} (hi : In2 t i a b) :
  Calls Tryz.prog 157 #[.agg #[.slice A0 t.length c0, .slice Ap par.length cp, .bool m], .int .i64 (i : Int)] w (RB w (.int .i64 ((if m then a else b : Nat) : Int))) := by
 have HR0 := Am hr0
 have HI := Am hi
 have HB := Br w
 obtain ⟨ad, ead, hz⟩ := rd_cells hr0 hi.pe
 have HZ := Am hz
 cases ead
 have p1 : (0 ≤ (i : Int)) = True := eq_true (by omega)
 have p2 : ((i : Int) < (t.length : Int)) = True := eq_true (by have := hi.pe; omega)
 clear hr0 hz hi
 cases m with
 | true =>
  go_enter Tryz.func157, Tryz.ntmps157
  exact dd34
 | false =>
  go_enter Tryz.func157, Tryz.ntmps157
  exact dd33
end
end
section
open Go.Proofs.YtaabbaemfnecgaaGreat.V
def LkS (w : World) (A0 : Option Addr) (c0 n : Nat) (Ap : Option Addr) (cp pn : Nat) (m : Bool) (gb ge : Nat) (W : World) : Prop := Below w.heap.size w W ∧ W.heap[gb]? = some (.cells #[.slice A0 n c0, .slice Ap pn cp, .bool m] 175 (0, 0)) ∧ W.heap[ge]? = some (.cells #[.int .i64 0, .bool false] 49 (0, 0))
theorem LkS.bel {w : World} {A0 : Option Addr} {c0 n : Nat} {Ap : Option Addr} {cp pn : Nat} {m : Bool} {gb ge : Nat} {W W' : World} (h : LkS w A0 c0 n Ap cp pn m gb ge W) (hb : Below W.heap.size W W') : LkS w A0 c0 n Ap cp pn m gb ge W' := ⟨bel_t h.1 hb, blkB hb h.2.1, blkB hb h.2.2⟩
section
variable {A0 Ap : Option Addr} {c0 cp : Nat} {t : List S69} {par : List Int} {m : Bool} {w : World}
def evK (t : List S69) (q1 q2 : Nat) : Int := if (t.getD q1 z69).f2 = 0 then 9 else if (t.getD q2 z69).f2 = 0 then 10 else 4
theorem even_calls (hr0 : Kd.C k69 w A0 t.length t) (hc0 : t.length ≤ c0) (hr1 : Kd.C (Kd.int .i64) w Ap par.length par) (hc1 : par.length ≤ cp) {f a b r c d q1 q2 : Nat} (hf : In2 t f a b) (hfr : (if m then a else b) = r) (hr : In2 t r c d) (h1 : (if m then c else d) = q1) (h2 : (if m then d else c) = q2) :
  Calls Tryz.prog 119 #[.agg #[.slice A0 t.length c0, .slice Ap par.length cp, .bool m], .int .i64 (f : Int)] w (RB w (.agg #[.int .i64 (evK t q1 q2), .bool m])) := by
 have HR0 := Am hr0
 have HR1 := Am hr1
 have HC0 := Am hc0
 have HC1 := Am hc1
 have HB := Br w
 have HF := Am hf
 have HFR := Am hfr
 have HR := Am hr
 have H1 := Am h1
 have H2 := Am h2
 have L1 := Am (show q1 < t.length by rw [← h1]; split; exact hr.pa; exact hr.pb)
 have L2 := Am (show q2 < t.length by rw [← h2]; split; exact hr.pb; exact hr.pa)
 obtain ⟨n1, hn1⟩ : ∃ n1, (t.getD q1 z69).f2 = n1 := ⟨_, rfl⟩
 obtain ⟨n2, hn2⟩ : ∃ n2, (t.getD q2 z69).f2 = n2 := ⟨_, rfl⟩
 have HN1 := Am hn1
 have HN2 := Am hn2
 obtain ⟨V, hV⟩ : ∃ V, evK t q1 q2 = V := ⟨_, rfl⟩
 rw [hV]
 have HV0 := Am hV
 clear hr0 hc0 hr1 hc1 hf hfr hr h1 h2 hV hn1 hn2
 go_enter Tryz.func119, Tryz.ntmps119
 go_wp2_with (first | ((with_reducible refine Gd 2 rfl ?_); refine bF 2 HB.out (cs := #[.slice A0 t.length c0, .slice Ap par.length cp, .bool m]) (t := 175) ?_; clear HB; intro gb w_gb GX_gb GE_gb HK_gb HB BB_gb; obtain ⟨y0, y1, y2, f0, f1, f2⟩ := box175 HK_gb.out) | ((with_reducible refine Gd 4 rfl ?_); refine bF 4 HB.out (cs := #[.int .i64 0, .bool false]) (t := 49) ?_; clear HB; intro ge w_ge GX_ge GE_ge HK_ge HB BB_ge; have HS0 := Am (show LkS w A0 c0 t.length Ap cp par.length m gb ge w_ge from ⟨HB.out, blkB BB_ge.out HK_gb.out, HK_ge.out⟩); clear y0 y1 y2 f0 f1 f2; obtain ⟨y0, y1, y2, f0, f1, f2⟩ := box175 HS0.out.2.1))
 clear HB
 go_wp2_with (fail)
 refine (lr_calls (Kd.C_below HR0.out HS0.out.1) HC0.out HF.out).mono ?_
 rintro _ w11 ⟨rfl, hbn⟩
 rw [HFR.out]
 have HS11 := Am (HS0.out.bel hbn)
 clear hbn HS0 y0 y1 y2 f0 f1 f2
 obtain ⟨y0, y1, y2, f0, f1, f2⟩ := box175 HS11.out.2.1
 go_wp2
 clear y0 y1 y2 f0 f1 f2
 refine sT 7 [] (S := LkS w A0 c0 t.length Ap cp par.length m gb ge) (HS11.out.bel ((Below.refl _ _).drew)) fun hHeld => ?_
 refine gen_any (LkS w A0 c0 t.length Ap cp par.length m gb ge) hHeld (fun w12 hHeld => ?_)
 rename_i hHeld0
 clear hHeld0 HS11
 refine ta 0 11 hHeld (hy := by intro w' hs; obtain ⟨y0, y1, y2, -, -, -⟩ := box175 hs.2.1; exact gz) ?_
 refine ta 1 12 hHeld (hy := by intro w' hs; obtain ⟨y0, y1, y2, -, -, -⟩ := box175 hs.2.1; exact gz) ?_
 refine pu 2 13 ?_
 refine on 3 14 fun K hK => ?_
 refine gO Tryz.func157 #[.agg #[.slice A0 t.length c0, .slice Ap par.length cp, .bool m], .int .i64 (r : Int)] ?_
 refine (lr_calls (Kd.C_below HR0.out hHeld.1) HC0.out HR.out).mono ?_
 rintro _ w13 ⟨rfl, hbn⟩
 rw [H1.out]
 refine ⟨_, rfl, ?_⟩
 refine hK.out _ _ (hHeld.bel hbn) (fun hHeld => ?_)
 clear hK K hbn
 refine nm 14 ?_
 refine on 4 15 fun K hK => ?_
 refine gO Tryz.func116 #[.agg #[.slice A0 t.length c0, .slice Ap par.length cp, .bool m], .int .i64 (q1 : Int)] ?_
 refine (lw_calls (Kd.C_below HR0.out hHeld.1) HC0.out (Kd.C_below HR1.out hHeld.1) HC1.out L1.out).mono ?_
 rintro _ w14 ⟨rfl, hbn⟩
 rw [HN1.out]
 refine ⟨_, rfl, ?_⟩
 refine hK.out _ _ (hHeld.bel hbn) (fun hHeld => ?_)
 clear hK K hbn
 refine nm 15 ?_
 refine pu 5 16 ?_
 refine pu 6 10 ?_
 refine done_ (by kernel_rfl) ?_
 have HS14 := Am hHeld
 clear hHeld
 obtain ⟨y0, y1, y2, f0, f1, f2⟩ := box175 HS14.out.2.1
 have hv := HV0.out
 unfold evK at hv
 rw [HN1.out, HN2.out] at hv
 cases s1 : (n1 == 0) with
 | true =>
  rw [if_pos (by simpa using s1)] at hv
  have HV := Am hv
  clear hv
  have hbw : Below w.heap.size w _ := HS14.out.1
  obtain ⟨x0, x1, e0, e1⟩ := box49 HS14.out.2.2
  have hng : ¬ (gb = ge) := blk_ne HS14.out.2.1 HS14.out.2.2 (by decide)
  have hng2 : ¬ (ge = gb) := fun e => hng e.symm
  go_wp2
  refine bodyPost_ret (results_cell_row rfl _ _ ge 49 #[.int .i64 9, .bool m] (0, 0) _ rfl (bp2 HS14.out.2.2) Tryz.underlying49 rfl (by kernel_rfl)) rfl ?_
  exact dd58
 | false =>
  rw [if_neg (by simpa using s1)] at hv
  go_wp2
  clear y0 y1 y2 f0 f1 f2
  refine sT 7 [] (S := LkS w A0 c0 t.length Ap cp par.length m gb ge) (HS14.out.bel ((Below.refl _ _).drew)) fun hHeld => ?_
  refine gen_any (LkS w A0 c0 t.length Ap cp par.length m gb ge) hHeld (fun w15 hHeld => ?_)
  rename_i hHeld0
  clear hHeld0 HS14
  refine ta 0 18 hHeld (hy := by intro w' hs; obtain ⟨y0, y1, y2, -, -, -⟩ := box175 hs.2.1; exact gz) ?_
  refine ta 1 19 hHeld (hy := by intro w' hs; obtain ⟨y0, y1, y2, -, -, -⟩ := box175 hs.2.1; exact gz) ?_
  refine pu 2 20 ?_
  refine on 3 21 fun K hK => ?_
  refine gO Tryz.func158 #[.agg #[.slice A0 t.length c0, .slice Ap par.length cp, .bool m], .int .i64 (r : Int)] ?_
  refine (ll_calls (Kd.C_below HR0.out hHeld.1) HC0.out HR.out).mono ?_
  rintro _ w16 ⟨rfl, hbn⟩
  rw [H2.out]
  refine ⟨_, rfl, ?_⟩
  refine hK.out _ _ (hHeld.bel hbn) (fun hHeld => ?_)
  clear hK K hbn
  refine nm 21 ?_
  refine on 4 22 fun K hK => ?_
  refine gO Tryz.func116 #[.agg #[.slice A0 t.length c0, .slice Ap par.length cp, .bool m], .int .i64 (q2 : Int)] ?_
  refine (lw_calls (Kd.C_below HR0.out hHeld.1) HC0.out (Kd.C_below HR1.out hHeld.1) HC1.out L2.out).mono ?_
  rintro _ w17 ⟨rfl, hbn⟩
  rw [HN2.out]
  refine ⟨_, rfl, ?_⟩
  refine hK.out _ _ (hHeld.bel hbn) (fun hHeld => ?_)
  clear hK K hbn
  refine nm 22 ?_
  refine pu 5 23 ?_
  refine pu 6 17 ?_
  refine done_ (by kernel_rfl) ?_
  have HS17 := Am hHeld
  clear hHeld
  obtain ⟨y0, y1, y2, f0, f1, f2⟩ := box175 HS17.out.2.1
  cases s2 : (n2 == 0) with
  | true =>
   rw [if_pos (by simpa using s2)] at hv
   have HV := Am hv
   clear hv
   have hbw : Below w.heap.size w _ := HS17.out.1
   obtain ⟨x0, x1, e0, e1⟩ := box49 HS17.out.2.2
   have hng : ¬ (gb = ge) := blk_ne HS17.out.2.1 HS17.out.2.2 (by decide)
   have hng2 : ¬ (ge = gb) := fun e => hng e.symm
   go_wp2
   refine bodyPost_ret (results_cell_row rfl _ _ ge 49 #[.int .i64 10, .bool m] (0, 0) _ rfl (bp2 HS17.out.2.2) Tryz.underlying49 rfl (by kernel_rfl)) rfl ?_
   exact dd58
  | false =>
   rw [if_neg (by simpa using s2)] at hv
   have HV := Am hv
   clear hv
   have hbw : Below w.heap.size w _ := HS17.out.1
   obtain ⟨x0, x1, e0, e1⟩ := box49 HS17.out.2.2
   have hng : ¬ (gb = ge) := blk_ne HS17.out.2.1 HS17.out.2.2 (by decide)
   have hng2 : ¬ (ge = gb) := fun e => hng e.symm
   go_wp2
   refine bodyPost_ret (results_cell_row rfl _ _ ge 49 #[.int .i64 4, .bool m] (0, 0) _ rfl (bp2 HS17.out.2.2) Tryz.underlying49 rfl (by kernel_rfl)) rfl ?_
   exact dd58
def ltK (t : List S69) (q q1 z1 z2 : Nat) : Int := if (t.getD q z69).f2 = 0 then (if (t.getD q1 z69).f2 = 0 then 2 else 3) else if 1 < (t.getD q z69).f2 then 5 else if (t.getD z1 z69).f2 = 0 then 8 else if (t.getD z2 z69).f2 = 0 then 7 else 6
def ltM (t : List S69) (m : Bool) (q : Nat) : Bool := if (t.getD q z69).f2 = 0 then !m else m
theorem light_calls (hr0 : Kd.C k69 w A0 t.length t) (hc0 : t.length ≤ c0) (hr1 : Kd.C (Kd.int .i64) w Ap par.length par) (hc1 : par.length ≤ cp) {f a b r c d q q1 e1 e2 z1 z2 : Nat} (hf : In2 t f a b) (hfr : (if m then a else b) = r) (hr : In2 t r c d) (hq0 : (if m then d else c) = q) (hq1 : (if m then c else d) = q1)
  (hq : ¬ (t.getD q z69).f2 = 0 → ¬ 1 < (t.getD q z69).f2 → In2 t q e1 e2) (hz1 : (if m then e1 else e2) = z1) (hz2 : (if m then e2 else e1) = z2) :
  Calls Tryz.prog 118 #[.agg #[.slice A0 t.length c0, .slice Ap par.length cp, .bool m], .int .i64 (f : Int)] w (RB w (.agg #[.int .i64 (ltK t q q1 z1 z2), .bool (ltM t m q)])) := by
 have HR0 := Am hr0
 have HR1 := Am hr1
 have HC0 := Am hc0
 have HC1 := Am hc1
 have HB := Br w
 have HF := Am hf
 have HFR := Am hfr
 have HR := Am hr
 have HQ0 := Am hq0
 have HQ1 := Am hq1
 have HQ := Am hq
 have HZ1 := Am hz1
 have HZ2 := Am hz2
 have LQ := Am (show q < t.length by rw [← hq0]; split; exact hr.pb; exact hr.pa)
 have L1 := Am (show q1 < t.length by rw [← hq1]; split; exact hr.pa; exact hr.pb)
 obtain ⟨n0, hn0⟩ : ∃ n0, (t.getD q z69).f2 = n0 := ⟨_, rfl⟩
 obtain ⟨n1, hn1⟩ : ∃ n1, (t.getD q1 z69).f2 = n1 := ⟨_, rfl⟩
 obtain ⟨n2, hn2⟩ : ∃ n2, (t.getD z1 z69).f2 = n2 := ⟨_, rfl⟩
 obtain ⟨n3, hn3⟩ : ∃ n3, (t.getD z2 z69).f2 = n3 := ⟨_, rfl⟩
 have HN0 := Am hn0
 have HN1 := Am hn1
 have HN2 := Am hn2
 have HN3 := Am hn3
 obtain ⟨V, hV⟩ : ∃ V, (Value.agg #[.int .i64 (ltK t q q1 z1 z2), .bool (ltM t m q)]) = V := ⟨_, rfl⟩
 rw [hV]
 have HV0 := Am hV
 clear hr0 hc0 hr1 hc1 hf hfr hr hq0 hq1 hq hz1 hz2 hV hn0 hn1 hn2 hn3
 have hv := HV0.out
 unfold ltK ltM at hv
 rw [HN0.out, HN1.out, HN2.out, HN3.out] at hv
 have HVV := Am hv
 clear hv
 go_enter Tryz.func118, Tryz.ntmps118
 go_wp2_with (first | ((with_reducible refine Gd 2 rfl ?_); refine bF 2 HB.out (cs := #[.slice A0 t.length c0, .slice Ap par.length cp, .bool m]) (t := 175) ?_; clear HB; intro gb w_gb GX_gb GE_gb HK_gb HB BB_gb; obtain ⟨y0, y1, y2, f0, f1, f2⟩ := box175 HK_gb.out) | ((with_reducible refine Gd 4 rfl ?_); refine bF 4 HB.out (cs := #[.int .i64 0, .bool false]) (t := 49) ?_; clear HB; intro ge w_ge GX_ge GE_ge HK_ge HB BB_ge; have HS0 := Am (show LkS w A0 c0 t.length Ap cp par.length m gb ge w_ge from ⟨HB.out, blkB BB_ge.out HK_gb.out, HK_ge.out⟩); clear y0 y1 y2 f0 f1 f2; obtain ⟨y0, y1, y2, f0, f1, f2⟩ := box175 HS0.out.2.1))
 clear HB
 go_wp2_with (fail)
 refine (lr_calls (Kd.C_below HR0.out HS0.out.1) HC0.out HF.out).mono ?_
 rintro _ w11 ⟨rfl, hbn⟩
 rw [HFR.out]
 have HS11 := Am (HS0.out.bel hbn)
 clear hbn HS0 y0 y1 y2 f0 f1 f2
 obtain ⟨y0, y1, y2, f0, f1, f2⟩ := box175 HS11.out.2.1
 go_wp2_with (fail)
 refine (ll_calls (Kd.C_below HR0.out HS11.out.1) HC0.out HR.out).mono ?_
 rintro _ w12 ⟨rfl, hbn⟩
 rw [HQ0.out]
 have HS12 := Am (HS11.out.bel hbn)
 clear hbn HS11 y0 y1 y2 f0 f1 f2
 obtain ⟨y0, y1, y2, f0, f1, f2⟩ := box175 HS12.out.2.1
 go_wp2_with (fail)
 refine (lw_calls (Kd.C_below HR0.out HS12.out.1) HC0.out (Kd.C_below HR1.out HS12.out.1) HC1.out LQ.out).mono ?_
 rintro _ w13 ⟨rfl, hbn⟩
 rw [HN0.out]
 have HS13 := Am (HS12.out.bel hbn)
 clear hbn HS12 y0 y1 y2 f0 f1 f2
 obtain ⟨y0, y1, y2, f0, f1, f2⟩ := box175 HS13.out.2.1
 cases s0 : (n0 == 0) with
 | true =>
  go_wp2
  clear y0 y1 y2 f0 f1 f2
  refine sT 6 [] (S := LkS w A0 c0 t.length Ap cp par.length m gb ge) (HS13.out.bel ((Below.refl _ _).drew)) fun hHeld => ?_
  refine gen_any (LkS w A0 c0 t.length Ap cp par.length m gb ge) hHeld (fun w14 hHeld => ?_)
  rename_i hHeld0
  clear hHeld0 HS13
  refine ta 0 19 hHeld (hy := by intro w' hs; obtain ⟨y0, y1, y2, -, -, -⟩ := box175 hs.2.1; exact gz) ?_
  refine ta 1 20 hHeld (hy := by intro w' hs; obtain ⟨y0, y1, y2, -, -, -⟩ := box175 hs.2.1; exact gz) ?_
  refine pu 2 21 ?_
  refine on 3 22 fun K hK => ?_
  refine gO Tryz.func157 #[.agg #[.slice A0 t.length c0, .slice Ap par.length cp, .bool m], .int .i64 (r : Int)] ?_
  refine (lr_calls (Kd.C_below HR0.out hHeld.1) HC0.out HR.out).mono ?_
  rintro _ w15 ⟨rfl, hbn⟩
  rw [HQ1.out]
  refine ⟨_, rfl, ?_⟩
  refine hK.out _ _ (hHeld.bel hbn) (fun hHeld => ?_)
  clear hK K hbn
  refine nm 22 ?_
  refine on 4 23 fun K hK => ?_
  refine gO Tryz.func116 #[.agg #[.slice A0 t.length c0, .slice Ap par.length cp, .bool m], .int .i64 (q1 : Int)] ?_
  refine (lw_calls (Kd.C_below HR0.out hHeld.1) HC0.out (Kd.C_below HR1.out hHeld.1) HC1.out L1.out).mono ?_
  rintro _ w16 ⟨rfl, hbn⟩
  rw [HN1.out]
  refine ⟨_, rfl, ?_⟩
  refine hK.out _ _ (hHeld.bel hbn) (fun hHeld => ?_)
  clear hK K hbn
  refine nm 23 ?_
  refine pu 5 24 ?_
  refine done_ (by kernel_rfl) ?_
  have HS16 := Am hHeld
  clear hHeld
  obtain ⟨y0, y1, y2, f0, f1, f2⟩ := box175 HS16.out.2.1
  cases s1 : (n1 == 0) with
  | true =>
   have hv := HVV.out
   rw [if_pos (show n0 = 0 by simpa using s0)] at hv
   rw [if_pos (show n1 = 0 by simpa using s1)] at hv
   rw [if_pos (show n0 = 0 by simpa using s0)] at hv
   have HV := Am hv
   clear hv
   have hbw : Below w.heap.size w _ := HS16.out.1
   obtain ⟨x0, x1, e0, e1⟩ := box49 HS16.out.2.2
   have hng : ¬ (gb = ge) := blk_ne HS16.out.2.1 HS16.out.2.2 (by decide)
   have hng2 : ¬ (ge = gb) := fun e => hng e.symm
   go_wp2
   refine bodyPost_ret (results_cell_row rfl _ _ ge 49 #[.int .i64 2, .bool (!m)] (0, 0) _ rfl (bp2 HS16.out.2.2) Tryz.underlying49 rfl (by kernel_rfl)) rfl ?_
   exact dd25
  | false =>
   have hv := HVV.out
   rw [if_pos (show n0 = 0 by simpa using s0)] at hv
   rw [if_neg (show ¬ (n1 = 0) by simpa using s1)] at hv
   rw [if_pos (show n0 = 0 by simpa using s0)] at hv
   have HV := Am hv
   clear hv
   have hbw : Below w.heap.size w _ := HS16.out.1
   obtain ⟨x0, x1, e0, e1⟩ := box49 HS16.out.2.2
   have hng : ¬ (gb = ge) := blk_ne HS16.out.2.1 HS16.out.2.2 (by decide)
   have hng2 : ¬ (ge = gb) := fun e => hng e.symm
   go_wp2
   refine bodyPost_ret (results_cell_row rfl _ _ ge 49 #[.int .i64 3, .bool (!m)] (0, 0) _ rfl (bp2 HS16.out.2.2) Tryz.underlying49 rfl (by kernel_rfl)) rfl ?_
   exact dd25
 | false =>
  go_wp2_with (fail)
  refine (lw_calls (Kd.C_below HR0.out HS13.out.1) HC0.out (Kd.C_below HR1.out HS13.out.1) HC1.out LQ.out).mono ?_
  rintro _ w17 ⟨rfl, hbn⟩
  rw [HN0.out]
  have HS17 := Am (HS13.out.bel hbn)
  clear hbn HS13 y0 y1 y2 f0 f1 f2
  obtain ⟨y0, y1, y2, f0, f1, f2⟩ := box175 HS17.out.2.1
  cases s1 : decide (1 < n0) with
  | true =>
   have hv := HVV.out
   rw [if_neg (show ¬ (n0 = 0) by simpa using s0)] at hv
   rw [if_pos (of_decide_eq_true s1)] at hv
   rw [if_neg (show ¬ (n0 = 0) by simpa using s0)] at hv
   have HV := Am hv
   clear hv
   have hbw : Below w.heap.size w _ := HS17.out.1
   obtain ⟨x0, x1, e0, e1⟩ := box49 HS17.out.2.2
   have hng : ¬ (gb = ge) := blk_ne HS17.out.2.1 HS17.out.2.2 (by decide)
   have hng2 : ¬ (ge = gb) := fun e => hng e.symm
   go_wp2
   refine bodyPost_ret (results_cell_row rfl _ _ ge 49 #[.int .i64 5, .bool m] (0, 0) _ rfl (bp2 HS17.out.2.2) Tryz.underlying49 rfl (by kernel_rfl)) rfl ?_
   exact dd25
  | false =>
   have HI := Am (HQ.out (by rw [HN0.out]; simpa using s0) (by rw [HN0.out]; have := of_decide_eq_false s1; omega))
   have LZ1 := Am (show z1 < t.length by rw [← HZ1.out]; split; exact HI.out.pa; exact HI.out.pb)
   have LZ2 := Am (show z2 < t.length by rw [← HZ2.out]; split; exact HI.out.pb; exact HI.out.pa)
   go_wp2
   clear y0 y1 y2 f0 f1 f2
   refine sT 7 [] (S := LkS w A0 c0 t.length Ap cp par.length m gb ge) (HS17.out.bel ((Below.refl _ _).drew)) fun hHeld => ?_
   refine gen_any (LkS w A0 c0 t.length Ap cp par.length m gb ge) hHeld (fun w18 hHeld => ?_)
   rename_i hHeld0
   clear hHeld0 HS17
   refine ta 0 36 hHeld (hy := by intro w' hs; obtain ⟨y0, y1, y2, -, -, -⟩ := box175 hs.2.1; exact gz) ?_
   refine ta 1 37 hHeld (hy := by intro w' hs; obtain ⟨y0, y1, y2, -, -, -⟩ := box175 hs.2.1; exact gz) ?_
   refine pu 2 38 ?_
   refine on 3 39 fun K hK => ?_
   refine gO Tryz.func157 #[.agg #[.slice A0 t.length c0, .slice Ap par.length cp, .bool m], .int .i64 (q : Int)] ?_
   refine (lr_calls (Kd.C_below HR0.out hHeld.1) HC0.out HI.out).mono ?_
   rintro _ w19 ⟨rfl, hbn⟩
   rw [HZ1.out]
   refine ⟨_, rfl, ?_⟩
   refine hK.out _ _ (hHeld.bel hbn) (fun hHeld => ?_)
   clear hK K hbn
   refine nm 39 ?_
   refine on 4 40 fun K hK => ?_
   refine gO Tryz.func116 #[.agg #[.slice A0 t.length c0, .slice Ap par.length cp, .bool m], .int .i64 (z1 : Int)] ?_
   refine (lw_calls (Kd.C_below HR0.out hHeld.1) HC0.out (Kd.C_below HR1.out hHeld.1) HC1.out LZ1.out).mono ?_
   rintro _ w20 ⟨rfl, hbn⟩
   rw [HN2.out]
   refine ⟨_, rfl, ?_⟩
   refine hK.out _ _ (hHeld.bel hbn) (fun hHeld => ?_)
   clear hK K hbn
   refine nm 40 ?_
   refine pu 5 41 ?_
   refine pu 6 35 ?_
   refine done_ (by kernel_rfl) ?_
   have HS20 := Am hHeld
   clear hHeld
   obtain ⟨y0, y1, y2, f0, f1, f2⟩ := box175 HS20.out.2.1
   cases s2 : (n2 == 0) with
   | true =>
    have hv := HVV.out
    rw [if_neg (show ¬ (n0 = 0) by simpa using s0)] at hv
    rw [if_neg (of_decide_eq_false s1)] at hv
    rw [if_pos (show n2 = 0 by simpa using s2)] at hv
    rw [if_neg (show ¬ (n0 = 0) by simpa using s0)] at hv
    have HV := Am hv
    clear hv
    have hbw : Below w.heap.size w _ := HS20.out.1
    obtain ⟨x0, x1, e0, e1⟩ := box49 HS20.out.2.2
    have hng : ¬ (gb = ge) := blk_ne HS20.out.2.1 HS20.out.2.2 (by decide)
    have hng2 : ¬ (ge = gb) := fun e => hng e.symm
    go_wp2
    refine bodyPost_ret (results_cell_row rfl _ _ ge 49 #[.int .i64 8, .bool m] (0, 0) _ rfl (bp2 HS20.out.2.2) Tryz.underlying49 rfl (by kernel_rfl)) rfl ?_
    exact dd25
   | false =>
    go_wp2
    clear y0 y1 y2 f0 f1 f2
    refine sT 7 [] (S := LkS w A0 c0 t.length Ap cp par.length m gb ge) (HS20.out.bel ((Below.refl _ _).drew)) fun hHeld => ?_
    refine gen_any (LkS w A0 c0 t.length Ap cp par.length m gb ge) hHeld (fun w21 hHeld => ?_)
    rename_i hHeld0
    clear hHeld0 HS20
    refine ta 0 43 hHeld (hy := by intro w' hs; obtain ⟨y0, y1, y2, -, -, -⟩ := box175 hs.2.1; exact gz) ?_
    refine ta 1 44 hHeld (hy := by intro w' hs; obtain ⟨y0, y1, y2, -, -, -⟩ := box175 hs.2.1; exact gz) ?_
    refine pu 2 45 ?_
    refine on 3 46 fun K hK => ?_
    refine gO Tryz.func158 #[.agg #[.slice A0 t.length c0, .slice Ap par.length cp, .bool m], .int .i64 (q : Int)] ?_
    refine (ll_calls (Kd.C_below HR0.out hHeld.1) HC0.out HI.out).mono ?_
    rintro _ w22 ⟨rfl, hbn⟩
    rw [HZ2.out]
    refine ⟨_, rfl, ?_⟩
    refine hK.out _ _ (hHeld.bel hbn) (fun hHeld => ?_)
    clear hK K hbn
    refine nm 46 ?_
    refine on 4 47 fun K hK => ?_
    refine gO Tryz.func116 #[.agg #[.slice A0 t.length c0, .slice Ap par.length cp, .bool m], .int .i64 (z2 : Int)] ?_
    refine (lw_calls (Kd.C_below HR0.out hHeld.1) HC0.out (Kd.C_below HR1.out hHeld.1) HC1.out LZ2.out).mono ?_
    rintro _ w23 ⟨rfl, hbn⟩
    rw [HN3.out]
    refine ⟨_, rfl, ?_⟩
    refine hK.out _ _ (hHeld.bel hbn) (fun hHeld => ?_)
    clear hK K hbn
    refine nm 47 ?_
    refine pu 5 48 ?_
    refine pu 6 42 ?_
    refine done_ (by kernel_rfl) ?_
    have HS23 := Am hHeld
    clear hHeld
    obtain ⟨y0, y1, y2, f0, f1, f2⟩ := box175 HS23.out.2.1
    cases s3 : (n3 == 0) with
    | true =>
     have hv := HVV.out
     rw [if_neg (show ¬ (n0 = 0) by simpa using s0)] at hv
     rw [if_neg (of_decide_eq_false s1)] at hv
     rw [if_neg (show ¬ (n2 = 0) by simpa using s2)] at hv
     rw [if_pos (show n3 = 0 by simpa using s3)] at hv
     rw [if_neg (show ¬ (n0 = 0) by simpa using s0)] at hv
     have HV := Am hv
     clear hv
     have hbw : Below w.heap.size w _ := HS23.out.1
     obtain ⟨x0, x1, e0, e1⟩ := box49 HS23.out.2.2
     have hng : ¬ (gb = ge) := blk_ne HS23.out.2.1 HS23.out.2.2 (by decide)
     have hng2 : ¬ (ge = gb) := fun e => hng e.symm
     go_wp2
     refine bodyPost_ret (results_cell_row rfl _ _ ge 49 #[.int .i64 7, .bool m] (0, 0) _ rfl (bp2 HS23.out.2.2) Tryz.underlying49 rfl (by kernel_rfl)) rfl ?_
     exact dd25
    | false =>
     have hv := HVV.out
     rw [if_neg (show ¬ (n0 = 0) by simpa using s0)] at hv
     rw [if_neg (of_decide_eq_false s1)] at hv
     rw [if_neg (show ¬ (n2 = 0) by simpa using s2)] at hv
     rw [if_neg (show ¬ (n3 = 0) by simpa using s3)] at hv
     rw [if_neg (show ¬ (n0 = 0) by simpa using s0)] at hv
     have HV := Am hv
     clear hv
     have hbw : Below w.heap.size w _ := HS23.out.1
     obtain ⟨x0, x1, e0, e1⟩ := box49 HS23.out.2.2
     have hng : ¬ (gb = ge) := blk_ne HS23.out.2.1 HS23.out.2.2 (by decide)
     have hng2 : ¬ (ge = gb) := fun e => hng e.symm
     go_wp2
     refine bodyPost_ret (results_cell_row rfl _ _ ge 49 #[.int .i64 6, .bool m] (0, 0) _ rfl (bp2 HS23.out.2.2) Tryz.underlying49 rfl (by kernel_rfl)) rfl ?_
     exact dd25
end
end
section
open Go.Proofs.YtaabbaemfnecgaaGreat.V
section
variable {A0 Ap : Option Addr} {c0 cp : Nat} {t : List S69} {par : List Int} {m : Bool} {w : World}
theorem sib_calls (hr0 : Kd.C k69 w A0 t.length t) (hc0 : t.length ≤ c0) (hr1 : Kd.C (Kd.int .i64) w Ap par.length par) (hc1 : par.length ≤ cp) (hl : t.length ≤ 100000) {f e a b o : Nat} (hf : f < par.length) (he : par.getD f 0 = e) (hi : In2 t e a b) (hs : a = f ∨ b = f) (ho : (if decide (b = f) then a else b) = o) :
  Calls Tryz.prog 115 #[.agg #[.slice A0 t.length c0, .slice Ap par.length cp, .bool m], .int .i64 (f : Int)] w (RB w (.int .i64 (o : Int))) := by
 refine seq_look_sibling.calls A0 c0 t Ap cp par m f o w hr0 hc0 hr1 hc1 ?_
 have h1 : rd par (f : Int) = e := he
 have h2 : rd_T69 t (e : Int) = t.getD e z69 := rfl
 have := hi.pe
 have := hi.pa
 have := hi.pb
 unfold seq_look_sibling.f
 rw [if_pos (by omega), if_pos (by omega), h1, if_pos (by omega), if_pos (by omega), h2, hi.pl, hi.pr]
 congr 1
 rw [Go.IntWalk.wrap64_in ((a : Int) + b) (by omega)]
 by_cases hb : b = f
 ·rw [if_pos (by simpa using hb)] at ho
  rw [Go.IntWalk.wrap64_in _ (by omega)]
  omega
 ·rw [if_neg (by simpa using hb)] at ho
  rw [Go.IntWalk.wrap64_in _ (by omega)]
  omega
theorem lred_calls (hr0 : Kd.C k69 w A0 t.length t) (hc0 : t.length ≤ c0) (hr1 : Kd.C (Kd.int .i64) w Ap par.length par) (hc1 : par.length ≤ cp) (hl : t.length ≤ 100000) {f e a b c d o p : Nat} {mm : Bool} (hf : f < par.length) (he : par.getD f 0 = e) (hi : In2 t e a b) (hs : a = f ∨ b = f) (hm : decide (b = f) = mm) (ho : (if mm then a else b) = o) (hj : In2 t f c d) (hp : (if mm then d else c) = p) :
  Calls Tryz.prog 117 #[.agg #[.slice A0 t.length c0, .slice Ap par.length cp, .bool m], .int .i64 (f : Int)] w (RB w (.tuple #[.int .i64 (e : Int), .agg #[.int .i64 (redK t mm o p), .bool (redM t mm o)]])) := by
 have HR0 := Am hr0
 have HR1 := Am hr1
 have HC0 := Am hc0
 have HC1 := Am hc1
 have HB := Br w
 have HL := Am hl
 have HF := Am hf
 have HE := Am he
 have HI := Am hi
 have HS_ := Am hs
 have HO := Am (show (if decide (b = f) then a else b) = o by rw [hm]; exact ho)
 have HJ := Am hj
 have HP := Am hp
 have LO := Am (show o < t.length by rw [← ho]; split; exact hi.pa; exact hi.pb)
 have LP := Am (show p < t.length by rw [← hp]; split; exact hj.pb; exact hj.pa)
 obtain ⟨ad, ead, hze⟩ := rd_cells hr0 hi.pe
 have HZE := Am hze
 cases ead
 have HZF : Aside0 (∀ w', Below w.heap.size w w' → w'.cell? ⟨(ad.add (f * 6)).block, (ad.add (f * 6)).off + 4, none⟩ = some (.int .i64 (c : Int)) ∧ w'.cell? ⟨(ad.add (f * 6)).block, (ad.add (f * 6)).off + 5, none⟩ = some (.int .i64 (d : Int))) := ⟨fun w' hb => by
  obtain ⟨ad', ead', hz'⟩ := rd_cells hr0 hj.pe
  cases ead'
  obtain ⟨-, -, -, -, h4, h5⟩ := hz' w' hb
  rw [hj.pl] at h4
  rw [hj.pr] at h5
  exact ⟨h4, h5⟩⟩
 obtain ⟨ap, eap, hpx⟩ := Kd.at_int hr1 (f : Int) (by omega) (by omega)
 cases eap
 rw [show rd par (f : Int) = e from he, Int.toNat_natCast] at hpx
 have HPX := Am hpx
 have p1 : (0 ≤ (f : Int)) = True := eq_true (by omega)
 have p2 : ((f : Int) < (par.length : Int)) = True := eq_true (by omega)
 have p3 : (0 ≤ (e : Int)) = True := eq_true (by omega)
 have p4 : ((e : Int) < (t.length : Int)) = True := eq_true (by have := hi.pe; omega)
 have p5 : ((f : Int) < (t.length : Int)) = True := eq_true (by have := hj.pe; omega)
 have p6 : ((b : Int) == (f : Int)) = mm := by
  rw [← hm]
  by_cases hb : b = f
  ·rw [decide_eq_true hb, hb]; simp
  ·rw [decide_eq_false hb, beq_eq_false_iff_ne]; omega
 obtain ⟨n1, hn1⟩ : ∃ n1, (t.getD o z69).f2 = n1 := ⟨_, rfl⟩
 obtain ⟨n2, hn2⟩ : ∃ n2, (t.getD p z69).f2 = n2 := ⟨_, rfl⟩
 have HN1 := Am hn1
 have HN2 := Am hn2
 obtain ⟨V, hV⟩ : ∃ V, (Value.tuple #[.int .i64 (e : Int), .agg #[.int .i64 (redK t mm o p), .bool (redM t mm o)]]) = V := ⟨_, rfl⟩
 rw [hV]
 have hv := hV
 unfold redK redM at hv
 rw [hn1, hn2] at hv
 have HVV := Am hv
 clear hr0 hc0 hr1 hc1 hl hf he hi hs ho hm hj hp hze hpx hn1 hn2 hV hv
 go_enter Tryz.func117, Tryz.ntmps117
 go_wp2_with (first | ((with_reducible refine Gd 2 rfl ?_); refine bF 2 HB.out (cs := #[.slice (some ad) t.length c0, .slice (some ap) par.length cp, .bool m]) (t := 175) ?_; clear HB; intro gb w_gb GX_gb GE_gb HK_gb HB BB_gb; obtain ⟨y0, y1, y2, f0, f1, f2⟩ := box175 HK_gb.out) | ((with_reducible refine Gd 5 rfl ?_); refine bF 5 HB.out (cs := #[.int .i64 0, .bool false]) (t := 49) ?_; clear HB; intro ge w_ge GX_ge GE_ge HK_ge HB BB_ge; have HS0 := Am (show LkS w (some ad) c0 t.length (some ap) cp par.length m gb ge w_ge from ⟨HB.out, blkB BB_ge.out HK_gb.out, HK_ge.out⟩); clear y0 y1 y2 f0 f1 f2; obtain ⟨y0, y1, y2, f0, f1, f2⟩ := box175 HS0.out.2.1; have x1 := (HB.out.cell (blt w _ HPX.out)).trans HPX.out))
 clear HB x1
 clear y0 y1 y2 f0 f1 f2
 refine sT 6 [] (S := LkS w (some ad) c0 t.length (some ap) cp par.length m gb ge) (HS0.out.bel ((Below.refl _ _).drew)) fun hHeld => ?_
 refine gen_any (LkS w (some ad) c0 t.length (some ap) cp par.length m gb ge) hHeld (fun w20 hHeld => ?_)
 rename_i hHeld0
 clear hHeld0 HS0
 refine ta 0 14 hHeld (hy := by intro w' hs; obtain ⟨y0, y1, y2, -, -, -⟩ := box175 hs.2.1; exact gz) ?_
 refine ta 1 15 hHeld (hy := by intro w' hs; obtain ⟨y0, y1, y2, -, -, -⟩ := box175 hs.2.1; exact gz) ?_
 refine pu 2 16 ?_
 refine on 3 17 fun K hK => ?_
 refine gO Tryz.func115 #[.agg #[.slice (some ad) t.length c0, .slice (some ap) par.length cp, .bool m], .int .i64 (f : Int)] ?_
 refine (sib_calls (Kd.C_below HR0.out hHeld.1) HC0.out (Kd.C_below HR1.out hHeld.1) HC1.out HL.out HF.out HE.out HI.out HS_.out HO.out).mono ?_
 rintro _ w21 ⟨rfl, hbn⟩
 refine ⟨_, rfl, ?_⟩
 refine hK.out _ _ (hHeld.bel hbn) (fun hHeld => ?_)
 clear hK K hbn
 refine nm 17 ?_
 refine on 4 18 fun K hK => ?_
 refine gO Tryz.func116 #[.agg #[.slice (some ad) t.length c0, .slice (some ap) par.length cp, .bool m], .int .i64 (o : Int)] ?_
 refine (lw_calls (Kd.C_below HR0.out hHeld.1) HC0.out (Kd.C_below HR1.out hHeld.1) HC1.out LO.out).mono ?_
 rintro _ w22 ⟨rfl, hbn⟩
 rw [HN1.out]
 refine ⟨_, rfl, ?_⟩
 refine hK.out _ _ (hHeld.bel hbn) (fun hHeld => ?_)
 clear hK K hbn
 refine nm 18 ?_
 refine pu 5 19 ?_
 refine done_ (by kernel_rfl) ?_
 have HS22 := Am hHeld
 clear hHeld
 obtain ⟨y0, y1, y2, f0, f1, f2⟩ := box175 HS22.out.2.1
 cases s1 : (n1 == 0) with
 | true =>
  have hv := HVV.out
  rw [if_pos (show n1 = 0 by simpa using s1)] at hv
  rw [if_pos (show n1 = 0 by simpa using s1)] at hv
  have HV := Am hv
  clear hv
  have hbw : Below w.heap.size w _ := HS22.out.1
  obtain ⟨x0, x1, e0, e1⟩ := box49 HS22.out.2.2
  have hng : ¬ (gb = ge) := blk_ne HS22.out.2.1 HS22.out.2.2 (by decide)
  have hng2 : ¬ (ge = gb) := fun e => hng e.symm
  go_wp2
  refine bodyPost_ret (results_tc rfl _ _ ge 49 #[.int .i64 1, .bool false] (0, 0) _ rfl (bp2 HS22.out.2.2) Tryz.underlying49 rfl (by kernel_rfl)) rfl ?_
  exact dd37
 | false =>
  cases mm with
  | true =>
   obtain ⟨q4, q5⟩ := HZF.out _ HS22.out.1
   obtain ⟨-, -, -, -, -, z5⟩ := HZE.out _ HS22.out.1
   rw [HI.out.pr] at z5
   have hp := HP.out
   simp only [if_true, Bool.false_eq_true, if_false] at hp
   subst hp
   go_wp2_with (fail)
   refine (lw_calls (Kd.C_below HR0.out HS22.out.1) HC0.out (Kd.C_below HR1.out HS22.out.1) HC1.out LP.out).mono ?_
   rintro _ w11 ⟨rfl, hbn⟩
   rw [HN2.out]
   have HS11 := Am (HS22.out.bel hbn)
   clear hbn q4 q5 z5 HS22 y0 y1 y2 f0 f1 f2
   obtain ⟨y0, y1, y2, f0, f1, f2⟩ := box175 HS11.out.2.1
   cases s2 : (n2 == 0) with
   | true =>
    have hv := HVV.out
    rw [if_neg (show ¬ (n1 = 0) by simpa using s1)] at hv
    rw [if_pos (show n2 = 0 by simpa using s2)] at hv
    rw [if_neg (show ¬ (n1 = 0) by simpa using s1)] at hv
    have HV := Am hv
    clear hv
    have hbw : Below w.heap.size w _ := HS11.out.1
    obtain ⟨x0, x1, e0, e1⟩ := box49 HS11.out.2.2
    have hng : ¬ (gb = ge) := blk_ne HS11.out.2.1 HS11.out.2.2 (by decide)
    have hng2 : ¬ (ge = gb) := fun e => hng e.symm
    go_wp2
    refine bodyPost_ret (results_tc rfl _ _ ge 49 #[.int .i64 2, .bool true] (0, 0) _ rfl (bp2 HS11.out.2.2) Tryz.underlying49 rfl (by kernel_rfl)) rfl ?_
    exact dd37
   | false =>
    have hv := HVV.out
    rw [if_neg (show ¬ (n1 = 0) by simpa using s1)] at hv
    rw [if_neg (show ¬ (n2 = 0) by simpa using s2)] at hv
    rw [if_neg (show ¬ (n1 = 0) by simpa using s1)] at hv
    have HV := Am hv
    clear hv
    have hbw : Below w.heap.size w _ := HS11.out.1
    obtain ⟨x0, x1, e0, e1⟩ := box49 HS11.out.2.2
    have hng : ¬ (gb = ge) := blk_ne HS11.out.2.1 HS11.out.2.2 (by decide)
    have hng2 : ¬ (ge = gb) := fun e => hng e.symm
    go_wp2
    refine bodyPost_ret (results_tc rfl _ _ ge 49 #[.int .i64 3, .bool true] (0, 0) _ rfl (bp2 HS11.out.2.2) Tryz.underlying49 rfl (by kernel_rfl)) rfl ?_
    exact dd37
  | false =>
   obtain ⟨q4, q5⟩ := HZF.out _ HS22.out.1
   obtain ⟨-, -, -, -, -, z5⟩ := HZE.out _ HS22.out.1
   rw [HI.out.pr] at z5
   have hp := HP.out
   simp only [if_true, Bool.false_eq_true, if_false] at hp
   subst hp
   go_wp2_with (fail)
   refine (lw_calls (Kd.C_below HR0.out HS22.out.1) HC0.out (Kd.C_below HR1.out HS22.out.1) HC1.out LP.out).mono ?_
   rintro _ w12 ⟨rfl, hbn⟩
   rw [HN2.out]
   have HS12 := Am (HS22.out.bel hbn)
   clear hbn q4 q5 z5 HS22 y0 y1 y2 f0 f1 f2
   obtain ⟨y0, y1, y2, f0, f1, f2⟩ := box175 HS12.out.2.1
   cases s2 : (n2 == 0) with
   | true =>
    have hv := HVV.out
    rw [if_neg (show ¬ (n1 = 0) by simpa using s1)] at hv
    rw [if_pos (show n2 = 0 by simpa using s2)] at hv
    rw [if_neg (show ¬ (n1 = 0) by simpa using s1)] at hv
    have HV := Am hv
    clear hv
    have hbw : Below w.heap.size w _ := HS12.out.1
    obtain ⟨x0, x1, e0, e1⟩ := box49 HS12.out.2.2
    have hng : ¬ (gb = ge) := blk_ne HS12.out.2.1 HS12.out.2.2 (by decide)
    have hng2 : ¬ (ge = gb) := fun e => hng e.symm
    go_wp2
    refine bodyPost_ret (results_tc rfl _ _ ge 49 #[.int .i64 2, .bool false] (0, 0) _ rfl (bp2 HS12.out.2.2) Tryz.underlying49 rfl (by kernel_rfl)) rfl ?_
    exact dd37
   | false =>
    have hv := HVV.out
    rw [if_neg (show ¬ (n1 = 0) by simpa using s1)] at hv
    rw [if_neg (show ¬ (n2 = 0) by simpa using s2)] at hv
    rw [if_neg (show ¬ (n1 = 0) by simpa using s1)] at hv
    have HV := Am hv
    clear hv
    have hbw : Below w.heap.size w _ := HS12.out.1
    obtain ⟨x0, x1, e0, e1⟩ := box49 HS12.out.2.2
    have hng : ¬ (gb = ge) := blk_ne HS12.out.2.1 HS12.out.2.2 (by decide)
    have hng2 : ¬ (ge = gb) := fun e => hng e.symm
    go_wp2
    refine bodyPost_ret (results_tc rfl _ _ ge 49 #[.int .i64 3, .bool false] (0, 0) _ rfl (bp2 HS12.out.2.2) Tryz.underlying49 rfl (by kernel_rfl)) rfl ?_
    exact dd37
end
end
section
open Go.Proofs.YtaabbaemfnecgaaGreat.V
def kids (t : List S69) (e : Nat) : Option (Nat × Nat) := if e < t.length ∧ 0 ≤ (t.getD e z69).f4 ∧ (t.getD e z69).f4 < t.length ∧ 0 ≤ (t.getD e z69).f5 ∧ (t.getD e z69).f5 < t.length then some ((t.getD e z69).f4.toNat, (t.getD e z69).f5.toNat) else none
theorem kids_in {t : List S69} {e a b : Nat} (h : kids t e = some (a, b)) : In2 t e a b := by
 unfold kids at h
 split at h
 ·rename_i h1
  injection h with h
  injection h with h2 h3
  exact ⟨h1.1, by omega, by omega, by omega, by omega⟩
 ·cases h
def rdI (t : List S69) (u e f : Nat) : Option (Nat × Nat × Int × Bool) := (kids t e).bind fun x => (kids t f).bind fun y =>
 some (u, e, redK t (decide (x.2 = f)) (if decide (x.2 = f) then x.1 else x.2) (if decide (x.2 = f) then y.2 else y.1), redM t (decide (x.2 = f)) (if decide (x.2 = f) then x.1 else x.2))
def sdI (t : List S69) (m : Bool) (r : Nat) : Option (Option Nat × Option Nat) := if r < t.length ∧ (t.getD r z69).f4 = -1 then some (none, none) else (kids t r).bind fun x => some (some (if m then x.2 else x.1), some (if m then x.1 else x.2))
def wO (t : List S69) : Option Nat → Int
 | none => -1
 | some q => (t.getD q z69).f2
def pO (g : Nat) : Option Nat → Option Addr
 | none => none
 | some q => some ⟨g, q * 6, none⟩
def okO' (t : List S69) (q : Option Nat) : Prop := ∀ i, q = some i → i < t.length
theorem sdI_ok {t : List S69} {m : Bool} {r : Nat} {p q : Option Nat} (h : sdI t m r = some (p, q)) : r < t.length ∧ okO' t p ∧ okO' t q := by
 unfold sdI at h
 split at h
 ·rename_i h1
  injection h with h
  injection h with h2 h3
  subst h2 h3
  exact ⟨h1.1, fun i hi => by (cases hi), fun i hi => by (cases hi)⟩
 ·obtain ⟨⟨a, b⟩, hk, h⟩ := Option.bind_eq_some_iff.mp h
  have hi := kids_in hk
  injection h with h
  injection h with h2 h3
  subst h2 h3
  refine ⟨hi.pe, fun i hi' => ?_, fun i hi' => ?_⟩
  ·injection hi' with hi'
   subst hi'
   cases m
   ·exact hi.pa
   ·exact hi.pb
  ·injection hi' with hi'
   subst hi'
   cases m
   ·exact hi.pb
   ·exact hi.pa
theorem side_O {w : World} {B g : Nat} {t : List S69} (hb : Bt w B g t) {r : Nat} {m : Bool} {p q : Option Nat} (h : sdI t m r = some (p, q)) :
  Calls Tryz.prog 112 #[.pointer (some ⟨g, r * 6, none⟩), .bool m] w (RB w (.tuple #[.pointer (pO g p), .pointer (pO g q)])) := by
 have hr := (sdI_ok h).1
 unfold sdI at h
 split at h
 ·rename_i h1
  injection h with h
  injection h with h2 h3
  subst h2 h3
  refine (side_calls hb hr m).mono ?_
  rintro _ w' ⟨rfl, hb'⟩
  refine ⟨?_, hb'⟩
  rw [show (nodB g (t.getD r z69)).f4 = none from if_pos h1.2, show (nodB g (t.getD r z69)).f5 = none from if_pos h1.2]
  cases m <;> rfl
 ·obtain ⟨⟨a, b⟩, hk, h⟩ := Option.bind_eq_some_iff.mp h
  injection h with h
  injection h with h2 h3
  subst h2 h3
  exact side_in hb (kids_in hk) m
theorem weight_O {w : World} {B g : Nat} {t : List S69} (hb : Bt w B g t) {q : Option Nat} (hq : okO' t q) : Calls Tryz.prog 113 #[.pointer (pO g q)] w (RB w (.int .i64 (wO t q))) := by
 cases q with
 | none => exact weight_none w
 | some i => exact weight_calls hb (hq i rfl)
def swI (t : List S69) (m : Bool) (wr : Int) (rl rr : Option Nat) : Option (Int × Bool) :=
 if 1 < wr then some (11, false) else if wr = 1 ∧ wO t rr = 0 then some (9, m) else if wr = 1 ∧ wO t rl = 0 then some (10, m) else if wr = 1 then some (4, m)
 else if wO t rl = 0 ∧ wO t rr = 0 then some (2, !m) else if wO t rl = 0 then some (3, !m) else if 1 < wO t rl then some (5, m)
 else match rl with
  | none => none
  | some q => (sdI t m q).bind fun x => some (if wO t x.2 = 0 then 8 else if wO t x.1 = 0 then 7 else 6, m)
def stI (t : List S69) (l : List Nat) (i : Nat) : Option (Nat × Nat × Int × Bool) :=
 if (t.getD (l.getD i 0) z69).f2 = 0 then (if 3 ≤ i then rdI t (l.getD (i - 3) 0) (l.getD (i - 2) 0) (l.getD (i - 1) 0) else none)
 else (kids t (l.getD (i - 1) 0)).bind fun x =>
  if (t.getD (if decide (x.2 = l.getD i 0) then x.1 else x.2) z69).f2 = 0 ∧ (t.getD (l.getD (i - 1) 0) z69).f2 = 0 then (if 3 ≤ i then rdI t (l.getD (i - 3) 0) (l.getD (i - 2) 0) (l.getD (i - 1) 0) else none)
  else (sdI t (decide (x.2 = l.getD i 0)) (if decide (x.2 = l.getD i 0) then x.1 else x.2)).bind fun y =>
   (swI t (decide (x.2 = l.getD i 0)) (t.getD (if decide (x.2 = l.getD i 0) then x.1 else x.2) z69).f2 y.1 y.2).bind fun z => some (l.getD (i - 2) 0, l.getD (i - 1) 0, z.1, z.2)
def chI (t : List S69) (l : List Nat) : Nat → Nat → Option (Option (Nat × Nat × Int × Bool))
 | 0, _ => none
 | k + 1, i => if i < l.length then (if l.getD i 0 < t.length ∧ l.getD (i - 1) 0 < t.length ∧ 2 ≤ i then
   (if badB (t.getD (l.getD i 0) z69) (t.getD (l.getD (i - 1) 0) z69) = true then (stI t l i).bind fun x => some (some x) else chI t l k (i + 1)) else none) else some none
def todoV (g : Nat) : Option (Nat × Nat × Int × Bool) → Value
 | none => .tuple #[.agg #[.pointer none, .pointer none, .int .i64 0, .bool false], .bool false]
 | some (u, x, k, m) => .tuple #[.agg #[.pointer (some ⟨g, u * 6, none⟩), .pointer (some ⟨g, x * 6, none⟩), .int .i64 k, .bool m], .bool true]
theorem path_at {g g6 c6 base : Nat} {l : List Nat} {w1 W : World} (h : Kd.R kPt 94 w1 base (fun _ => True) (.slice (some ⟨g6, 0, none⟩) l.length c6) (l.map (pN g))) (hW : Below w1.heap.size w1 W) {i : Nat} (hi : i < l.length) : W.cell? ⟨g6, i, none⟩ = some (.pointer (some ⟨g, l.getD i 0 * 6, none⟩)) := by
 have h1 := el94 h hi
 rw [show (l.map (pN g)).getD i none = some ⟨g, l.getD i 0 * 6, none⟩ by rw [List.getD, List.getElem?_map, List.getElem?_eq_getElem hi, List.getD, List.getElem?_eq_getElem hi]; rfl] at h1
 exact (hW.cell (blt w1 _ h1)).trans h1
theorem choose_calls (kp k : Nat) (t : List S69) (key : Int) (l : List Nat) (res : Option (Nat × Nat × Int × Bool)) (g B : Nat) (w : World) (hb : Bt w B g t) (h0 : 0 < t.length) (hp : pathI t key kp 0 = some l) (hl : l.length ≤ 1000000) (h : chI t l k 2 = some res) :
  Calls Tryz.prog 61 #[.pointer (some ⟨g, 0, none⟩), .int .i64 key] w (RB w (todoV g res)) := by
 have HBT := Am hb
 have HP := Am hp
 have HL := Am hl
 have HH := Am h
 have HB := Br w
 obtain ⟨RV, hRV⟩ : ∃ RV, todoV g res = RV := ⟨_, rfl⟩
 rw [hRV]
 have HRV := Am hRV
 clear hb hp hl h hRV
 go_enter Tryz.func61, Tryz.ntmps61
 go_wp2_with (first | ((with_reducible refine Gd 4 rfl ?_); refine bF 4 HB.out (cs := #[.pointer none, .pointer none, .int .i64 0, .bool false]) (t := 107) ?_; clear HB; intro gr w_gr GX_gr GE_gr HK_gr HB BB_gr))
 refine (path_calls kp t key l g B _ (HBT.out.below HB.out) HP.out HL.out).mono ?_
 rintro _ w1 ⟨v, rfl, ho, hb1⟩
 obtain ⟨g6, c6, rfl, -, -, -⟩ := Kd.R_form ho (by rw [List.length_map]; exact pathI_len HP.out)
 rw [List.length_map] at ho ⊢
 have HKR := Am (blkB hb1 HK_gr.out)
 have HB1 := Am (bel_t HB.out hb1)
 have HO := Am ho
 have HGR := Am (show gr < w1.heap.size from Nat.lt_of_lt_of_le (blk_lt HK_gr.out) hb1.size)
 clear ho hb1 HK_gr BB_gr GX_gr HB HP
 go_wp2
 go_loopg [7] k (fun kq v7 w' => ∃ i : Nat, v7 = .int .i64 i ∧ Aside0 (2 ≤ i ∧ i ≤ 1000001) ∧ Aside0 (chI t l kq i = some res) ∧ Aside0 (Below w1.heap.size w1 w'))
 case atStart => exact ⟨2, rfl, ⟨Nat.le_refl _, by omega⟩, HH, ⟨Below.refl _ _⟩⟩
 case round =>
  clear HH
  obtain ⟨i, rfl, HI, HH, HW⟩ := hrel
  obtain ⟨kq1, rfl⟩ : ∃ x, gk = x + 1 := by
   cases gk with
   | zero => exact absurd HH.out (by simp [chI])
   | succ x => exact ⟨x, rfl⟩
  have hh := HH.out
  clear HH
  rw [chI] at hh
  by_cases q1 : i < l.length
  rotate_left
  ·rw [if_neg q1] at hh
   obtain rfl := Option.some.inj hh
   have p1 : decide ((i : Int) < (l.length : Int)) = false := decide_eq_false (by omega)
   have p2 : decide (i < l.length) = false := decide_eq_false q1
   have hk := blkB HW.out HKR.out
   obtain ⟨y0, y1, y2, y3, f0, f1, f2, f3⟩ := box107 hk
   have HK := Am hk
   clear hh hk q1
   go_wp2
   refine bodyPost_ret (results_ct rfl _ _ gr 107 #[.pointer none, .pointer none, .int .i64 0, .bool false] (0, 0) _ rfl (bp4 HK.out) Tryz.underlying107 rfl (by kernel_rfl)) rfl ?_
   exact ⟨by rw [← HRV.out]; rfl, by with_reducible repeat (first | exact bel_t HB1.out HW.out | refine below_set ?_ GE_gr.out)⟩
  rw [if_pos q1] at hh
  by_cases q2 : l.getD i 0 < t.length ∧ l.getD (i - 1) 0 < t.length ∧ 2 ≤ i
  rotate_left
  ·rw [if_neg q2] at hh; cases hh
  rw [if_pos q2] at hh
  have p1 : decide ((i : Int) < (l.length : Int)) = true := decide_eq_true (by omega)
  have p2 : decide (i < l.length) = true := decide_eq_true q1
  have p3 : (0 ≤ (i : Int)) = True := eq_true (by omega)
  have p4 : ((i : Int) < (l.length : Int)) = True := eq_true (by omega)
  have hw1 : wrap64 ((i : Int) - 1) = ((i - 1 : Nat) : Int) := by have := HL.out; rw [Go.IntWalk.wrap64_in _ (by omega)]; omega
  have p5 : (0 ≤ ((i - 1 : Nat) : Int)) = True := eq_true (by omega)
  have p6 : (((i - 1 : Nat) : Int) < (l.length : Int)) = True := eq_true (by omega)
  have HQ := Am q1
  have HST := Am (show stI t l i = stI t l i from rfl)
  obtain ⟨v, hv⟩ : ∃ v, l.getD i 0 = v := ⟨_, rfl⟩
  obtain ⟨f, hf⟩ : ∃ f, l.getD (i - 1) 0 = f := ⟨_, rfl⟩
  rw [hv, hf] at hh q2
  have HV := Am hv
  have HF := Am hf
  have HQ2 := Am q2
  clear q1 q2 hv hf HST
  go_wp2
  refine sT 11 [] (S := fun W' => Below w1.heap.size w1 W') (bel_t HW.out ((Below.refl _ _).drew)) fun hHeld => ?_
  refine gen_any (fun W => Below w1.heap.size w1 W) hHeld (fun w2 hHeld => ?_)
  rename_i hHeld0
  clear hHeld0
  refine pu 0 27 ?_
  refine pu 1 28 ?_
  refine pu 2 29 ?_
  refine ta 3 30 hHeld (hy := by intro w' hs; have x1 := path_at HO.out hs HQ.out; rw [HV.out] at x1; exact gz) ?_
  refine pu 4 31 ?_
  refine pu 5 32 ?_
  refine pu 6 33 ?_
  refine pu 7 34 ?_
  refine ta 8 35 hHeld (hy := by intro w' hs; have x1 := path_at HO.out hs (i := i - 1) (by have := HQ.out; omega); rw [HF.out] at x1; exact gz) ?_
  refine pu 9 8 ?_
  refine pu 10 9 ?_
  refine done_ (by kernel_rfl) ?_
  have HW2 := Am hHeld
  clear hHeld HW
  go_wp2_with (fail)
  refine (bad_calls (HBT.out.below (bel_t HB1.out HW2.out)) HQ2.out.1 HQ2.out.2.1).mono ?_
  rintro _ w3 ⟨he, hb3⟩
  have HW3 := Am (bel_t HW2.out hb3)
  clear hb3 HW2
  obtain ⟨nv, hnv⟩ : ∃ nv, t.getD v z69 = nv := ⟨_, rfl⟩
  obtain ⟨nf, hnf⟩ : ∃ nf, t.getD f z69 = nf := ⟨_, rfl⟩
  rw [hnv, hnf] at he hh
  have HNV := Am hnv
  have HNF := Am hnf
  clear hnv hnf
  cases qb : badB nv nf with
  | false =>
   rw [qb, if_neg (by decide)] at hh
   rw [qb] at he
   subst he
   clear qb
   go_wp2
   go_roundg kq1
   case measure => omega
   case rel => exact ⟨i + 1, by have := HQ.out; have := HL.out; first | rfl | (rw [Go.IntWalk.wrap64_in _ (by omega)]; rfl), ⟨by have := HI.out; omega, by have := HQ.out; have := HL.out; omega⟩, ⟨hh⟩, HW3⟩
  | true =>
   rw [qb, if_pos rfl] at hh
   rw [qb] at he
   subst he
   clear qb
   obtain ⟨x, hx, hh⟩ := Option.bind_eq_some_iff.mp hh
   obtain rfl := Option.some.inj hh
   clear hh
   rw [stI, HV.out, HF.out, HNV.out, HNF.out] at hx
   obtain ⟨-, -, zv2, -, -, -⟩ := (HBT.out.below (bel_t HB1.out HW3.out)).at HQ2.out.1
   obtain ⟨-, -, zf2, -, -, zf5⟩ := (HBT.out.below (bel_t HB1.out HW3.out)).at HQ2.out.2.1
   rw [HNV.out] at zv2
   rw [HNF.out] at zf2 zf5
   obtain ⟨u3, hu3⟩ : ∃ u3, l.getD (i - 3) 0 = u3 := ⟨_, rfl⟩
   obtain ⟨u2, hu2⟩ : ∃ u2, l.getD (i - 2) 0 = u2 := ⟨_, rfl⟩
   rw [hu3, hu2] at hx
   have HU3 := Am hu3
   have HU2 := Am hu2
   clear hu3 hu2
   by_cases q0 : nv.f2 = 0
   ·rw [if_pos q0] at hx
    have q0b : (nv.f2 == 0) = true := by simpa using q0
    by_cases q3 : 3 ≤ i
    rotate_left
    ·rw [if_neg q3] at hx; cases hx
    rw [if_pos q3] at hx
    have hr := hx
    unfold rdI at hr
    clear hx q0
    obtain ⟨⟨a1, b1⟩, hk1, hr⟩ := Option.bind_eq_some_iff.mp hr
    obtain ⟨⟨a2, b2⟩, hk2, hr⟩ := Option.bind_eq_some_iff.mp hr
    have HK1 := Am (kids_in hk1)
    have HK2 := Am (kids_in hk2)
    obtain rfl := Option.some.inj hr
    clear hr hk1 hk2
    have hw3 : wrap64 ((i : Int) - 3) = ((i - 3 : Nat) : Int) := by have := HQ.out; have := HL.out; rw [Go.IntWalk.wrap64_in _ (by omega)]; omega
    have hw2 : wrap64 ((i : Int) - 2) = ((i - 2 : Nat) : Int) := by have := HQ.out; have := HL.out; rw [Go.IntWalk.wrap64_in _ (by omega)]; omega
    have r1 : (0 ≤ ((i - 3 : Nat) : Int)) = True := eq_true (by omega)
    have r2 : (((i - 3 : Nat) : Int) < (l.length : Int)) = True := eq_true (by have := HQ.out; omega)
    have r3 : (0 ≤ ((i - 2 : Nat) : Int)) = True := eq_true (by omega)
    have r4 : (((i - 2 : Nat) : Int) < (l.length : Int)) = True := eq_true (by have := HQ.out; omega)
    go_wp2
    refine sT 14 [12] (S := fun W' => Below w1.heap.size w1 W') (bel_t HW3.out ((Below.refl _ _).drew)) fun hHeld => ?_
    refine gen_any (fun W => Below w1.heap.size w1 W) hHeld (fun w4 hHeld => ?_)
    rename_i hHeld0
    clear hHeld0
    refine pu 0 45 ?_
    refine pu 1 46 ?_
    refine pu 2 47 ?_
    refine pu 3 48 ?_
    refine ta 4 49 hHeld (hy := by intro w' hs; have x1 := path_at HO.out hs (i := i - 3) (by have := HQ.out; omega); rw [HU3.out] at x1; exact gz) ?_
    refine pu 5 50 ?_
    refine pu 6 51 ?_
    refine pu 7 52 ?_
    refine pu 8 53 ?_
    refine ta 9 54 hHeld (hy := by intro w' hs; have x1 := path_at HO.out hs (i := i - 2) (by have := HQ.out; omega); rw [HU2.out] at x1; exact gz) ?_
    refine pu 10 55 ?_
    refine on 11 56 fun K hK => ?_
    refine gO Tryz.func111 #[.pointer (some ⟨g, u3 * 6, none⟩), .pointer (some ⟨g, u2 * 6, none⟩), .pointer (some ⟨g, f * 6, none⟩)] ?_
    refine (red_calls (HBT.out.below (bel_t HB1.out hHeld)) u3 u2 f a1 b1 a2 b2 HK1.out HK2.out _ rfl).mono ?_
    rintro _ w5 ⟨rfl, hb5⟩
    refine ⟨_, rfl, ?_⟩
    refine hK.out _ _ (bel_t hHeld hb5) (fun hHeld => ?_)
    clear hK K hb5
    obtain ⟨KK, hKK⟩ : ∃ KK, redK t (decide (b1 = f)) (if decide (b1 = f) = true then a1 else b1) (if decide (b1 = f) = true then b2 else a2) = KK := ⟨_, rfl⟩
    obtain ⟨MM, hMM⟩ : ∃ MM, redM t (decide (b1 = f)) (if decide (b1 = f) = true then a1 else b1) = MM := ⟨_, rfl⟩
    rw [hKK, hMM]
    have HKK := Am (show todoV g (some (u3, u2, redK t (decide (b1 = f)) (if decide (b1 = f) = true then a1 else b1) (if decide (b1 = f) = true then b2 else a2), redM t (decide (b1 = f)) (if decide (b1 = f) = true then a1 else b1))) = .tuple #[.agg #[.pointer (some ⟨g, u3 * 6, none⟩), .pointer (some ⟨g, u2 * 6, none⟩), .int .i64 KK, .bool MM], .bool true] by rw [hKK, hMM]; rfl)
    clear hKK hMM
    refine nm 56 ?_
    exact dd21
   ·rw [if_neg q0] at hx
    have q0b : (nv.f2 == 0) = false := by simpa using q0
    clear q0
    obtain ⟨⟨a, b⟩, hk, hx⟩ := Option.bind_eq_some_iff.mp hx
    dsimp only at hx
    have HIN := Am (kids_in hk)
    clear hk
    have h5 := HIN.out.fr g
    rw [HNF.out] at h5
    rw [h5] at zf5
    obtain ⟨m, hm⟩ : ∃ m, decide (b = v) = m := ⟨_, rfl⟩
    have heq := run_eq94 g b v
    rw [hm] at heq hx
    obtain ⟨r, hr⟩ : ∃ r, (if m = true then a else b) = r := ⟨_, rfl⟩
    obtain ⟨r2, hr2⟩ : ∃ r2, (if m = true then b else a) = r2 := ⟨_, rfl⟩
    have HR := Am hr
    have HR2 := Am hr2
    have HRL := Am (show r < t.length by rw [← hr]; split; exact HIN.out.pa; exact HIN.out.pb)
    rw [hr] at hx
    obtain ⟨nr, hnr⟩ : ∃ nr, t.getD r z69 = nr := ⟨_, rfl⟩
    rw [hnr] at hx
    have HNR := Am hnr
    clear h5 hm hr hr2 hnr
    go_wp2_with (fail)
    refine (side_in (HBT.out.below (bel_t HB1.out HW3.out)) HIN.out m).mono ?_
    rintro _ w4 ⟨rfl, hb4⟩
    rw [HR.out, HR2.out]
    have HW4 := Am (bel_t HW3.out hb4)
    clear hb4 HW3 heq zv2 zf2 zf5
    obtain ⟨-, -, zf2, -, -, -⟩ := (HBT.out.below (bel_t HB1.out HW4.out)).at HQ2.out.2.1
    obtain ⟨-, -, z2, -, -, -⟩ := (HBT.out.below (bel_t HB1.out HW4.out)).at HRL.out
    rw [HNF.out] at zf2
    rw [HNR.out] at z2
    by_cases q4 : nr.f2 = 0 ∧ nf.f2 = 0
    ·rw [if_pos q4] at hx
     have q4a : (nr.f2 == 0) = true := by simpa using q4.1
     have q4b : (nf.f2 == 0) = true := by simpa using q4.2
     by_cases q3 : 3 ≤ i
     rotate_left
     ·rw [if_neg q3] at hx; cases hx
     rw [if_pos q3] at hx
     have hr := hx
     unfold rdI at hr
     clear hx q4
     obtain ⟨⟨a1, b1⟩, hk1, hr⟩ := Option.bind_eq_some_iff.mp hr
     obtain ⟨⟨a2, b2⟩, hk2, hr⟩ := Option.bind_eq_some_iff.mp hr
     have HK1 := Am (kids_in hk1)
     have HK2 := Am (kids_in hk2)
     obtain rfl := Option.some.inj hr
     clear hr hk1 hk2
     have hw3 : wrap64 ((i : Int) - 3) = ((i - 3 : Nat) : Int) := by have := HQ.out; have := HL.out; rw [Go.IntWalk.wrap64_in _ (by omega)]; omega
     have hw2 : wrap64 ((i : Int) - 2) = ((i - 2 : Nat) : Int) := by have := HQ.out; have := HL.out; rw [Go.IntWalk.wrap64_in _ (by omega)]; omega
     have r1 : (0 ≤ ((i - 3 : Nat) : Int)) = True := eq_true (by omega)
     have r2 : (((i - 3 : Nat) : Int) < (l.length : Int)) = True := eq_true (by have := HQ.out; omega)
     have r3 : (0 ≤ ((i - 2 : Nat) : Int)) = True := eq_true (by omega)
     have r4 : (((i - 2 : Nat) : Int) < (l.length : Int)) = True := eq_true (by have := HQ.out; omega)
     go_wp2
     refine sT 14 [12] (S := fun W' => Below w1.heap.size w1 W') (bel_t HW4.out ((Below.refl _ _).drew)) fun hHeld => ?_
     refine gen_any (fun W => Below w1.heap.size w1 W) hHeld (fun w4 hHeld => ?_)
     rename_i hHeld0
     clear hHeld0
     refine pu 0 81 ?_
     refine pu 1 82 ?_
     refine pu 2 83 ?_
     refine pu 3 84 ?_
     refine ta 4 85 hHeld (hy := by intro w' hs; have x1 := path_at HO.out hs (i := i - 3) (by have := HQ.out; omega); rw [HU3.out] at x1; exact gz) ?_
     refine pu 5 86 ?_
     refine pu 6 87 ?_
     refine pu 7 88 ?_
     refine pu 8 89 ?_
     refine ta 9 90 hHeld (hy := by intro w' hs; have x1 := path_at HO.out hs (i := i - 2) (by have := HQ.out; omega); rw [HU2.out] at x1; exact gz) ?_
     refine pu 10 91 ?_
     refine on 11 92 fun K hK => ?_
     refine gO Tryz.func111 #[.pointer (some ⟨g, u3 * 6, none⟩), .pointer (some ⟨g, u2 * 6, none⟩), .pointer (some ⟨g, f * 6, none⟩)] ?_
     refine (red_calls (HBT.out.below (bel_t HB1.out hHeld)) u3 u2 f a1 b1 a2 b2 HK1.out HK2.out _ rfl).mono ?_
     rintro _ w5 ⟨rfl, hb5⟩
     refine ⟨_, rfl, ?_⟩
     refine hK.out _ _ (bel_t hHeld hb5) (fun hHeld => ?_)
     clear hK K hb5
     obtain ⟨KK, hKK⟩ : ∃ KK, redK t (decide (b1 = f)) (if decide (b1 = f) = true then a1 else b1) (if decide (b1 = f) = true then b2 else a2) = KK := ⟨_, rfl⟩
     obtain ⟨MM, hMM⟩ : ∃ MM, redM t (decide (b1 = f)) (if decide (b1 = f) = true then a1 else b1) = MM := ⟨_, rfl⟩
     rw [hKK, hMM]
     have HKK := Am (show todoV g (some (u3, u2, redK t (decide (b1 = f)) (if decide (b1 = f) = true then a1 else b1) (if decide (b1 = f) = true then b2 else a2), redM t (decide (b1 = f)) (if decide (b1 = f) = true then a1 else b1))) = .tuple #[.agg #[.pointer (some ⟨g, u3 * 6, none⟩), .pointer (some ⟨g, u2 * 6, none⟩), .int .i64 KK, .bool MM], .bool true] by rw [hKK, hMM]; rfl)
     clear hKK hMM
     refine nm 92 ?_
     exact dd21
    ·rw [if_neg q4] at hx
     have HQ4 := Am q4
     clear q4
     obtain ⟨⟨rl, rr⟩, hsd, hx⟩ := Option.bind_eq_some_iff.mp hx
     obtain ⟨⟨kz, mz⟩, hz, hx⟩ := Option.bind_eq_some_iff.mp hx
     obtain rfl := Option.some.inj hx
     have SOK := Am (sdI_ok hsd)
     have HSD := Am hsd
     have HZ := Am hz
     clear hx hsd hz
     have hw2 : wrap64 ((i : Int) - 2) = ((i - 2 : Nat) : Int) := by have := HQ.out; have := HL.out; have := HQ2.out.2.2; rw [Go.IntWalk.wrap64_in _ (by omega)]; omega
     have r3 : (0 ≤ ((i - 2 : Nat) : Int)) = True := eq_true (by omega)
     have r4 : (((i - 2 : Nat) : Int) < (l.length : Int)) = True := eq_true (by have := HQ.out; omega)
     have x1 := path_at HO.out HW4.out (i := i - 2) (by have := HQ.out; omega)
     rw [HU2.out] at x1
     have hq4 : ((nr.f2 == 0) && (nf.f2 == 0)) = false := by
      cases hA : (nr.f2 == 0) with
      | false => rfl
      | true =>
       cases hB : (nf.f2 == 0) with
       | false => rfl
       | true => exact absurd ⟨by simpa using hA, by simpa using hB⟩ HQ4.out
     cases qA : (nr.f2 == 0) with
     | true =>
      cases qB : (nf.f2 == 0) with
      | true => rw [qA, qB] at hq4; cases hq4
      | false =>
       exact dd1
     | false =>
      exact dd1
end
section
open Go.Proofs.YtaabbaemfnecgaaGreat.V
def seq_look_red.f (t : List S69) (par : List Int) (m : Bool) (a1 : Int) : Option (Int × Int × Bool) :=
 if 0 ≤ a1 ∧ a1 < (par.length : Int) ∧ t.length ≤ 100000 ∧ 0 ≤ par.getD a1.toNat 0 then
  (kids t (par.getD a1.toNat 0).toNat).bind fun x => (kids t a1.toNat).bind fun y => if x.1 = a1.toNat ∨ x.2 = a1.toNat then
   some (par.getD a1.toNat 0, redK t (decide (x.2 = a1.toNat)) (if decide (x.2 = a1.toNat) then x.1 else x.2) (if decide (x.2 = a1.toNat) then y.2 else y.1), redM t (decide (x.2 = a1.toNat)) (if decide (x.2 = a1.toNat) then x.1 else x.2)) else none
 else none
def seq_look_light.f (t : List S69) (par : List Int) (m : Bool) (a1 : Int) : Option (Int × Bool) :=
 if 0 ≤ a1 then (kids t a1.toNat).bind fun x => (kids t (if m then x.1 else x.2)).bind fun y =>
  if (t.getD (if m then y.2 else y.1) z69).f2 = 0 ∨ 1 < (t.getD (if m then y.2 else y.1) z69).f2 then some (ltK t (if m then y.2 else y.1) (if m then y.1 else y.2) 0 0, ltM t m (if m then y.2 else y.1))
  else (kids t (if m then y.2 else y.1)).bind fun u => some (ltK t (if m then y.2 else y.1) (if m then y.1 else y.2) (if m then u.1 else u.2) (if m then u.2 else u.1), ltM t m (if m then y.2 else y.1))
 else none
def seq_look_even.f (t : List S69) (par : List Int) (m : Bool) (a1 : Int) : Option (Int × Bool) :=
 if 0 ≤ a1 then (kids t a1.toNat).bind fun x => (kids t (if m then x.1 else x.2)).bind fun y => some (evK t (if m then y.1 else y.2) (if m then y.2 else y.1), m) else none
section
variable (A0_0 : Option Addr) (c0_0 : Nat) (l0_0 : List (S69)) (A0_1 : Option Addr) (c0_1 : Nat) (l0_1 : List Int) (a0_2 : Bool) (a1 : Int)
theorem seq_look_red.calls (r1 : Int) (r2 : Int) (r3 : Bool) (w : World) (hr0_0 : Kd.C k69 w A0_0 l0_0.length l0_0) (hc0_0 : l0_0.length ≤ c0_0) (hr0_1 : Kd.C (Kd.int .i64) w A0_1 l0_1.length l0_1) (hc0_1 : l0_1.length ≤ c0_1) (h : seq_look_red.f l0_0 l0_1 a0_2 a1 = some (r1, r2, r3)) :
  Calls Tryz.prog 117 #[.agg #[.slice A0_0 l0_0.length c0_0, .slice A0_1 l0_1.length c0_1, .bool a0_2], .int .i64 a1] w (RB w (.tuple #[.int .i64 r1, .agg #[.int .i64 r2, .bool r3]])) := by
 unfold seq_look_red.f at h
 split at h
 rotate_left
 ·cases h
 rename_i q
 obtain ⟨x, hx, h⟩ := Option.bind_eq_some_iff.mp h
 obtain ⟨y, hy, h⟩ := Option.bind_eq_some_iff.mp h
 split at h
 rotate_left
 ·cases h
 rename_i q2
 obtain ⟨n, rfl⟩ : ∃ n : Nat, a1 = n := ⟨a1.toNat, by omega⟩
 rw [Int.toNat_natCast] at *
 obtain ⟨p, hp⟩ : ∃ p : Nat, l0_1.getD n 0 = p := ⟨(l0_1.getD n 0).toNat, by omega⟩
 rw [hp, Int.toNat_natCast] at hx
 rw [hp] at h
 injection h with h
 injection h with h1 h
 injection h with h2 h3
 subst h1 h2 h3
 exact lred_calls hr0_0 hc0_0 hr0_1 hc0_1 q.2.2.1 (by omega) hp (kids_in hx) q2 rfl rfl (kids_in hy) rfl
theorem seq_look_light.calls (r1 : Int) (r2 : Bool) (w : World) (hr0_0 : Kd.C k69 w A0_0 l0_0.length l0_0) (hc0_0 : l0_0.length ≤ c0_0) (hr0_1 : Kd.C (Kd.int .i64) w A0_1 l0_1.length l0_1) (hc0_1 : l0_1.length ≤ c0_1) (h : seq_look_light.f l0_0 l0_1 a0_2 a1 = some (r1, r2)) :
  Calls Tryz.prog 118 #[.agg #[.slice A0_0 l0_0.length c0_0, .slice A0_1 l0_1.length c0_1, .bool a0_2], .int .i64 a1] w (RB w (.agg #[.int .i64 r1, .bool r2])) := by
 unfold seq_look_light.f at h
 split at h
 rotate_left
 ·cases h
 obtain ⟨n, rfl⟩ : ∃ n : Nat, a1 = n := ⟨a1.toNat, by omega⟩
 rw [Int.toNat_natCast] at h
 obtain ⟨x, hx, h⟩ := Option.bind_eq_some_iff.mp h
 obtain ⟨y, hy, h⟩ := Option.bind_eq_some_iff.mp h
 obtain ⟨q0, hq0⟩ : ∃ q, (if a0_2 then y.2 else y.1) = q := ⟨_, rfl⟩
 obtain ⟨q1, hq1⟩ : ∃ q, (if a0_2 then y.1 else y.2) = q := ⟨_, rfl⟩
 rw [hq0, hq1] at h
 by_cases q : (l0_0.getD q0 z69).f2 = 0 ∨ 1 < (l0_0.getD q0 z69).f2
 ·rw [if_pos q] at h
  injection h with h
  injection h with h1 h2
  subst h1 h2
  exact light_calls (e1 := 0) (e2 := 0) hr0_0 hc0_0 hr0_1 hc0_1 (kids_in hx) rfl (kids_in hy) hq0 hq1 (fun q1 q2 => absurd q (by omega)) (by split <;> rfl) (by split <;> rfl)
 ·rw [if_neg q] at h
  obtain ⟨u, hu, h⟩ := Option.bind_eq_some_iff.mp h
  injection h with h
  injection h with h1 h2
  subst h1 h2
  exact light_calls hr0_0 hc0_0 hr0_1 hc0_1 (kids_in hx) rfl (kids_in hy) hq0 hq1 (fun _ _ => kids_in hu) rfl rfl
theorem seq_look_even.calls (r1 : Int) (r2 : Bool) (w : World) (hr0_0 : Kd.C k69 w A0_0 l0_0.length l0_0) (hc0_0 : l0_0.length ≤ c0_0) (hr0_1 : Kd.C (Kd.int .i64) w A0_1 l0_1.length l0_1) (hc0_1 : l0_1.length ≤ c0_1) (h : seq_look_even.f l0_0 l0_1 a0_2 a1 = some (r1, r2)) :
  Calls Tryz.prog 119 #[.agg #[.slice A0_0 l0_0.length c0_0, .slice A0_1 l0_1.length c0_1, .bool a0_2], .int .i64 a1] w (RB w (.agg #[.int .i64 r1, .bool r2])) := by
 unfold seq_look_even.f at h
 split at h
 rotate_left
 ·cases h
 obtain ⟨n, rfl⟩ : ∃ n : Nat, a1 = n := ⟨a1.toNat, by omega⟩
 rw [Int.toNat_natCast] at h
 obtain ⟨x, hx, h⟩ := Option.bind_eq_some_iff.mp h
 obtain ⟨y, hy, h⟩ := Option.bind_eq_some_iff.mp h
 injection h with h
 injection h with h1 h2
 subst h1 h2
 exact even_calls hr0_0 hc0_0 hr0_1 hc0_1 (kids_in hx) rfl (kids_in hy) rfl rfl
end
end
section
attribute [local go_sem] max2_int min2_int max_two min_two max_three min_three max_four min_four
end
section
open Go.Proofs.YtaabbaemfnecgaaGreat.V
def nxI (t : List S69) (par : List Int) (v f : Nat) : Option (Int × Int × Bool × Bool) := (kids t f).bind fun x => if x.1 = v ∨ x.2 = v then
  if (t.getD v z69).f2 = 0 ∨ ((t.getD (if decide (x.2 = v) then x.1 else x.2) z69).f2 = 0 ∧ (t.getD f z69).f2 = 0) then (seq_look_red.f t par (decide (x.2 = v)) f).map fun q => (q.1, q.2.1, q.2.2, true)
  else if (t.getD (if decide (x.2 = v) then x.1 else x.2) z69).f2 = 0 then (seq_look_light.f t par (decide (x.2 = v)) f).map fun q => ((f : Int), q.1, q.2, true)
  else if (t.getD (if decide (x.2 = v) then x.1 else x.2) z69).f2 = 1 then (seq_look_even.f t par (decide (x.2 = v)) f).map fun q => ((f : Int), q.1, q.2, true)
  else some ((f : Int), 11, false, true) else none
def seq_next.f (k : Nat) (t : List S69) (a1 : Int) : Option (Int × Int × Bool × Bool) := (weigh_First.f k t a1).bind fun v => if v.1 < 0 then some (0, 0, false, false) else
 (table_Parents.f k t).bind fun p => if v.1.toNat < t.length ∧ t.length ≤ 100000 ∧ p.1.length = t.length ∧ 0 ≤ p.1.getD v.1.toNat 0 then nxI t p.1 v.1.toNat (p.1.getD v.1.toNat 0).toNat else none
theorem seq_next.mono : ∀ a0 a1 k, LeO (seq_next.f k a0 a1) (seq_next.f (k + 1) a0 a1) := by
 intro a0 a1 k
 unfold seq_next.f
 exact LeO.bind (weigh_First.mono _ _ _) (fun _ => LeO.ite (LeO.refl _) (LeO.bind (table_Parents.mono _ _) (fun _ => LeO.refl _)))
theorem results_tct {fn : Func} {a p u : Tmp} {ty : TypeId} (h : fn.results = #[.tmp a, .cell p ty, .tmp u]) (tmps : Array Value) (w : World) (g : Nat) {V : Value}
  (hp : tmps.getD p undef = .pointer (some ⟨g, 0, none⟩)) (hl : (loadVar ty ⟨g, 0, none⟩).run Tryz.prog w = .ok V w) {v1 v2 : Value} (hv1 : tmps.getD a undef = v1) (hv2 : tmps.getD u undef = v2) :
  (results fn tmps).run Tryz.prog w = .ok (.tuple #[v1, V, v2]) w := by
 subst hv1 hv2
 exact dd73
theorem seq_next.calls (k : Nat) (A0 : Option Addr) (c0 : Nat) (t : List S69) (a1 : Int) (r1 r2 : Int) (r3 r4 : Bool) (w : World) (hr0 : Kd.C k69 w A0 t.length t) (hc0 : t.length ≤ c0) (h : seq_next.f k t a1 = some (r1, r2, r3, r4)) :
  Calls Tryz.prog 64 #[.slice A0 t.length c0, .int .i64 a1] w (RB w (.tuple #[.int .i64 r1, .agg #[.int .i64 r2, .bool r3], .bool r4])) := by
 have HR0 := Am hr0
 have HC0 := Am hc0
 have HB := Br w
 clear hr0 hc0
 unfold seq_next.f at h
 obtain ⟨⟨v, ev⟩, hfi, h⟩ := Option.bind_eq_some_iff.mp h
 have HFI := Am hfi
 clear hfi
 dsimp only at h
 by_cases q0 : v < 0
 ·rw [if_pos q0] at h
  obtain ⟨rfl, rfl, rfl, rfl⟩ : (0 : Int) = r1 ∧ (0 : Int) = r2 ∧ false = r3 ∧ false = r4 := by injection h with h; injection h with h1 h; injection h with h2 h; injection h with h3 h4; exact ⟨h1, h2, h3, h4⟩
  have d1 : decide (v < 0) = true := decide_eq_true q0
  clear h q0
  go_enter Tryz.func64, Tryz.ntmps64
  go_wp2_with (first | ((with_reducible refine Gd 5 rfl ?_); refine bF 5 HB.out (cs := #[.int .i64 0, .bool false]) (t := 49) ?_; clear HB; intro ge w_ge GX_ge GE_ge HK_ge HB BB_ge))
  refine (weigh_First.calls k A0 c0 t a1 v ev _ (Kd.C_below HR0.out HB.out) HC0.out HFI.out).mono ?_
  rintro _ w1 ⟨rfl, hb⟩
  have HK1 := Am (blkB hb HK_ge.out)
  have HB1 := Am (bel_t HB.out hb)
  clear hb HB HK_ge BB_ge HFI
  obtain ⟨x0, x1, e0, e1⟩ := box49 HK1.out
  go_wp2
  refine bodyPost_ret (results_tct rfl _ _ ge rfl (run_loadVar_row _ ge 49 49 #[.int .i64 0, .bool false] (0, 0) _ (bp2 HK1.out) Tryz.underlying49 rfl (by kernel_rfl)) rfl rfl) rfl ?_
  exact dd82
 ·rw [if_neg q0] at h
  obtain ⟨n, rfl⟩ : ∃ n : Nat, v = n := ⟨v.toNat, by omega⟩
  have d1 : decide ((n : Int) < 0) = false := decide_eq_false q0
  obtain ⟨⟨par, ep⟩, hp, h⟩ := Option.bind_eq_some_iff.mp h
  have HPA := Am hp
  clear hp
  dsimp only at h
  rw [Int.toNat_natCast] at h
  by_cases q1 : n < t.length ∧ t.length ≤ 100000 ∧ par.length = t.length ∧ 0 ≤ par.getD n 0
  rotate_left
  ·rw [if_neg q1] at h; cases h
  rw [if_pos q1] at h
  obtain ⟨q1, q2, q3, q4⟩ := q1
  obtain ⟨f, hf⟩ : ∃ f : Nat, par.getD n 0 = f := ⟨(par.getD n 0).toNat, by omega⟩
  rw [hf, Int.toNat_natCast] at h
  unfold nxI at h
  obtain ⟨⟨a, b⟩, hk, h⟩ := Option.bind_eq_some_iff.mp h
  dsimp only at h
  split at h
  rotate_left
  ·cases h
  rename_i q5
  have hI := kids_in hk
  obtain ⟨r, hr⟩ : ∃ r, (if decide (b = n) then a else b) = r := ⟨_, rfl⟩
  obtain ⟨m, hm⟩ : ∃ m, decide (b = n) = m := ⟨_, rfl⟩
  rw [hr, hm] at h
  obtain ⟨n1, hn1⟩ : ∃ x, (t.getD n z69).f2 = x := ⟨_, rfl⟩
  obtain ⟨n2, hn2⟩ : ∃ x, (t.getD r z69).f2 = x := ⟨_, rfl⟩
  obtain ⟨n3, hn3⟩ : ∃ x, (t.getD f z69).f2 = x := ⟨_, rfl⟩
  rw [hn1, hn2, hn3] at h
  have HH := Am h
  have HF := Am hf
  have HI := Am hI
  have HR := Am hr
  have HM := Am hm
  have HN1 := Am hn1
  have HN2 := Am hn2
  have HN3 := Am hn3
  have HL := Am (And.intro q1 (And.intro q2 (And.intro q3 q5)))
  have LR := Am (show r < t.length by rw [← hr]; split; exact hI.pa; exact hI.pb)
  obtain ⟨ad, ead, hze⟩ := rd_cells HR0.out hI.pe
  have HZE := Am hze
  cases ead
  have p1 : (0 ≤ (n : Int)) = True := eq_true (by omega)
  have p3 : (0 ≤ (f : Int)) = True := eq_true (by omega)
  have p4 : ((f : Int) < (t.length : Int)) = True := eq_true (by have := hI.pe; omega)
  have p6 : ((b : Int) == (n : Int)) = m := by
   rw [← hm]
   by_cases hb : b = n
   ·rw [decide_eq_true hb, hb]; simp
   ·rw [decide_eq_false hb, beq_eq_false_iff_ne]; omega
  clear h q0 q1 q2 q3 q4 q5 hf hk hI hr hm hn1 hn2 hn3 hze
  go_enter Tryz.func64, Tryz.ntmps64
  go_wp2_with (first | ((with_reducible refine Gd 5 rfl ?_); refine bF 5 HB.out (cs := #[.int .i64 0, .bool false]) (t := 49) ?_; clear HB; intro ge w_ge GX_ge GE_ge HK_ge HB BB_ge))
  refine (weigh_First.calls k (some ad) c0 t a1 (n : Int) ev _ (Kd.C_below HR0.out HB.out) HC0.out HFI.out).mono ?_
  rintro _ w1 ⟨rfl, hb⟩
  have HK1 := Am (blkB hb HK_ge.out)
  have HB1 := Am (bel_t HB.out hb)
  clear hb HB HK_ge BB_ge HFI
  obtain ⟨x0, x1, e0, e1⟩ := box49 HK1.out
  go_wp2_with (fail)
  refine (table_Parents.calls k (some ad) c0 t par ep _ (Kd.C_below HR0.out HB1.out) HC0.out HPA.out).mono ?_
  rintro _ w4 ⟨v0, rfl, ho, hb⟩
  have HK4 := Am (blkB hb HK1.out)
  have HB4 := Am (bel_t HB1.out hb)
  obtain ⟨A4, cp, rfl⟩ := Kd.R_slice ho
  obtain ⟨-, hcp, hcr⟩ := Kd.R_reads' ho
  have HCP := Am hcp
  have HCR := Am hcr
  obtain ⟨ap, eap, hpx⟩ := Kd.at_int hcr (n : Int) (by omega) (by have := HL.out; omega)
  cases eap
  rw [show rd par (n : Int) = f from HF.out, Int.toNat_natCast] at hpx
  have p2 : ((n : Int) < (par.length : Int)) = True := eq_true (by have := HL.out; omega)
  obtain ⟨z0, z1, z2, z3, z4, z5⟩ := HZE.out _ HB4.out
  rw [HI.out.pr] at z5
  clear ho hb hcp hcr HK1 HB1 HPA x0 x1 e0 e1
  go_wp2_with (fail)
  have HS0 : Aside0 (LkS w4 (some ad) c0 t.length (some ap) cp par.length m w4.heap.size ge (w4.alloc (.cells #[.slice (some ad) t.length c0, .slice (some ap) par.length cp, .bool m] 175))) := Am ⟨ba (Below.refl _ _) _, blk_new _ _, blk_alloc HK4.out _⟩
  generalize w4.alloc (.cells #[.slice (some ad) t.length c0, .slice (some ap) par.length cp, .bool m] 175) = w5 at HS0 ⊢
  clear hpx p2 z0 z1 z2 z3 z4 z5 p1 p3 p4 p6 HK4
  refine (sib_calls (Kd.C_below HR0.out (bel_t HB4.out HS0.out.1)) HC0.out (Kd.C_below HCR.out HS0.out.1) HCP.out HL.out.2.1 (by have := HL.out; omega) HF.out HI.out HL.out.2.2.2 HR.out).mono ?_
  rintro _ w6 ⟨rfl, hbn⟩
  have HS6 := Am (HS0.out.bel hbn)
  clear hbn HS0
  obtain ⟨y0, y1, y2, f0, f1, f2⟩ := box175 HS6.out.2.1
  go_wp2_with (fail)
  refine (lw_calls (Kd.C_below HR0.out (bel_t HB4.out HS6.out.1)) HC0.out (Kd.C_below HCR.out HS6.out.1) HCP.out HL.out.1).mono ?_
  rintro _ w7 ⟨rfl, hbn⟩
  rw [HN1.out]
  have HS7 := Am (HS6.out.bel hbn)
  clear hbn HS6
  clear y0 y1 y2 f0 f1 f2
  obtain ⟨y0, y1, y2, f0, f1, f2⟩ := box175 HS7.out.2.1
  cases s1 : (n1 == 0) with
  | true =>
   have e_s1 : n1 = 0 := by simpa using s1
   have h := HH.out
   rw [if_pos (show n1 = 0 ∨ n2 = 0 ∧ n3 = 0 by omega)] at h
   obtain ⟨⟨q1, q2, q3⟩, hq, h⟩ := Option.map_eq_some_iff.mp h
   obtain ⟨rfl, rfl, rfl, rfl⟩ : q1 = r1 ∧ q2 = r2 ∧ q3 = r3 ∧ true = r4 := by injection h with h1 h; injection h with h2 h; injection h with h3 h4; exact ⟨h1, h2, h3, h4⟩
   go_wp2_with (fail)
   refine (seq_look_red.calls (some ad) c0 t (some ap) cp par m f q1 q2 q3 _ (Kd.C_below HR0.out (bel_t HB4.out HS7.out.1)) HC0.out (Kd.C_below HCR.out HS7.out.1) HCP.out hq).mono ?_
   rintro _ w8 ⟨rfl, hbn⟩
   have HS8 := Am (HS7.out.bel hbn)
   clear hbn HS7
   clear y0 y1 y2 f0 f1 f2
   obtain ⟨y0, y1, y2, f0, f1, f2⟩ := box175 HS8.out.2.1
   clear hq y0 y1 y2 f0 f1 f2
   go_wp2
   refine sT 5 [] (S := fun W => W.heap[w8.heap.size]? = some (.cells #[.int .i64 q2, .bool q3] 49 (0, 0))) (blk_drew (blk_new _ _)) fun hHeld => ?_
   refine gen_any (fun W => W.heap[w8.heap.size]? = some (.cells #[.int .i64 q2, .bool q3] 49 (0, 0)) ∧ W.heap[ge]? = some (.cells #[.int .i64 0, .bool false] 49 (0, 0)) ∧ Below w.heap.size w W) ⟨hHeld, blk_drew (blk_alloc HS8.out.2.2 _), bd (ba (bel_t HB4.out HS8.out.1) _)⟩ (fun w90 hh => ?_)
   clear hHeld
   have hHeld := hh.1
   have HKg := Am hh.2.1
   have hbw := hh.2.2
   clear hh
   have hne : w8.heap.size ≠ ge := Nat.ne_of_gt (blk_lt HS8.out.2.2)
   exact dd20
  | false =>
   go_wp2_with (fail)
   refine (lw_calls (Kd.C_below HR0.out (bel_t HB4.out HS7.out.1)) HC0.out (Kd.C_below HCR.out HS7.out.1) HCP.out LR.out).mono ?_
   rintro _ w9 ⟨rfl, hbn⟩
   rw [HN2.out]
   have HS9 := Am (HS7.out.bel hbn)
   clear hbn HS7
   clear y0 y1 y2 f0 f1 f2
   obtain ⟨y0, y1, y2, f0, f1, f2⟩ := box175 HS9.out.2.1
   cases s2 : (n2 == 0) with
   | true =>
    go_wp2_with (fail)
    refine (lw_calls (Kd.C_below HR0.out (bel_t HB4.out HS9.out.1)) HC0.out (Kd.C_below HCR.out HS9.out.1) HCP.out HI.out.pe).mono ?_
    rintro _ w10 ⟨rfl, hbn⟩
    rw [HN3.out]
    have HS10 := Am (HS9.out.bel hbn)
    clear hbn HS9
    clear y0 y1 y2 f0 f1 f2
    obtain ⟨y0, y1, y2, f0, f1, f2⟩ := box175 HS10.out.2.1
    cases s3 : (n3 == 0) with
    | true =>
     have e_s1 : ¬ n1 = 0 := by simpa using s1
     have e_s2 : n2 = 0 := by simpa using s2
     have e_s3 : n3 = 0 := by simpa using s3
     have h := HH.out
     rw [if_pos (show n1 = 0 ∨ n2 = 0 ∧ n3 = 0 by omega)] at h
     obtain ⟨⟨q1, q2, q3⟩, hq, h⟩ := Option.map_eq_some_iff.mp h
     obtain ⟨rfl, rfl, rfl, rfl⟩ : q1 = r1 ∧ q2 = r2 ∧ q3 = r3 ∧ true = r4 := by injection h with h1 h; injection h with h2 h; injection h with h3 h4; exact ⟨h1, h2, h3, h4⟩
     go_wp2_with (fail)
     refine (seq_look_red.calls (some ad) c0 t (some ap) cp par m f q1 q2 q3 _ (Kd.C_below HR0.out (bel_t HB4.out HS10.out.1)) HC0.out (Kd.C_below HCR.out HS10.out.1) HCP.out hq).mono ?_
     rintro _ w11 ⟨rfl, hbn⟩
     have HS11 := Am (HS10.out.bel hbn)
     clear hbn HS10
     clear y0 y1 y2 f0 f1 f2
     obtain ⟨y0, y1, y2, f0, f1, f2⟩ := box175 HS11.out.2.1
     clear hq y0 y1 y2 f0 f1 f2
     go_wp2
     refine sT 5 [] (S := fun W => W.heap[w11.heap.size]? = some (.cells #[.int .i64 q2, .bool q3] 49 (0, 0))) (blk_drew (blk_new _ _)) fun hHeld => ?_
     refine gen_any (fun W => W.heap[w11.heap.size]? = some (.cells #[.int .i64 q2, .bool q3] 49 (0, 0)) ∧ W.heap[ge]? = some (.cells #[.int .i64 0, .bool false] 49 (0, 0)) ∧ Below w.heap.size w W) ⟨hHeld, blk_drew (blk_alloc HS11.out.2.2 _), bd (ba (bel_t HB4.out HS11.out.1) _)⟩ (fun w90 hh => ?_)
     clear hHeld
     have hHeld := hh.1
     have HKg := Am hh.2.1
     have hbw := hh.2.2
     clear hh
     have hne : w11.heap.size ≠ ge := Nat.ne_of_gt (blk_lt HS11.out.2.2)
     exact dd20
    | false =>
     go_wp2_with (fail)
     refine (lw_calls (Kd.C_below HR0.out (bel_t HB4.out HS10.out.1)) HC0.out (Kd.C_below HCR.out HS10.out.1) HCP.out LR.out).mono ?_
     rintro _ w12 ⟨rfl, hbn⟩
     rw [HN2.out]
     have HS12 := Am (HS10.out.bel hbn)
     clear hbn HS10
     clear y0 y1 y2 f0 f1 f2
     obtain ⟨y0, y1, y2, f0, f1, f2⟩ := box175 HS12.out.2.1
     have e_s1 : ¬ n1 = 0 := by simpa using s1
     have e_s2 : n2 = 0 := by simpa using s2
     have e_s3 : ¬ n3 = 0 := by simpa using s3
     have h := HH.out
     rw [if_neg (show ¬ (n1 = 0 ∨ n2 = 0 ∧ n3 = 0) by omega)] at h
     rw [if_pos (show n2 = 0 by omega)] at h
     obtain ⟨⟨q2, q3⟩, hq, h⟩ := Option.map_eq_some_iff.mp h
     obtain ⟨rfl, rfl, rfl, rfl⟩ : (f : Int) = r1 ∧ q2 = r2 ∧ q3 = r3 ∧ true = r4 := by injection h with h1 h; injection h with h2 h; injection h with h3 h4; exact ⟨h1, h2, h3, h4⟩
     go_wp2_with (fail)
     refine (seq_look_light.calls (some ad) c0 t (some ap) cp par m f q2 q3 _ (Kd.C_below HR0.out (bel_t HB4.out HS12.out.1)) HC0.out (Kd.C_below HCR.out HS12.out.1) HCP.out hq).mono ?_
     rintro _ w13 ⟨rfl, hbn⟩
     have HS13 := Am (HS12.out.bel hbn)
     clear hbn HS12
     clear y0 y1 y2 f0 f1 f2
     obtain ⟨y0, y1, y2, f0, f1, f2⟩ := box175 HS13.out.2.1
     have hbw : Below w.heap.size w _ := bel_t HB4.out HS13.out.1
     obtain ⟨x0, x1, e0, e1⟩ := box49 HS13.out.2.2
     go_wp2
     refine bodyPost_ret (results_tct rfl _ _ ge rfl (run_loadVar_row _ ge 49 49 #[.int .i64 q2, .bool q3] (0, 0) _ (bp2 HS13.out.2.2) Tryz.underlying49 rfl (by kernel_rfl)) rfl rfl) rfl ?_
     exact dd35
   | false =>
    go_wp2_with (fail)
    refine (lw_calls (Kd.C_below HR0.out (bel_t HB4.out HS9.out.1)) HC0.out (Kd.C_below HCR.out HS9.out.1) HCP.out LR.out).mono ?_
    rintro _ w14 ⟨rfl, hbn⟩
    rw [HN2.out]
    have HS14 := Am (HS9.out.bel hbn)
    clear hbn HS9
    clear y0 y1 y2 f0 f1 f2
    obtain ⟨y0, y1, y2, f0, f1, f2⟩ := box175 HS14.out.2.1
    go_wp2_with (fail)
    refine (lw_calls (Kd.C_below HR0.out (bel_t HB4.out HS14.out.1)) HC0.out (Kd.C_below HCR.out HS14.out.1) HCP.out LR.out).mono ?_
    rintro _ w15 ⟨rfl, hbn⟩
    rw [HN2.out]
    have HS15 := Am (HS14.out.bel hbn)
    clear hbn HS14
    clear y0 y1 y2 f0 f1 f2
    obtain ⟨y0, y1, y2, f0, f1, f2⟩ := box175 HS15.out.2.1
    cases s4 : (n2 == 1) with
    | true =>
     have e_s1 : ¬ n1 = 0 := by simpa using s1
     have e_s2 : ¬ n2 = 0 := by simpa using s2
     have e_s4 : n2 = 1 := by simpa using s4
     have h := HH.out
     rw [if_neg (show ¬ (n1 = 0 ∨ n2 = 0 ∧ n3 = 0) by omega)] at h
     rw [if_neg (show ¬ (n2 = 0) by omega)] at h
     rw [if_pos (show n2 = 1 by omega)] at h
     obtain ⟨⟨q2, q3⟩, hq, h⟩ := Option.map_eq_some_iff.mp h
     obtain ⟨rfl, rfl, rfl, rfl⟩ : (f : Int) = r1 ∧ q2 = r2 ∧ q3 = r3 ∧ true = r4 := by injection h with h1 h; injection h with h2 h; injection h with h3 h4; exact ⟨h1, h2, h3, h4⟩
     go_wp2_with (fail)
     refine (seq_look_even.calls (some ad) c0 t (some ap) cp par m f q2 q3 _ (Kd.C_below HR0.out (bel_t HB4.out HS15.out.1)) HC0.out (Kd.C_below HCR.out HS15.out.1) HCP.out hq).mono ?_
     rintro _ w16 ⟨rfl, hbn⟩
     have HS16 := Am (HS15.out.bel hbn)
     clear hbn HS15
     clear y0 y1 y2 f0 f1 f2
     obtain ⟨y0, y1, y2, f0, f1, f2⟩ := box175 HS16.out.2.1
     have hbw : Below w.heap.size w _ := bel_t HB4.out HS16.out.1
     obtain ⟨x0, x1, e0, e1⟩ := box49 HS16.out.2.2
     go_wp2
     refine bodyPost_ret (results_tct rfl _ _ ge rfl (run_loadVar_row _ ge 49 49 #[.int .i64 q2, .bool q3] (0, 0) _ (bp2 HS16.out.2.2) Tryz.underlying49 rfl (by kernel_rfl)) rfl rfl) rfl ?_
     exact dd35
    | false =>
     have e_s1 : ¬ n1 = 0 := by simpa using s1
     have e_s2 : ¬ n2 = 0 := by simpa using s2
     have e_s4 : ¬ n2 = 1 := by simpa using s4
     have h := HH.out
     rw [if_neg (show ¬ (n1 = 0 ∨ n2 = 0 ∧ n3 = 0) by omega)] at h
     rw [if_neg (show ¬ (n2 = 0) by omega)] at h
     rw [if_neg (show ¬ (n2 = 1) by omega)] at h
     obtain ⟨rfl, rfl, rfl, rfl⟩ : (f : Int) = r1 ∧ (11 : Int) = r2 ∧ false = r3 ∧ true = r4 := by injection h with h; injection h with h1 h; injection h with h2 h; injection h with h3 h4; exact ⟨h1, h2, h3, h4⟩
     have hbw : Below w.heap.size w _ := bel_t HB4.out HS15.out.1
     obtain ⟨x0, x1, e0, e1⟩ := box49 HS15.out.2.2
     go_wp2
     refine bodyPost_ret (results_tct rfl _ _ ge rfl (run_loadVar_row _ ge 49 49 #[.int .i64 11, .bool false] (0, 0) _ (bp2 HS15.out.2.2) Tryz.underlying49 rfl (by kernel_rfl)) rfl rfl) rfl ?_
     exact dd35
end
section
attribute [local go_sem] max2_int min2_int max_two min_two max_three min_three max_four min_four
def larchref16_Leaf.f (a0_0 : Int) (a0_1 : Int) (a0_2 : Int) (a0_3 : Int) (a0_4 : Int) (a0_5 : Int) : Option (Bool) := some (a0_4 == (-1))
theorem larchref16_Leaf.calls (a0_0 : Int) (a0_1 : Int) (a0_2 : Int) (a0_3 : Int) (a0_4 : Int) (a0_5 : Int) (r : Bool) (w : World) (h : larchref16_Leaf.f a0_0 a0_1 a0_2 a0_3 a0_4 a0_5 = some r) :
  Calls Tryz.prog 109 #[.agg #[.int .i64 a0_0, .int .i64 a0_1, .int .i64 a0_2, .int .i64 a0_3, .int .i64 a0_4, .int .i64 a0_5]] w (RB w (.bool r)) := by
 have HB := Br w
 have H : (some (a0_4 == (-1))) = some r := h
 clear h
 obtain rfl := Option.some.inj H
 go_enter Tryz.func109, Tryz.ntmps109
 exact dd15
def larchref16_Rows.l0 : Nat → List (S69) → List Int → List Int → Option (List Int)
 | 0, _, _, _ => none
 | k + 1, x0, x5, x6 => if (x6.length : Int) > 0 then (if 0 ≤ (wrap64 ((x6.length : Int) - 1)) then (if (wrap64 ((x6.length : Int) - 1)) < (x6.length : Int) then (if (wrap64 ((x6.length : Int) - 1)) ≤ (x6.length : Int) then ((some (x6.take ((wrap64 ((x6.length : Int) - 1)) : Int).toNat : List Int)).bind fun y341 => (if x5.length < 17592186044416 then ((some (x5 ++ [rd x6 (wrap64 ((x6.length : Int) - 1))] : List Int)).bind fun y344 => (if 0 ≤ (rd x6 (wrap64 ((x6.length : Int) - 1))) then (if (rd x6 (wrap64 ((x6.length : Int) - 1))) < (x0.length : Int) then ((larchref16_Leaf.f ((rd_T69 x0 (rd x6 (wrap64 ((x6.length : Int) - 1)))).f0) ((rd_T69 x0 (rd x6 (wrap64 ((x6.length : Int) - 1)))).f1) ((rd_T69 x0 (rd x6 (wrap64 ((x6.length : Int) - 1)))).f2) ((rd_T69 x0 (rd x6 (wrap64 ((x6.length : Int) - 1)))).f3) ((rd_T69 x0 (rd x6 (wrap64 ((x6.length : Int) - 1)))).f4) ((rd_T69 x0 (rd x6 (wrap64 ((x6.length : Int) - 1)))).f5)).bind fun t348 => (if t348 = true then (larchref16_Rows.l0 k x0 y344 y341) else ((some (([(rd_T69 x0 (rd x6 (wrap64 ((x6.length : Int) - 1)))).f5, (rd_T69 x0 (rd x6 (wrap64 ((x6.length : Int) - 1)))).f4] : List Int) : List Int)).bind fun y351 => (if y341.length + y351.length < 17592186044416 then (larchref16_Rows.l0 k x0 y344 (y341 ++ y351)) else (none))))) else (none)) else (none))) else (none))) else (none)) else (none)) else (none)) else (some x5)
def larchref16_Rows.f (k : Nat) (l0 : List (S69)) (a1 : Int) : Option (List Int) := larchref16_Rows.l0 k l0 ([] : List Int) (([a1] : List Int))
theorem larchref16_Rows.mono_l : ∀ k, (∀ y0 y1 y2, LeO (larchref16_Rows.l0 k y0 y1 y2) (larchref16_Rows.l0 (k + 1) y0 y1 y2))
 | 0 => fun _ _ _ r h => by simp [larchref16_Rows.l0] at h
 | k + 1 => by
  have ih0 := larchref16_Rows.mono_l k
  ·intro y0 y1 y2
   unfold larchref16_Rows.l0
   repeat' with_reducible first | exact ih0 _ _ _ | exact LeO.refl _ | exact LeO.none _ | refine LeO.ite ?_ ?_ | refine LeO.bind ?_ (fun _ => ?_)
theorem larchref16_Rows.mono : ∀ a0 a1 k, LeO (larchref16_Rows.f k a0 a1) (larchref16_Rows.f (k + 1) a0 a1) := by
 intro a0 a1 k
 have ih0 := larchref16_Rows.mono_l k
 unfold larchref16_Rows.f
 repeat' with_reducible first | exact ih0 _ _ _ | exact LeO.refl _ | exact LeO.none _ | refine LeO.ite ?_ ?_ | refine LeO.bind ?_ (fun _ => ?_)
def larchref16_Rows.T8 : Bool × List (List Nat × List Nat) := (true, [([], []), ([], []), ([], []), ([1, 2], [1, 2]), ([3], [3]), ([4], [4]), ([], []), ([], []), ([6, 7], [6, 7]), ([8], [8]), ([9], [9]), ([5, 10], [5, 10]), ([0, 11], [0, 11]), ([12, 12, 0, 1, 2, 3, 4, 5, 6, 7, 8, 9, 10, 11, 12], [0, 12])])
def larchref16_Rows.B8 : List Nat := [0, 0, 0, 6, 14, 30, 0, 0, 192, 448, 960, 2046, 4095, 8191]
theorem larchref16_Rows.tab8 : rtab .any (opsOf Tryz.f62 8) = larchref16_Rows.T8 := by kernel_rfl
theorem larchref16_Rows.bits8 : waitsOk larchref16_Rows.T8.2 larchref16_Rows.B8 = true := by kernel_rfl
theorem larchref16_Rows.calls (k : Nat) (A0 : Option Addr) (c0 : Nat) (l0 : List (S69)) (a1 : Int) (r : List Int) (w : World) (hr0 : Kd.C k69 w A0 l0.length l0) (hc0 : l0.length ≤ c0) (h : larchref16_Rows.f k l0 a1 = some r) :
  Calls Tryz.prog 62 #[.slice A0 l0.length c0, .int .i64 a1] w fun e w' => ∃ v0_ : Value, e = .returned (v0_) ∧ Kd.R (Kd.int .i64) 3 w' w.heap.size (fun _ => True) v0_ r ∧ Below w.heap.size w w' := by
 have HR0 := Am hr0
 have HC0 := Am hc0
 clear hr0 hc0
 have HB := Br w
 have H : (larchref16_Rows.l0 k l0 ([] : List Int) (([a1] : List Int))) = some r := h
 clear h
 obtain ⟨y337, hy337⟩ : ∃ y_ : List Int, y_ = (([a1] : List Int)) := ⟨_, rfl⟩
 rw [← hy337] at H
 have Ny337 := Am hy337
 clear hy337
 have H' := Am H
 clear H
 go_enter Tryz.func62, Tryz.ntmps62
 go_wp2_with (first | ((with_reducible refine Gd 9 rfl ?_); refine Kd.R_lit (Kd.int .i64) _ 3 ?hg (N := 9) ?hd (xs := ([a1] : List Int)) (inner := [.int .i64 a1]) (ok := fun _ => True) (okp := fun _ => True) ?hr ?hp (fun _ hk => hk) trivial (Below.refl _ _) (Nat.le_refl _) (by simp) ?_; (case hd => rfl); (case hg => rfl); (case hr => first | (go_simp; done) | (go_simp; rfl)); (case hp => exact (Reps.one (show Kd.M (Kd.int .i64) _ _ _ a1 [.int .i64 a1] from rfl) (Reps.none _ _))); intro v338 w3 ho4 hb hg_ hnew_; clear hg_ hnew_; (first | rw [← Ny337.out] at ho4 | (simp only [Int.reduceToNat] at ho4; rw [← Ny337.out] at ho4)); replace HO339 := Am (Kd.R_lower ho4 (below_size bq)); replace HB := Am (below_step bq hb); clear hb ho4))
 go_loopg [5, 6] k (fun kq v5 v6 w' => ∃ (x5_1 : List Int) (x6_1 : List Int), Aside0 (larchref16_Rows.l0 kq l0 x5_1 x6_1 = some r) ∧ Aside0 (kq ≤ k) ∧ Aside0 (Kd.R (Kd.int .i64) 3 w' w.heap.size (fun k_ => some k_ ≠ (v6 : Value).ownBlock) v5 x5_1) ∧ Aside0 (Kd.R (Kd.int .i64) 3 w' w.heap.size (fun k_ => some k_ ≠ (v5 : Value).ownBlock) v6 x6_1) ∧ Aside0 (Below w.heap.size w w'))
 case atStart => exact ⟨(([] : List Int)), (y337), H', ⟨Nat.le_refl _⟩, ⟨by first | exact Kd.R_nil _ _ _ _ _ | exact Kd.N_nil _ _ _ _ _ | exact Kd.V_nil _ _ _ _ _ | exact Kd.Q_nil _ _ _ _ _ | exact Kd.S_nil _ _ _ _ _⟩, ⟨by (with_reducible repeat (first | apply Kd.R_alloc | apply Kd.R_drewN | apply Kd.R_drew)); exact Kd.R_mono HO339.out (fun _ hk => (by simp [Value.ownBlock]))⟩, ⟨bq⟩⟩
 case round =>
  clear H'
  obtain ⟨x5_1, x6_1, HA, HK1, HO_5, HO_6, HB⟩ := hrel
  cases gk with
  | zero => exact absurd HA.out (by simp [larchref16_Rows.l0])
  | succ k1 =>
   have H := HA.out
   clear HA
   simp only [larchref16_Rows.l0] at H
   by_cases c5 : (x6_1.length : Int) > 0
   ·rw [if_pos c5] at H
    have c5b0 : decide (0 < (x6_1.length : Int)) = true := decide_eq_true c5
    have c5b1 : decide (0 < x6_1.length) = true := decide_eq_true (by omega)
    clear c5
    obtain ⟨ji6, hji6⟩ : ∃ j_ : Int, (wrap64 ((x6_1.length : Int) - 1)) = j_ := ⟨_, rfl⟩
    first | rw [hji6] at H | simp only [hji6] at H
    have hji6w : (IntKind.i64.wrap ((x6_1.length : Int) - 1)) = ji6 := (i64_w _).trans hji6
    obtain ⟨c7b0, H⟩ := ge H
    obtain ⟨c8b0, H⟩ := ge H
    obtain ⟨c9, H⟩ := gd H
    have c9b0 := eq_true c9
    have c9b1 := decide_eq_true c9
    clear c9
    obtain ⟨y341, Ny341, H⟩ := gb H
    obtain ⟨c10, H⟩ := gd H
    have LMc10 := Am c10
    clear c10
    obtain ⟨y344, Ny344, H⟩ := gb H
    obtain ⟨c11b0, H⟩ := ge H
    obtain ⟨c12b0, H⟩ := ge H
    obtain ⟨t348, A13, H⟩ := bo H
    by_cases c14 : t348 = true
    ·subst c14
     rw [if_pos rfl] at H
     have H' := Am H
     clear H
     obtain ⟨Ao15, co15, eo15⟩ := Kd.R_slice HO_6.out
     subst eo15
     have p340 : 0 ≤ ((ji6) : Int) := da
     have q340 : (ji6) < (x6_1.length : Int) := da
     obtain ⟨ad340, e340, hx340_0⟩ := Kd.at_int (Kd.R_reads' HO_6.out).2.2 (ji6) p340 q340
     cases e340
     replace p340 := eq_true p340
     replace q340 := eq_true q340
     have q16 : ((ji6) : Int) ≤ ((x6_1.length : Int) : Int) := da
     obtain ⟨i016, hi016, _, hsz16, _⟩ := info_parts info3
     have hcut16 := cut_to (P := Tryz.prog) 60 3 .i64 Tryz.underlying60 hi016 (some ad340) x6_1.length co15 (ji6) (da) q16 (Kd.R_reads' HO_6.out).2.1
     have hr16 := Kd.R_take (m := ((ji6) : Int).toNat) HO_6.out (by omega)
     have hy16 : y341.length = ((ji6) : Int).toNat := (by rw [Ny341.out, List.length_take]; omega)
     rw [← Ny341.out] at hr16
     rw [← hy16] at hr16 hcut16
     clear hy16 hi016 hsz16 HO_6
     have HO343 := Am hr16
     clear hr16
     replace q16 := eq_true q16
     go_wp2_with (first | ((with_reducible refine gate_builtin (b := .append) (xs := #[.tmp 24, .tmp 26]) rfl ?_); at_builtin; refine Kd.R_append (Kd.int .i64) (w0 := w) w.heap.size rfl (.tmp 24) (.tmp 26) 60 3 (.int .i64 0) 8 rfl Tryz.underlying60 info3 rfl (by decide) (by omega) u5 x5_1 (rd x6_1 (ji6)) [.int .i64 (rd x6_1 (ji6))] (fun k_ => some k_ ≠ (.slice (some ad340) y341.length co15 : Value).ownBlock) (fun _ => False) rfl rfl ?aP (fun _ hk => hk.elim) ?aF ?aO ?aB ?aS ?aL ?_; (case aP => exact rfl); (case aB => exact bq); (case aF => exact (fun k_ hk => Kd.fresh' (Kd.R_lt (kr HO343.out)) k_ hk)); (case aO => exact (kr HO_5.out)); (case aS => exact (below_size bq)); (case aL => have := LMc10.out; omega); intro v345 w17 ho hb hg hat; rw [← Ny344.out] at ho; replace HO343 := Am (Kd.R_after (ok := (fun _ => True)) (by (with_reducible repeat (first | apply Kd.R_alloc | apply Kd.R_drewN | apply Kd.R_drew)); exact Kd.R_mono HO343.out (fun _ hk => ⟨trivial, hk⟩)) hg hat); replace HB := Am (hb); have HO346 := Am (ho); clear HO_5; clear ho hb hg hat; obtain ⟨ad347, e347, hx347_0, hx347_1, hx347_2, hx347_3, hx347_4, hx347_5, p347, q347⟩ := t6d HB.out HR0.out (rd x6_1 (ji6)); cases e347) | ((with_reducible refine Gc 109 rfl ?_); refine goesL_ (some 32) rfl rfl Tryz.func109 (by kernel_rfl) rfl #[.agg (cN (rd_T69 l0 (rd x6_1 (ji6))))] rfl (by (try simp only [List.map_toArray, List.map_cons, List.map_nil]); first | done | (simp only [hji6]; rfl) | rfl | (simp only [List.length_drop, List.length_take]; rfl)) ?_; (with_reducible refine (larchref16_Leaf.calls _ _ _ _ _ _ true _ A13.out).mono ?_); rintro e w18 ⟨rfl, hb⟩; refine ⟨_, rfl, ?_⟩; replace HO343 := Am (Kd.R_below (kr HO343.out) hb); replace HO346 := Am (Kd.R_below (kr HO346.out) hb); replace HB := Am (below_step bq hb); (try clear hb)))
     go_roundg k1
     case measure => have := HK1.out; omega
     case rel => exact ⟨(y344), (y341), H', ⟨by have := HK1.out; omega⟩, ⟨kr HO346.out⟩, ⟨by (with_reducible repeat (first | apply Kd.R_alloc | apply Kd.R_drewN | apply Kd.R_drew)); exact Kd.R_mono HO343.out (fun _ hk => hk.2)⟩, ⟨bq⟩⟩
    ·replace c14 := Bool.eq_false_iff.mpr c14
     subst c14
     rw [if_neg nf] at H
     obtain ⟨y351, Ny351, H⟩ := gb H
     obtain ⟨c19, H⟩ := gd H
     have LMc19 := Am c19
     clear c19
     obtain ⟨y354, hy354⟩ : ∃ y_ : List Int, y_ = (y341 ++ y351) := ⟨_, rfl⟩
     rw [← hy354] at H
     have Ny354 := Am hy354
     clear hy354
     have H' := Am H
     clear H
     obtain ⟨Ao20, co20, eo20⟩ := Kd.R_slice HO_6.out
     subst eo20
     have p340 : 0 ≤ ((ji6) : Int) := da
     have q340 : (ji6) < (x6_1.length : Int) := da
     obtain ⟨ad340, e340, hx340_0⟩ := Kd.at_int (Kd.R_reads' HO_6.out).2.2 (ji6) p340 q340
     cases e340
     replace p340 := eq_true p340
     replace q340 := eq_true q340
     have q21 : ((ji6) : Int) ≤ ((x6_1.length : Int) : Int) := da
     obtain ⟨i021, hi021, _, hsz21, _⟩ := info_parts info3
     have hcut21 := cut_to (P := Tryz.prog) 60 3 .i64 Tryz.underlying60 hi021 (some ad340) x6_1.length co20 (ji6) (da) q21 (Kd.R_reads' HO_6.out).2.1
     have hr21 := Kd.R_take (m := ((ji6) : Int).toNat) HO_6.out (by omega)
     have hy21 : y341.length = ((ji6) : Int).toNat := (by rw [Ny341.out, List.length_take]; omega)
     rw [← Ny341.out] at hr21
     rw [← hy21] at hr21 hcut21
     clear hy21 hi021 hsz21 HO_6
     have HO343 := Am hr21
     clear hr21
     replace q21 := eq_true q21
     try go_wp2_with (first | ((with_reducible refine gate_builtin (b := .append) (xs := #[.tmp 24, .tmp 26]) rfl ?_); at_builtin; refine Kd.R_append (Kd.int .i64) (w0 := w) w.heap.size rfl (.tmp 24) (.tmp 26) 60 3 (.int .i64 0) 8 rfl Tryz.underlying60 info3 rfl (by decide) (by omega) u5 x5_1 (rd x6_1 (ji6)) [.int .i64 (rd x6_1 (ji6))] (fun k_ => some k_ ≠ (.slice (some ad340) y341.length co20 : Value).ownBlock) (fun _ => False) rfl rfl ?aP (fun _ hk => hk.elim) ?aF ?aO ?aB ?aS ?aL ?_; (case aP => exact rfl); (case aB => exact bq); (case aF => exact (fun k_ hk => Kd.fresh' (Kd.R_lt (kr HO343.out)) k_ hk)); (case aO => exact (kr HO_5.out)); (case aS => exact (below_size bq)); (case aL => have := LMc10.out; omega); intro v345 w22 ho hb hg hat; rw [← Ny344.out] at ho; replace HO343 := Am (Kd.R_after (ok := (fun _ => True)) (by (with_reducible repeat (first | apply Kd.R_alloc | apply Kd.R_drewN | apply Kd.R_drew)); exact Kd.R_mono HO343.out (fun _ hk => ⟨trivial, hk⟩)) hg hat); replace HB := Am (hb); have HO346 := Am (ho); clear HO_5; clear ho hb hg hat; obtain ⟨ad347, e347, hx347_0, hx347_1, hx347_2, hx347_3, hx347_4, hx347_5, p347, q347⟩ := t6d HB.out HR0.out (rd x6_1 (ji6)); cases e347) | ((with_reducible refine Gc 109 rfl ?_); refine goesL_ (some 32) rfl rfl Tryz.func109 (by kernel_rfl) rfl #[.agg (cN (rd_T69 l0 (rd x6_1 (ji6))))] rfl (by (try simp only [List.map_toArray, List.map_cons, List.map_nil]); first | done | (simp only [hji6]; rfl) | rfl | (simp only [List.length_drop, List.length_take]; rfl)) ?_; (with_reducible refine (larchref16_Leaf.calls _ _ _ _ _ _ false _ A13.out).mono ?_); rintro e w23 ⟨rfl, hb⟩; refine ⟨_, rfl, ?_⟩; replace HO343 := Am (Kd.R_below (kr HO343.out) hb); replace HO346 := Am (Kd.R_below (kr HO346.out) hb); replace HB := Am (below_step bq hb); (try clear hb)))
     replace HO343 := Am (Kd.R_drew HO343.out)
     replace HO346 := Am (Kd.R_drew HO346.out)
     replace HB := Am (bd HB.out)
     obtain ⟨ad349, e349, ⟨hw349_0, hw349_1, hw349_2, hw349_3, hw349_4, hw349_5⟩, hx349_0, hx349_1, hx349_2, hx349_3, hx349_4, hx349_5, p349, q349⟩ := t6e HB.out HR0.out (rd x6_1 (ji6))
     obtain rfl : ad347 = ad349 := (by injection e349)
     obtain ⟨ad350, e350, ⟨hw350_0, hw350_1, hw350_2, hw350_3, hw350_4, hw350_5⟩, hx350_0, hx350_1, hx350_2, hx350_3, hx350_4, hx350_5, p350, q350⟩ := t6e HB.out HR0.out (rd x6_1 (ji6))
     obtain rfl : ad347 = ad350 := (by injection e350)
     refine sT 14 [] (S := fun w' => w'.cell? (ad347.add (((rd x6_1 (ji6))).toNat * 6)) = some (.int .i64 ((rd_T69 l0 (rd x6_1 (ji6))).f0)) ∧ w'.cell? ⟨(ad347.add (((rd x6_1 (ji6))).toNat * 6)).block, (ad347.add (((rd x6_1 (ji6))).toNat * 6)).off + 1, none⟩ = some (.int .i64 ((rd_T69 l0 (rd x6_1 (ji6))).f1)) ∧ w'.cell? ⟨(ad347.add (((rd x6_1 (ji6))).toNat * 6)).block, (ad347.add (((rd x6_1 (ji6))).toNat * 6)).off + 2, none⟩ = some (.int .i64 ((rd_T69 l0 (rd x6_1 (ji6))).f2)) ∧ w'.cell? ⟨(ad347.add (((rd x6_1 (ji6))).toNat * 6)).block, (ad347.add (((rd x6_1 (ji6))).toNat * 6)).off + 3, none⟩ = some (.int .i64 ((rd_T69 l0 (rd x6_1 (ji6))).f3)) ∧ w'.cell? ⟨(ad347.add (((rd x6_1 (ji6))).toNat * 6)).block, (ad347.add (((rd x6_1 (ji6))).toNat * 6)).off + 4, none⟩ = some (.int .i64 ((rd_T69 l0 (rd x6_1 (ji6))).f4)) ∧ w'.cell? ⟨(ad347.add (((rd x6_1 (ji6))).toNat * 6)).block, (ad347.add (((rd x6_1 (ji6))).toNat * 6)).off + 5, none⟩ = some (.int .i64 ((rd_T69 l0 (rd x6_1 (ji6))).f5))) ⟨(hc hw349_0), (hc hw349_1), (hc hw349_2), (hc hw349_3), (hc hw349_4), (hc hw349_5)⟩ fun hHeld => ?_; refine with_tabW larchref16_Rows.tab8 larchref16_Rows.bits8 (fun HT_ HW_ => ?_)
     generalize w23.drew = w24 at HO343 HO346 HB hx349_0 hx349_1 hx349_2 hx349_3 hx349_4 hx349_5 hx350_0 hx350_1 hx350_2 hx350_3 hx350_4 hx350_5 hHeld ⊢
     refine puT HT_.out 0 34 ?_
     refine puT HT_.out 1 35 ?_
     refine puT HT_.out 2 36 ?_
     refine puT HT_.out 3 37 ?_
     refine puT HT_.out 4 38 ?_
     refine puT HT_.out 6 40 ?_
     refine puT HT_.out 7 41 ?_
     refine puT HT_.out 8 42 ?_
     refine puT HT_.out 9 43 ?_
     refine taT HT_.out HW_.out 5 39 hHeld ?_
     refine taT HT_.out HW_.out 10 44 hHeld ?_
     refine onT HT_.out 11 45 fun K hK => ?_
     refine Kd.R_lit_step (Kd.int .i64) _ 3 ?hg (N := 45) ?hd (xs := ([(rd_T69 l0 (rd x6_1 (ji6))).f5, (rd_T69 l0 (rd x6_1 (ji6))).f4] : List Int)) (inner := [.int .i64 ((rd_T69 l0 (rd x6_1 (ji6))).f5), .int .i64 ((rd_T69 l0 (rd x6_1 (ji6))).f4)]) (ok := fun _ => True) (okp := fun _ => True) ?hr ?hp (fun _ hk => hk) trivial (Below.refl _ _) (Nat.le_refl _) (by simp) ?_; (case hd => rfl); (case hg => rfl); (case hr => first | (go_simp; done) | (go_simp; rfl)); (case hp => exact (Reps.one (show Kd.M (Kd.int .i64) _ _ _ ((rd_T69 l0 (rd x6_1 (ji6))).f5) [.int .i64 ((rd_T69 l0 (rd x6_1 (ji6))).f5)] from rfl) (Reps.one (show Kd.M (Kd.int .i64) _ _ _ ((rd_T69 l0 (rd x6_1 (ji6))).f4) [.int .i64 ((rd_T69 l0 (rd x6_1 (ji6))).f4)] from rfl) (Reps.none _ _))))
     intro v352 w25 ho26 hb hg_ hnew_
     clear hg_ hnew_
     (first | rw [← Ny351.out] at ho26 | (simp only [Int.reduceToNat] at ho26; rw [← Ny351.out] at ho26))
     have HO353 := Am (Kd.R_lower (Kd.R_new' (Kd.R_new' ho26 (Kd.R_lt (kr HO343.out))) (Kd.R_lt (kr HO346.out))) (below_size bq))
     replace HO343 := Am (Kd.R_elder' (kr HO343.out) (Kd.R_base ho26) hb)
     replace HO346 := Am (Kd.R_elder' (kr HO346.out) (Kd.R_base ho26) hb)
     replace HB := Am (below_step bq hb)
     clear hb ho26
     obtain ⟨Ao28, co28, eo28⟩ := Kd.R_slice HO353.out
     (first | subst eo28 | (injection eo28 with f1_ f2_ f3_; have f4_ := f1_.symm; have f5_ := f3_.symm; clear f1_ f2_ f3_; subst f4_; subst f5_))
     refine hK.out _ _ ⟨(hc hw349_0), (hc hw349_1), (hc hw349_2), (hc hw349_3), (hc hw349_4), (hc hw349_5)⟩ (fun hHeld => ?_)
     clear hK K
     refine nm 45 ?_
     refine onT HT_.out 12 46 fun K hK => ?_
     refine Kd.R_append_rows_step (Kd.int .i64) (w0 := w) w.heap.size (by rfl) (.tmp 34) (.tmp 45) 60 3 (.int .i64 0) 8 rfl Tryz.underlying60 info3 rfl (by decide) (by omega) (.slice (some ad340) y341.length co20) y341 y351 _ _ _ (fun k_ => some k_ ≠ (v345 : Value).ownBlock ∧ some k_ ≠ (.slice Ao28 y351.length co28 : Value).ownBlock) (fun _ => False) rfl rfl ?aO ?aR (fun _ _ h => h) (fun _ h => h.elim) ?aF ?aB ?aS ?aL ?_
     (case aR => repeat (first | exact (Kd.R_reads' HO353.out).2.2 | (with_reducible refine Kd.C_alloc ?_ _) | (with_reducible refine Kd.C_drewN ?_ _) | (with_reducible refine Kd.C_drew ?_)))
     (case aB => exact bq)
     (case aF => exact (fun k_ hk => ⟨Kd.fresh' (Kd.R_lt (kr HO346.out)) k_ hk, Kd.fresh' (Kd.R_lt (kr HO353.out)) k_ hk⟩))
     (case aO => exact (by (with_reducible repeat (first | apply Kd.R_alloc | apply Kd.R_drewN | apply Kd.R_drew)); exact Kd.R_mono HO343.out (fun _ hk => ⟨hk.1.2, hk.2⟩)))
     (case aS => exact (below_size bq))
     (case aL => have := LMc19.out; omega)
     intro v355 w27 ho hb hg hat
     rw [← Ny354.out] at ho
     replace HO346 := Am (Kd.R_after (ok := (fun k_ => some k_ ≠ (.slice Ao28 y351.length co28 : Value).ownBlock)) (by (with_reducible repeat (first | apply Kd.R_alloc | apply Kd.R_drewN | apply Kd.R_drew)); exact Kd.R_mono HO346.out (fun _ hk => ⟨hk.2, hk.1⟩)) hg hat)
     replace HO353 := Am (Kd.R_after (ok := (fun k_ => some k_ ≠ (v345 : Value).ownBlock)) (by (with_reducible repeat (first | apply Kd.R_alloc | apply Kd.R_drewN | apply Kd.R_drew)); exact Kd.R_mono HO353.out (fun _ hk => ⟨hk.2, hk.1.2⟩)) hg hat)
     replace HB := Am (hb)
     have HO356 := Am (ho)
     clear HO343
     clear ho hb hg hat
     refine hK.out _ _ ⟨(hc hw349_0), (hc hw349_1), (hc hw349_2), (hc hw349_3), (hc hw349_4), (hc hw349_5)⟩ (fun hHeld => ?_)
     clear hK K
     refine nm 46 ?_
     refine puT HT_.out 13 6 ?_
     refine done_ (done_of HT_.out (by kernel_rfl)) ?_
     try go_wp2
     go_roundg k1
     case measure => have := HK1.out; omega
     case rel => exact ⟨(y344), (y354), H', ⟨by have := HK1.out; omega⟩, ⟨by (with_reducible repeat (first | apply Kd.R_alloc | apply Kd.R_drewN | apply Kd.R_drew)); exact Kd.R_mono HO346.out (fun _ hk => hk.2)⟩, ⟨by (with_reducible repeat (first | apply Kd.R_alloc | apply Kd.R_drewN | apply Kd.R_drew)); exact Kd.R_mono HO356.out (fun _ hk => hk.1)⟩, ⟨bq⟩⟩
   ·rw [if_neg c5] at H
    have c5b0 : decide (0 < (x6_1.length : Int)) = false := decide_eq_false c5
    have c5b1 : decide (0 < x6_1.length) = false := decide_eq_false (by omega)
    clear c5
    obtain rfl := Option.some.inj H
    obtain ⟨Ao29, co29, eo29⟩ := Kd.R_slice HO_6.out
    subst eo29
    go_wp2
    go_ret
    exact dd63
mutual
def larchref16_Part.l0 : Nat → List (S69) → List Int → List Int → Int → Option ((List (S69)))
 | 0, _, _, _, _ => none
 | k + 1, x0, x5, x6, x7 => if x7 < (x5.length : Int) then (if 0 ≤ x7 then (if 0 ≤ (rd x5 x7) then (if (rd x5 x7) < (x6.length : Int) then (larchref16_Part.l0 k x0 x5 (x6.set ((rd x5 x7) : Int).toNat x7) (wrap64 (x7 + 1))) else (none)) else (none)) else (none)) else (larchref16_Part.l1 k x0 x5 x6 ([] : List (S69)) 0)
def larchref16_Part.l1 : Nat → List (S69) → List Int → List Int → List (S69) → Int → Option ((List (S69)))
 | 0, _, _, _, _, _ => none
 | k + 1, x0, x5, x6, x8, x9 => if x9 < (x5.length : Int) then (if 0 ≤ x9 then (if 0 ≤ (rd x5 x9) then (if (rd x5 x9) < (x0.length : Int) then ((larchref16_Leaf.f ((rd_T69 x0 (rd x5 x9)).f0) ((rd_T69 x0 (rd x5 x9)).f1) ((rd_T69 x0 (rd x5 x9)).f2) ((rd_T69 x0 (rd x5 x9)).f3) ((rd_T69 x0 (rd x5 x9)).f4) ((rd_T69 x0 (rd x5 x9)).f5)).bind fun t368 => (if t368 = true then (if x8.length < 2932031007402 then (larchref16_Part.l1 k x0 x5 x6 (x8 ++ [(⟨(rd_T69 x0 (rd x5 x9)).f0, (rd_T69 x0 (rd x5 x9)).f1, (rd_T69 x0 (rd x5 x9)).f2, (rd_T69 x0 (rd x5 x9)).f3, (rd_T69 x0 (rd x5 x9)).f4, (rd_T69 x0 (rd x5 x9)).f5⟩ : S69)]) (wrap64 (x9 + 1))) else (none)) else (if 0 ≤ ((rd_T69 x0 (rd x5 x9)).f4) then (if ((rd_T69 x0 (rd x5 x9)).f4) < (x6.length : Int) then (if 0 ≤ ((rd_T69 x0 (rd x5 x9)).f5) then (if ((rd_T69 x0 (rd x5 x9)).f5) < (x6.length : Int) then (if x8.length < 2932031007402 then (larchref16_Part.l1 k x0 x5 x6 (x8 ++ [(⟨(rd_T69 x0 (rd x5 x9)).f0, (rd_T69 x0 (rd x5 x9)).f1, (rd_T69 x0 (rd x5 x9)).f2, (rd_T69 x0 (rd x5 x9)).f3, rd x6 ((rd_T69 x0 (rd x5 x9)).f4), rd x6 ((rd_T69 x0 (rd x5 x9)).f5)⟩ : S69)]) (wrap64 (x9 + 1))) else (none)) else (none)) else (none)) else (none)) else (none)))) else (none)) else (none)) else (none)) else (some x8)
end
def larchref16_Part.f (k : Nat) (l0 : List (S69)) (a1 : Int) : Option ((List (S69))) := (larchref16_Rows.f k l0 a1).bind fun t357 => (if 0 ≤ (l0.length : Int) then (if ((l0.length : Int) : Int).toNat ≤ 35184372088832 then (larchref16_Part.l0 k l0 t357 (List.replicate ((l0.length : Int) : Int).toNat 0) 0) else (none)) else (none))
theorem larchref16_Part.mono_l : ∀ k, (∀ y0 y1 y2 y3, LeO (larchref16_Part.l0 k y0 y1 y2 y3) (larchref16_Part.l0 (k + 1) y0 y1 y2 y3)) ∧ (∀ y0 y1 y2 y3 y4, LeO (larchref16_Part.l1 k y0 y1 y2 y3 y4) (larchref16_Part.l1 (k + 1) y0 y1 y2 y3 y4))
 | 0 => ⟨fun _ _ _ _ r h => by simp [larchref16_Part.l0] at h, fun _ _ _ _ _ r h => by simp [larchref16_Part.l1] at h⟩
 | k + 1 => by
  obtain ⟨ih0, ih1⟩ := larchref16_Part.mono_l k
  refine ⟨?_, ?_⟩
  ·intro y0 y1 y2 y3
   unfold larchref16_Part.l0
   repeat' with_reducible first | exact ih0 _ _ _ _ | exact ih1 _ _ _ _ _ | exact larchref16_Rows.mono _ _ _ | exact LeO.refl _ | exact LeO.none _ | refine LeO.ite ?_ ?_ | refine LeO.bind ?_ (fun _ => ?_)
  ·intro y0 y1 y2 y3 y4
   unfold larchref16_Part.l1
   repeat' with_reducible first | exact ih0 _ _ _ _ | exact ih1 _ _ _ _ _ | exact larchref16_Rows.mono _ _ _ | exact LeO.refl _ | exact LeO.none _ | refine LeO.ite ?_ ?_ | refine LeO.bind ?_ (fun _ => ?_)
theorem larchref16_Part.mono : ∀ a0 a1 k, LeO (larchref16_Part.f k a0 a1) (larchref16_Part.f (k + 1) a0 a1) := by
 intro a0 a1 k
 obtain ⟨ih0, ih1⟩ := larchref16_Part.mono_l k
 unfold larchref16_Part.f
 repeat' with_reducible first | exact ih0 _ _ _ _ | exact ih1 _ _ _ _ _ | exact larchref16_Rows.mono _ _ _ | exact LeO.refl _ | exact LeO.none _ | refine LeO.ite ?_ ?_ | refine LeO.bind ?_ (fun _ => ?_)
theorem larchref16_Part.calls (k : Nat) (A0 : Option Addr) (c0 : Nat) (l0 : List (S69)) (a1 : Int) (r : List (S69)) (w : World) (hr0 : Kd.C k69 w A0 l0.length l0) (hc0 : l0.length ≤ c0) (h : larchref16_Part.f k l0 a1 = some r) :
  Calls Tryz.prog 60 #[.slice A0 l0.length c0, .int .i64 a1] w fun e w' => ∃ v0_ : Value, e = .returned (v0_) ∧ Kd.R k69 69 w' w.heap.size (fun _ => True) v0_ r ∧ Below w.heap.size w w' := by
 have HR0 := Am hr0
 have HC0 := Am hc0
 clear hr0 hc0
 have HB := Br w
 have H := h
 unfold larchref16_Part.f at H
 clear h
 obtain ⟨t357, A3, H⟩ := bo H
 obtain ⟨c4, H⟩ := gd H
 have c4b0 := eq_true c4
 have c4b1 := decide_eq_true c4
 clear c4
 obtain ⟨c5, H⟩ := gd H
 have c5b0 := eq_true c5
 have c5b1 := decide_eq_true c5
 clear c5
 obtain ⟨y360, hy360⟩ : ∃ y_ : List Int, y_ = (List.replicate ((l0.length : Int) : Int).toNat 0) := ⟨_, rfl⟩
 rw [← hy360] at H
 have Ny360 := Am hy360
 clear hy360
 have H' := Am H
 clear H
 go_enter Tryz.func60, Tryz.ntmps60
 go_wp2_with (first | ((with_reducible refine Gc 62 rfl ?_); refine gL 13 Tryz.func62 #[.slice A0 l0.length c0, .int .i64 a1] ?_; (with_reducible refine (larchref16_Rows.calls k _ _ l0 a1 t357 _ (kc HR0.out) HC0.out A3.out).mono ?_); rintro e w6 ⟨v358, rfl, ho0, hb⟩; refine ⟨_, rfl, ?_⟩; replace HO359 := Am (Kd.R_lower ho0 (below_size bq)); replace HB := Am (below_step bq hb); (try clear hb); (try clear hb2); (try clear hk); (try clear hi); (try clear ho0)) | ((with_reducible refine Gd 16 rfl ?_); refine Kd.R_make (Kd.int .i64) _ 3 rfl (N := 16) rfl 60 _ _ rfl (l0.length : Int) rfl rfl Tryz.underlying60 (.int .i64 0) 8 info3 rfl (by decide) (by omega) 0 (ok := fun _ => True) (okp := fun _ => True) rfl (fun _ hk => hk) trivial (da) (Nat.le_trans (Nat.mul_le_mul_right _ (da : (l0.length : Int).toNat ≤ 35184372088832)) (by omega)) (Below.refl _ _) (Nat.le_refl _) ?_; intro v361 w7 ho8 hb hg_ hnew_; clear hg_ hnew_; (first | rw [← Ny360.out] at ho8 | (simp only [Int.reduceToNat] at ho8; rw [← Ny360.out] at ho8)); have HO362 := Am (Kd.R_lower (Kd.R_new' ho8 (Kd.R_lt (kr HO359.out))) (below_size bq)); replace HO359 := Am (Kd.R_elder' (kr HO359.out) (Kd.R_base ho8) hb); replace HB := Am (below_step bq hb); clear hb ho8))
 go_loopg [7] k (fun kq v7 w' => ∃ (x6_1 : List Int) (x7_1 : Int), v7 = .int .i64 x7_1 ∧ Aside0 (larchref16_Part.l0 kq l0 t357 x6_1 x7_1 = some r) ∧ Aside0 (kq ≤ k) ∧ Aside0 (Kd.R (Kd.int .i64) 3 w' w.heap.size (fun k_ => some k_ ≠ (v361 : Value).ownBlock) v358 t357) ∧ Aside0 (Kd.R (Kd.int .i64) 3 w' w.heap.size (fun k_ => some k_ ≠ (v358 : Value).ownBlock) v361 x6_1) ∧ Aside0 (Below w.heap.size w w'))
 case atStart => exact ⟨(y360), (0), (by first | rfl | (simp; done) | (simp [*]; done)), H', ⟨Nat.le_refl _⟩, ⟨by (with_reducible repeat (first | apply Kd.R_alloc | apply Kd.R_drewN | apply Kd.R_drew)); exact Kd.R_mono HO359.out (fun _ hk => hk.2)⟩, ⟨by (with_reducible repeat (first | apply Kd.R_alloc | apply Kd.R_drewN | apply Kd.R_drew)); exact Kd.R_mono HO362.out (fun _ hk => hk.2)⟩, ⟨bq⟩⟩
 case round =>
  clear H'
  clear c4b0 c4b1 c5b0 c5b1
  obtain ⟨x6_1, x7_1, rfl, HA, HK1, HO_5, HO_6, HB⟩ := hrel
  cases gk with
  | zero => exact absurd HA.out (by simp [larchref16_Part.l0])
  | succ k1 =>
   have H := HA.out
   clear HA
   simp only [larchref16_Part.l0] at H
   by_cases c9 : x7_1 < (t357.length : Int)
   ·rw [if_pos c9] at H
    have c9b0 := decide_eq_true c9
    clear c9
    obtain ⟨c10b0, H⟩ := ge H
    obtain ⟨c11b0, H⟩ := ge H
    obtain ⟨c12b0, H⟩ := ge H
    obtain ⟨y364, hy364⟩ : ∃ y_ : List Int, y_ = (x6_1.set ((rd t357 x7_1) : Int).toNat x7_1) := ⟨_, rfl⟩
    rw [← hy364] at H
    have Ny364 := Am hy364
    clear hy364
    have H' := Am H
    clear H
    obtain ⟨Ao14, co14, eo14⟩ := Kd.R_slice HO_5.out
    subst eo14
    have p363 : 0 ≤ (x7_1 : Int) := da
    have q363 : x7_1 < (t357.length : Int) := da
    obtain ⟨ad363, e363, hx363_0⟩ := Kd.at_int (Kd.R_reads' HO_5.out).2.2 x7_1 p363 q363
    cases e363
    replace p363 := eq_true p363
    replace q363 := eq_true q363
    have p13 : 0 ≤ ((rd t357 x7_1) : Int) := da
    have q13 : ((rd t357 x7_1) : Int) < ((x6_1.length : Int) : Int) := da
    obtain ⟨go13, co13, eo13, gb13, gl13, cl13, HG13⟩ := Kd.R_form HO_6.out (by omega)
    (first | cases eo13 | (injection eo13 with ea_ en_ ec_; (first | subst ea_ | (injection ea_ with ea_; subst ea_)); subst ec_; clear en_))
    have GB13 := Am gb13
    have GG13 := Am HG13
    clear gb13 gl13 HG13
    obtain ⟨hx13_0, hf13_0⟩ := Kd.R_celln 0 HO_6.out ((rd t357 x7_1) : Int) p13 q13
    replace p13 := eq_true p13
    replace q13 := eq_true q13
    have HP15 := Kd.R_putg HO_6.out ((rd t357 x7_1) : Int) x7_1
    go_wp2_with (first | ((with_reducible refine gate_store (t := 3) (p := 29) rfl ?_); refine store_event (t := 3) (p := 29) (v := ?vo_w16) (w1 := (wr.setCell ⟨go13, ((rd t357 x7_1) : Int).toNat, none⟩ (.int .i64 x7_1))) ?hg ?ho ?hn ?hr ?_; (case ho => rfl); (case hg => rfl); (case hn => rfl); (case hr => first | (go_simp; done) | (go_simp; rfl)); intro w16 hw; have hg : wr.grownBy w16 (some go13) := (by rw [hw]; exact HP15.2); have hp_ : Kd.R (Kd.int .i64) 3 w16 w.heap.size (fun k_ => some k_ ≠ (.slice (some ad363) t357.length co14 : Value).ownBlock) (.slice (some ⟨go13, 0, none⟩) x6_1.length co13) y364 := (by rw [hw, Ny364.out]; exact HP15.1); clear HP15; replace HO_5 := Am (Kd.R_after (v := (.slice (some ⟨go13, 0, none⟩) x6_1.length co13)) (v1 := (.slice (some ⟨go13, 0, none⟩) x6_1.length co13)) (ok := (fun _ => True)) (by (with_reducible repeat (first | apply Kd.R_alloc | apply Kd.R_drewN | apply Kd.R_drew)); exact Kd.R_mono HO_5.out (fun _ hk => ⟨trivial, hk⟩)) hg (.inl rfl)); replace HO_6 := Am (hp_); replace HB := Am ((by rw [hw]; exact below_set (HB.out) GB13.out : Below w.heap.size w w16)); clear hg hw hp_))
    go_roundg k1
    case measure => have := HK1.out; omega
    case rel => exact ⟨(y364), (wrap64 (x7_1 + 1)), (by first | rfl | (simp; done) | (simp [*]; done)), H', ⟨by have := HK1.out; omega⟩, ⟨by (with_reducible repeat (first | apply Kd.R_alloc | apply Kd.R_drewN | apply Kd.R_drew)); exact Kd.R_mono HO_5.out (fun _ hk => hk.2)⟩, ⟨kr HO_6.out⟩, ⟨bq⟩⟩
   ·rw [if_neg c9] at H
    have c9b0 := decide_eq_false c9
    clear c9
    have H' := Am H
    clear H
    obtain ⟨Ao17, co17, eo17⟩ := Kd.R_slice HO_5.out
    subst eo17
    go_wp2
    go_loopg [8, 9] k1 (fun kq v8 v9 w' => ∃ (x8_2 : List (S69)) (x9_2 : Int), v9 = .int .i64 x9_2 ∧ Aside0 (larchref16_Part.l1 kq l0 t357 x6_1 x8_2 x9_2 = some r) ∧ Aside0 (kq ≤ k1) ∧ Aside0 (Kd.R (Kd.int .i64) 3 w' w.heap.size (fun k_ => some k_ ≠ (v361 : Value).ownBlock) (.slice Ao17 t357.length co17) t357) ∧ Aside0 (Kd.R (Kd.int .i64) 3 w' w.heap.size (fun k_ => some k_ ≠ ((.slice Ao17 t357.length co17) : Value).ownBlock) v361 x6_1) ∧ Aside0 (Kd.R k69 69 w' w.heap.size (fun _ => True) v8 x8_2) ∧ Aside0 (Below w.heap.size w w'))
    case atStart => exact ⟨(([] : List (S69))), (0), (by first | rfl | (simp; done) | (simp [*]; done)), H', ⟨Nat.le_refl _⟩, ⟨kr HO_5.out⟩, ⟨kr HO_6.out⟩, ⟨by first | exact Kd.R_nil _ _ _ _ _ | exact Kd.N_nil _ _ _ _ _ | exact Kd.V_nil _ _ _ _ _ | exact Kd.Q_nil _ _ _ _ _ | exact Kd.S_nil _ _ _ _ _⟩, ⟨bq⟩⟩
    case round =>
     clear H'
     clear c9b0
     obtain ⟨x8_2, x9_2, rfl, HA, HK2, HO_5, HO_6, HO_8, HB⟩ := hrel
     cases gk with
     | zero => exact absurd HA.out (by simp [larchref16_Part.l1])
     | succ k2 =>
      have H := HA.out
      clear HA
      simp only [larchref16_Part.l1] at H
      by_cases c18 : x9_2 < (t357.length : Int)
      ·rw [if_pos c18] at H
       have c18b0 := decide_eq_true c18
       clear c18
       obtain ⟨c19b0, H⟩ := ge H
       obtain ⟨c20b0, H⟩ := ge H
       obtain ⟨c21b0, H⟩ := ge H
       obtain ⟨t368, A22, H⟩ := bo H
       by_cases c23 : t368 = true
       ·subst c23
        rw [if_pos rfl] at H
        obtain ⟨c24, H⟩ := gd H
        have LMc24 := Am c24
        clear c24
        obtain ⟨y369, hy369⟩ : ∃ y_ : List (S69), y_ = (x8_2 ++ [(⟨(rd_T69 l0 (rd t357 x9_2)).f0, (rd_T69 l0 (rd t357 x9_2)).f1, (rd_T69 l0 (rd t357 x9_2)).f2, (rd_T69 l0 (rd t357 x9_2)).f3, (rd_T69 l0 (rd t357 x9_2)).f4, (rd_T69 l0 (rd t357 x9_2)).f5⟩ : S69)]) := ⟨_, rfl⟩
        rw [← hy369] at H
        have Ny369 := Am hy369
        clear hy369
        have H' := Am H
        clear H
        have p365 : 0 ≤ (x9_2 : Int) := da
        have q365 : x9_2 < (t357.length : Int) := da
        obtain ⟨ad365, e365, hx365_0⟩ := Kd.at_int (Kd.R_reads' HO_5.out).2.2 x9_2 p365 q365
        cases e365
        replace p365 := eq_true p365
        replace q365 := eq_true q365
        obtain ⟨ad366, e366, hx366_0, hx366_1, hx366_2, hx366_3, hx366_4, hx366_5, p366, q366⟩ := t6d HB.out HR0.out (rd t357 x9_2)
        cases e366
        go_wp2_with (first | ((with_reducible refine Gd 10 rfl ?_); refine bE 10 (cs := #[.int .i64 0, .int .i64 0, .int .i64 0, .int .i64 0, .int .i64 0, .int .i64 0]) (t := 69) ?_; intro gb367 hg w25 hbox hb; replace HO_5 := Am (Kd.R_below (kr HO_5.out) hb); replace HO_6 := Am (Kd.R_below (kr HO_6.out) hb); replace HO_8 := Am (Kd.R_below (Kd.R_elderB (kr HO_8.out) gb367 (Nat.le_of_eq hg.symm)) hb); have BK367 := Am (hbox); have GW367 := Am ((bz hg : w.heap.size ≤ gb367)); have GE367 := Am ((bz hg : w.heap.size ≤ gb367)); replace HB := Am (below_step bq hb); clear hb hbox hg; obtain ⟨z26_0, z26_1, z26_2, z26_3, z26_4, z26_5, f26_0, f26_1, f26_2, f26_3, f26_4, f26_5⟩ := cf6 BK367.out) | ((with_reducible refine Gc 109 rfl ?_); refine gL 44 Tryz.func109 #[.agg (cN (rd_T69 l0 (rd t357 x9_2)))] ?_; (with_reducible refine (larchref16_Leaf.calls _ _ _ _ _ _ true _ A22.out).mono ?_); rintro e w27 ⟨rfl, hb⟩; refine ⟨_, rfl, ?_⟩; replace HO_5 := Am (Kd.R_below (by (with_reducible repeat (first | apply Kd.R_alloc | apply Kd.R_drewN | apply Kd.R_drew)); exact (Kd.R_mono (far6 (Kd.R_types HO_5.out BK367.out (by decide))) (fun _ h_ => h_.1))) hb); replace HO_6 := Am (Kd.R_below (by (with_reducible repeat (first | apply Kd.R_alloc | apply Kd.R_drewN | apply Kd.R_drew)); exact (Kd.R_mono (far6 (Kd.R_types HO_6.out BK367.out (by decide))) (fun _ h_ => h_.1))) hb); replace HO_8 := Am (Kd.R_below (by (with_reducible repeat (first | apply Kd.R_alloc | apply Kd.R_drewN | apply Kd.R_drew)); exact (Kd.R_mono (far6 (Kd.R_mono HO_8.out (fun k_ hk => (⟨hk, hk.2⟩ : _ ∧ k_ ≠ gb367)))) (fun _ h_ => h_.1))) hb); replace BK367 := Am (blk_below (g := gb367) (o := .cells (cN (rd_T69 l0 (rd t357 x9_2))) 69 (0, 0)) (bp6 BK367.out) hb); replace HB := Am (below_step bs hb); (try clear hb); (try clear hk); obtain ⟨z28_0, z28_1, z28_2, z28_3, z28_4, z28_5, f28_0, f28_1, f28_2, f28_3, f28_4, f28_5⟩ := cf6 BK367.out) | ((with_reducible refine gate_builtin (b := .append) (xs := #[.tmp 58, .tmp 60]) rfl ?_); at_builtin; refine Kd.R_append k69 (w0 := w) w.heap.size rfl (.tmp 58) (.tmp 60) 22 69 (.agg #[(.int .i64 0), (.int .i64 0), (.int .i64 0), (.int .i64 0), (.int .i64 0), (.int .i64 0)]) 48 rfl Tryz.underlying22 info69 rfl (by decide) (by omega) u8 x8_2 (⟨(rd_T69 l0 (rd t357 x9_2)).f0, (rd_T69 l0 (rd t357 x9_2)).f1, (rd_T69 l0 (rd t357 x9_2)).f2, (rd_T69 l0 (rd t357 x9_2)).f3, (rd_T69 l0 (rd t357 x9_2)).f4, (rd_T69 l0 (rd t357 x9_2)).f5⟩ : S69) [.int .i64 ((rd_T69 l0 (rd t357 x9_2)).f0), .int .i64 ((rd_T69 l0 (rd t357 x9_2)).f1), .int .i64 ((rd_T69 l0 (rd t357 x9_2)).f2), .int .i64 ((rd_T69 l0 (rd t357 x9_2)).f3), .int .i64 ((rd_T69 l0 (rd t357 x9_2)).f4), .int .i64 ((rd_T69 l0 (rd t357 x9_2)).f5)] (fun k_ => k_ ≠ gb367) (fun _ => False) rfl rfl ?aP (fun _ hk => hk.elim) ?aF ?aO ?aB ?aS ?aL ?_; (case aP => exact k69_mkM _ _ _ (⟨(rd_T69 l0 (rd t357 x9_2)).f0, (rd_T69 l0 (rd t357 x9_2)).f1, (rd_T69 l0 (rd t357 x9_2)).f2, (rd_T69 l0 (rd t357 x9_2)).f3, (rd_T69 l0 (rd t357 x9_2)).f4, (rd_T69 l0 (rd t357 x9_2)).f5⟩ : S69)); (case aB => exact bs); (case aF => exact (fun k_ hk => Kd.freshB (g := gb367) (o := .cells (cN (rd_T69 l0 (rd t357 x9_2))) 69 (0, 0)) (bk BK367.out) k_ hk)); (case aO => exact (by (with_reducible repeat (first | apply Kd.R_alloc | apply Kd.R_drewN | apply Kd.R_drew)); exact Kd.R_mono HO_8.out (fun _ hk => hk.2))); (case aS => exact (below_size bs)); (case aL => have := LMc24.out; omega); intro v370 w29 ho hb hg hat; rw [← Ny369.out] at ho; replace HO_5 := Am (Kd.R_over' (kr HO_5.out) (Kd.R_typed (kr HO_8.out)) (by decide) hg); replace HO_6 := Am (Kd.R_over' (kr HO_6.out) (Kd.R_typed (kr HO_8.out)) (by decide) hg); replace BK367 := Am (blk_grown (g := gb367) (o := .cells (cN (rd_T69 l0 (rd t357 x9_2))) 69 (0, 0)) (bk BK367.out) hg (Kd.R_away HO_8.out (fun _ hk => hk.2))); replace HB := Am (hb); have HO371 := Am (ho); clear HO_8; clear ho hb hg hat))
        go_roundg k2
        case measure => have := HK1.out; have := HK2.out; omega
        case rel => exact ⟨(y369), (wrap64 (x9_2 + 1)), (by first | rfl | (simp; done) | (simp [*]; done)), H', ⟨by have := HK1.out; have := HK2.out; omega⟩, ⟨kr HO_5.out⟩, ⟨kr HO_6.out⟩, ⟨by (with_reducible repeat (first | apply Kd.R_alloc | apply Kd.R_drewN | apply Kd.R_drew)); exact Kd.R_mono HO371.out (fun _ hk => trivial)⟩, ⟨bs⟩⟩
       ·replace c23 := Bool.eq_false_iff.mpr c23
        subst c23
        rw [if_neg nf] at H
        obtain ⟨c30b0, H⟩ := ge H
        obtain ⟨c31b0, H⟩ := ge H
        obtain ⟨c32b0, H⟩ := ge H
        obtain ⟨c33b0, H⟩ := ge H
        obtain ⟨c34, H⟩ := gd H
        have LMc34 := Am c34
        clear c34
        obtain ⟨y374, hy374⟩ : ∃ y_ : List (S69), y_ = (x8_2 ++ [(⟨(rd_T69 l0 (rd t357 x9_2)).f0, (rd_T69 l0 (rd t357 x9_2)).f1, (rd_T69 l0 (rd t357 x9_2)).f2, (rd_T69 l0 (rd t357 x9_2)).f3, rd x6_1 ((rd_T69 l0 (rd t357 x9_2)).f4), rd x6_1 ((rd_T69 l0 (rd t357 x9_2)).f5)⟩ : S69)]) := ⟨_, rfl⟩
        rw [← hy374] at H
        have Ny374 := Am hy374
        clear hy374
        have H' := Am H
        clear H
        have p365 : 0 ≤ (x9_2 : Int) := da
        have q365 : x9_2 < (t357.length : Int) := da
        obtain ⟨ad365, e365, hx365_0⟩ := Kd.at_int (Kd.R_reads' HO_5.out).2.2 x9_2 p365 q365
        cases e365
        replace p365 := eq_true p365
        replace q365 := eq_true q365
        obtain ⟨ad366, e366, hx366_0, hx366_1, hx366_2, hx366_3, hx366_4, hx366_5, p366, q366⟩ := t6d HB.out HR0.out (rd t357 x9_2)
        cases e366
        go_wp2_with (first | ((with_reducible refine Gd 10 rfl ?_); refine bE 10 (cs := #[.int .i64 0, .int .i64 0, .int .i64 0, .int .i64 0, .int .i64 0, .int .i64 0]) (t := 69) ?_; intro gb367 hg w35 hbox hb; replace HO_5 := Am (Kd.R_below (kr HO_5.out) hb); replace HO_6 := Am (Kd.R_below (kr HO_6.out) hb); replace HO_8 := Am (Kd.R_below (Kd.R_elderB (kr HO_8.out) gb367 (Nat.le_of_eq hg.symm)) hb); have BK367 := Am (hbox); have GW367 := Am ((bz hg : w.heap.size ≤ gb367)); have GE367 := Am ((bz hg : w.heap.size ≤ gb367)); replace HB := Am (below_step bq hb); clear hb hbox hg; obtain ⟨z36_0, z36_1, z36_2, z36_3, z36_4, z36_5, f36_0, f36_1, f36_2, f36_3, f36_4, f36_5⟩ := cf6 BK367.out) | ((with_reducible refine Gc 109 rfl ?_); refine gL 44 Tryz.func109 #[.agg (cN (rd_T69 l0 (rd t357 x9_2)))] ?_; (with_reducible refine (larchref16_Leaf.calls _ _ _ _ _ _ false _ A22.out).mono ?_); rintro e w37 ⟨rfl, hb⟩; refine ⟨_, rfl, ?_⟩; replace HO_5 := Am (Kd.R_below (by (with_reducible repeat (first | apply Kd.R_alloc | apply Kd.R_drewN | apply Kd.R_drew)); exact (Kd.R_mono (far6 (Kd.R_types HO_5.out BK367.out (by decide))) (fun _ h_ => h_.1))) hb); replace HO_6 := Am (Kd.R_below (by (with_reducible repeat (first | apply Kd.R_alloc | apply Kd.R_drewN | apply Kd.R_drew)); exact (Kd.R_mono (far6 (Kd.R_types HO_6.out BK367.out (by decide))) (fun _ h_ => h_.1))) hb); replace HO_8 := Am (Kd.R_below (by (with_reducible repeat (first | apply Kd.R_alloc | apply Kd.R_drewN | apply Kd.R_drew)); exact (Kd.R_mono (far6 (Kd.R_mono HO_8.out (fun k_ hk => (⟨hk, hk.2⟩ : _ ∧ k_ ≠ gb367)))) (fun _ h_ => h_.1))) hb); replace BK367 := Am (blk_below (g := gb367) (o := .cells (cN (rd_T69 l0 (rd t357 x9_2))) 69 (0, 0)) (bp6 BK367.out) hb); replace HB := Am (below_step bs hb); (try clear hb); (try clear hk); obtain ⟨z38_0, z38_1, z38_2, z38_3, z38_4, z38_5, f38_0, f38_1, f38_2, f38_3, f38_4, f38_5⟩ := cf6 BK367.out; obtain ⟨Ao39, co39, eo39⟩ := Kd.R_slice HO_6.out; subst eo39; have p372 : 0 ≤ (((rd_T69 l0 (rd t357 x9_2)).f4) : Int) := da; have q372 : ((rd_T69 l0 (rd t357 x9_2)).f4) < (x6_1.length : Int) := da; obtain ⟨ad372, e372, hx372_0⟩ := Kd.at_int (Kd.R_reads' HO_6.out).2.2 ((rd_T69 l0 (rd t357 x9_2)).f4) p372 q372; cases e372; replace p372 := eq_true p372; replace q372 := eq_true q372; have p373 : 0 ≤ (((rd_T69 l0 (rd t357 x9_2)).f5) : Int) := da; have q373 : ((rd_T69 l0 (rd t357 x9_2)).f5) < (x6_1.length : Int) := da; obtain ⟨ad373, e373, hx373_0⟩ := Kd.at_int (Kd.R_reads' HO_6.out).2.2 ((rd_T69 l0 (rd t357 x9_2)).f5) p373 q373; obtain rfl : ad372 = ad373 := (by injection e373); replace p373 := eq_true p373; replace q373 := eq_true q373))
        have hneB : ad372.block ≠ gb367 := ((Kd.R_types HO_6.out BK367.out (by decide)).1 _ rfl).2
        have hne5 : (⟨gb367, 4, none⟩ : Addr) ≠ ad372.add (((rd_T69 l0 (rd t357 x9_2)).f5) : Int).toNat := fun e_ => hneB (by rw [← add_block ad372 (((rd_T69 l0 (rd t357 x9_2)).f5) : Int).toNat, ← e_])
        go_region
        rw [show ((w37.setCell ⟨gb367, 4, none⟩ (.int .i64 (rd x6_1 ((rd_T69 l0 (rd t357 x9_2)).f4)))).setCell ⟨gb367, 5, none⟩ (.int .i64 (rd x6_1 ((rd_T69 l0 (rd t357 x9_2)).f5)))).drew = ((w37.drew.setCell ⟨gb367, 4, none⟩ (.int .i64 (rd x6_1 ((rd_T69 l0 (rd t357 x9_2)).f4)))).setCell ⟨gb367, 5, none⟩ (.int .i64 (rd x6_1 ((rd_T69 l0 (rd t357 x9_2)).f5)))) from rfl]
        have n0_ := Am (Kd.R_drew HO_5.out)
        have n1_ := Am (Kd.R_drew HO_6.out)
        have n2_ := Am (Kd.R_drew HO_8.out)
        have n3_ := Am (blk_drew BK367.out)
        have n4_ := Am (bd HB.out)
        clear HO_5 HO_6 HO_8 BK367 HB z38_0 f38_0 z38_1 f38_1 z38_2 f38_2 z38_3 f38_3 z38_4 f38_4 z38_5 f38_5 hx372_0 hx373_0 hneB hne5
        generalize w37.drew = w37d at n0_ n1_ n2_ n3_ n4_ ⊢
        have HO_5 := n0_
        have HO_6 := n1_
        have HO_8 := n2_
        have BK367 := n3_
        have HB := n4_
        clear n0_ n1_ n2_ n3_ n4_
        obtain ⟨z38_0, z38_1, z38_2, z38_3, z38_4, z38_5⟩ := cz6 BK367.out
        go_wp2_with (first | ((with_reducible refine gate_builtin (b := .append) (xs := #[.tmp 58, .tmp 60]) rfl ?_); at_builtin; refine Kd.R_append k69 (w0 := w) w.heap.size rfl (.tmp 58) (.tmp 60) 22 69 (.agg #[(.int .i64 0), (.int .i64 0), (.int .i64 0), (.int .i64 0), (.int .i64 0), (.int .i64 0)]) 48 rfl Tryz.underlying22 info69 rfl (by decide) (by omega) u8 x8_2 (⟨(rd_T69 l0 (rd t357 x9_2)).f0, (rd_T69 l0 (rd t357 x9_2)).f1, (rd_T69 l0 (rd t357 x9_2)).f2, (rd_T69 l0 (rd t357 x9_2)).f3, rd x6_1 ((rd_T69 l0 (rd t357 x9_2)).f4), rd x6_1 ((rd_T69 l0 (rd t357 x9_2)).f5)⟩ : S69) [.int .i64 ((rd_T69 l0 (rd t357 x9_2)).f0), .int .i64 ((rd_T69 l0 (rd t357 x9_2)).f1), .int .i64 ((rd_T69 l0 (rd t357 x9_2)).f2), .int .i64 ((rd_T69 l0 (rd t357 x9_2)).f3), .int .i64 (rd x6_1 ((rd_T69 l0 (rd t357 x9_2)).f4)), .int .i64 (rd x6_1 ((rd_T69 l0 (rd t357 x9_2)).f5))] (fun k_ => k_ ≠ gb367) (fun _ => False) rfl (by first | (go_simp; done) | (go_simp; rfl)) ?aP (fun _ hk => hk.elim) ?aF ?aO ?aB ?aS ?aL ?_; (case aP => exact k69_mkM _ _ _ (⟨(rd_T69 l0 (rd t357 x9_2)).f0, (rd_T69 l0 (rd t357 x9_2)).f1, (rd_T69 l0 (rd t357 x9_2)).f2, (rd_T69 l0 (rd t357 x9_2)).f3, rd x6_1 ((rd_T69 l0 (rd t357 x9_2)).f4), rd x6_1 ((rd_T69 l0 (rd t357 x9_2)).f5)⟩ : S69)); (case aB => exact bs); (case aF => exact (fun k_ hk => Kd.freshB (g := gb367) (o := .cells #[.int .i64 ((rd_T69 l0 (rd t357 x9_2)).f0), .int .i64 ((rd_T69 l0 (rd t357 x9_2)).f1), .int .i64 ((rd_T69 l0 (rd t357 x9_2)).f2), .int .i64 ((rd_T69 l0 (rd t357 x9_2)).f3), .int .i64 (rd x6_1 ((rd_T69 l0 (rd t357 x9_2)).f4)), .int .i64 (rd x6_1 ((rd_T69 l0 (rd t357 x9_2)).f5))] 69 (0, 0)) (by (with_reducible repeat (first | refine blk_drewN ?_ _ | refine blk_drew ?_ | refine blk_alloc ?_ _)); refine blk_put (cs := #[.int .i64 ((rd_T69 l0 (rd t357 x9_2)).f0), .int .i64 ((rd_T69 l0 (rd t357 x9_2)).f1), .int .i64 ((rd_T69 l0 (rd t357 x9_2)).f2), .int .i64 ((rd_T69 l0 (rd t357 x9_2)).f3), .int .i64 (rd x6_1 ((rd_T69 l0 (rd t357 x9_2)).f4)), .int .i64 ((rd_T69 l0 (rd t357 x9_2)).f5)]) ?_ 5 _ rfl; (with_reducible repeat (first | refine blk_drewN ?_ _ | refine blk_drew ?_ | refine blk_alloc ?_ _)); refine blk_put (cs := (cN (rd_T69 l0 (rd t357 x9_2)))) ?_ 4 _ rfl; (with_reducible repeat (first | refine blk_drewN ?_ _ | refine blk_drew ?_ | refine blk_alloc ?_ _)); exact BK367.out) k_ hk)); (case aO => exact (by (with_reducible repeat (first | apply Kd.R_alloc | apply Kd.R_drewN | apply Kd.R_drew)); exact Kd.R_mono (Kd.R_far (p := ⟨gb367, 5, none⟩) (Kd.R_far (p := ⟨gb367, 4, none⟩) (Kd.R_mono HO_8.out (fun k_ hk => (⟨hk, hk.2⟩ : _ ∧ k_ ≠ gb367))) (fun _ hk => hk.2) (.int .i64 (rd x6_1 ((rd_T69 l0 (rd t357 x9_2)).f4)))) (fun _ hk => hk.2) (.int .i64 (rd x6_1 ((rd_T69 l0 (rd t357 x9_2)).f5)))) (fun _ hk => hk.1.2))); (case aS => exact (below_size bs)); (case aL => have := LMc34.out; omega); intro v375 w40 ho hb hg hat; rw [← Ny374.out] at ho; replace HO_5 := Am (Kd.R_over' (by (with_reducible repeat (first | apply Kd.R_alloc | apply Kd.R_drewN | apply Kd.R_drew)); exact (Kd.R_mono (Kd.R_far (p := ⟨gb367, 5, none⟩) (Kd.R_far (p := ⟨gb367, 4, none⟩) (Kd.R_types HO_5.out BK367.out (by decide)) (fun _ hk => hk.2) (.int .i64 (rd x6_1 ((rd_T69 l0 (rd t357 x9_2)).f4)))) (fun _ hk => hk.2) (.int .i64 (rd x6_1 ((rd_T69 l0 (rd t357 x9_2)).f5)))) (fun _ h_ => h_.1))) (Kd.R_typed (by (with_reducible repeat (first | apply Kd.R_alloc | apply Kd.R_drewN | apply Kd.R_drew)); exact (Kd.R_mono (Kd.R_far (p := ⟨gb367, 5, none⟩) (Kd.R_far (p := ⟨gb367, 4, none⟩) (Kd.R_mono HO_8.out (fun k_ hk => (⟨hk, hk.2⟩ : _ ∧ k_ ≠ gb367))) (fun _ hk => hk.2) (.int .i64 (rd x6_1 ((rd_T69 l0 (rd t357 x9_2)).f4)))) (fun _ hk => hk.2) (.int .i64 (rd x6_1 ((rd_T69 l0 (rd t357 x9_2)).f5)))) (fun _ h_ => h_.1)))) (by decide) hg); replace HO_6 := Am (Kd.R_over' (by (with_reducible repeat (first | apply Kd.R_alloc | apply Kd.R_drewN | apply Kd.R_drew)); exact (Kd.R_mono (Kd.R_far (p := ⟨gb367, 5, none⟩) (Kd.R_far (p := ⟨gb367, 4, none⟩) (Kd.R_types HO_6.out BK367.out (by decide)) (fun _ hk => hk.2) (.int .i64 (rd x6_1 ((rd_T69 l0 (rd t357 x9_2)).f4)))) (fun _ hk => hk.2) (.int .i64 (rd x6_1 ((rd_T69 l0 (rd t357 x9_2)).f5)))) (fun _ h_ => h_.1))) (Kd.R_typed (by (with_reducible repeat (first | apply Kd.R_alloc | apply Kd.R_drewN | apply Kd.R_drew)); exact (Kd.R_mono (Kd.R_far (p := ⟨gb367, 5, none⟩) (Kd.R_far (p := ⟨gb367, 4, none⟩) (Kd.R_mono HO_8.out (fun k_ hk => (⟨hk, hk.2⟩ : _ ∧ k_ ≠ gb367))) (fun _ hk => hk.2) (.int .i64 (rd x6_1 ((rd_T69 l0 (rd t357 x9_2)).f4)))) (fun _ hk => hk.2) (.int .i64 (rd x6_1 ((rd_T69 l0 (rd t357 x9_2)).f5)))) (fun _ h_ => h_.1)))) (by decide) hg); replace BK367 := Am (blk_grown (g := gb367) (o := .cells #[.int .i64 ((rd_T69 l0 (rd t357 x9_2)).f0), .int .i64 ((rd_T69 l0 (rd t357 x9_2)).f1), .int .i64 ((rd_T69 l0 (rd t357 x9_2)).f2), .int .i64 ((rd_T69 l0 (rd t357 x9_2)).f3), .int .i64 (rd x6_1 ((rd_T69 l0 (rd t357 x9_2)).f4)), .int .i64 (rd x6_1 ((rd_T69 l0 (rd t357 x9_2)).f5))] 69 (0, 0)) (by (with_reducible repeat (first | refine blk_drewN ?_ _ | refine blk_drew ?_ | refine blk_alloc ?_ _)); refine blk_put (cs := #[.int .i64 ((rd_T69 l0 (rd t357 x9_2)).f0), .int .i64 ((rd_T69 l0 (rd t357 x9_2)).f1), .int .i64 ((rd_T69 l0 (rd t357 x9_2)).f2), .int .i64 ((rd_T69 l0 (rd t357 x9_2)).f3), .int .i64 (rd x6_1 ((rd_T69 l0 (rd t357 x9_2)).f4)), .int .i64 ((rd_T69 l0 (rd t357 x9_2)).f5)]) ?_ 5 _ rfl; (with_reducible repeat (first | refine blk_drewN ?_ _ | refine blk_drew ?_ | refine blk_alloc ?_ _)); refine blk_put (cs := (cN (rd_T69 l0 (rd t357 x9_2)))) ?_ 4 _ rfl; (with_reducible repeat (first | refine blk_drewN ?_ _ | refine blk_drew ?_ | refine blk_alloc ?_ _)); exact BK367.out) hg (Kd.R_away HO_8.out (fun _ hk => hk.2))); replace HB := Am (hb); have HO376 := Am (ho); clear HO_8; clear ho hb hg hat))
        go_roundg k2
        case measure => have := HK1.out; have := HK2.out; omega
        case rel => exact ⟨(y374), (wrap64 (x9_2 + 1)), (by first | rfl | (simp; done) | (simp [*]; done)), H', ⟨by have := HK1.out; have := HK2.out; omega⟩, ⟨kr HO_5.out⟩, ⟨kr HO_6.out⟩, ⟨by (with_reducible repeat (first | apply Kd.R_alloc | apply Kd.R_drewN | apply Kd.R_drew)); exact Kd.R_mono HO376.out (fun _ hk => trivial)⟩, ⟨bs⟩⟩
      ·rw [if_neg c18] at H
       have c18b0 := decide_eq_false c18
       clear c18
       obtain rfl := Option.some.inj H
       go_wp2
       go_ret
       exact ⟨_, er, kr HO_8.out, bq⟩
end
section
attribute [local go_sem] max2_int min2_int max_two min_two max_three min_three max_four min_four
def table_Pairs.l0 : Nat → List (S69) → List (S71) → List Int → Int → Int → Option ((List (S71)) × Int)
 | 0, _, _, _, _, _ => none
 | k + 1, x0, x6, x17, x18, x19 => if x19 < x18 then (if 0 ≤ x19 then (if x19 < (x17.length : Int) then (if 0 ≤ (rd x17 x19) then (if (rd x17 x19) < (x0.length : Int) then (if ((rd_T69 x0 (rd x17 x19)).f1) = 0 then (if x6.length < 8796093022208 then (table_Pairs.l0 k x0 (x6 ++ [(⟨(rd_T69 x0 (rd x17 x19)).f0, (rd_T69 x0 (rd x17 x19)).f3⟩ : S71)]) x17 x18 (wrap64 (x19 + 1))) else (none)) else (table_Pairs.l0 k x0 x6 x17 x18 (wrap64 (x19 + 1)))) else (none)) else (none)) else (none)) else (none)) else (some (x6, 0))
def table_Pairs.f (k : Nat) (l0 : List (S69)) : Option ((List (S71)) × Int) := (table_Leaves.f k l0).bind fun bt253 => (if bt253.2 = 0 then (table_Pairs.l0 k l0 ([] : List (S71)) bt253.1 (bt253.1.length : Int) 0) else (some (([] : List (S71)), bt253.2)))
def table_Pairs.T9 : Bool × List (List Nat × List Nat) := (true, [([], []), ([], []), ([], []), ([1, 2], [1, 2]), ([3], [3]), ([4], [4]), ([], []), ([], []), ([6, 7], [6, 7]), ([8], [8]), ([9], [9]), ([5, 10], [5, 10]), ([11], [11]), ([0, 12], [0, 12]), ([13, 13, 0, 1, 2, 3, 4, 5, 6, 7, 8, 9, 10, 11, 12, 13], [0, 13])])
def table_Pairs.B9 : List Nat := [0, 0, 0, 6, 14, 30, 0, 0, 192, 448, 960, 2046, 4094, 8191, 16383]
theorem table_Pairs.tab9 : rtab .any (opsOf Tryz.f36 9) = table_Pairs.T9 := by kernel_rfl
theorem table_Pairs.bits9 : waitsOk table_Pairs.T9.2 table_Pairs.B9 = true := by kernel_rfl
theorem table_Pairs.calls (k : Nat) (A0 : Option Addr) (c0 : Nat) (l0 : List (S69)) (r1 : List (S71)) (r2 : Int) (w : World) (hr0 : Kd.C k69 w A0 l0.length l0) (hc0 : l0.length ≤ c0) (h : table_Pairs.f k l0 = some (r1, r2)) :
  Calls Tryz.prog 36 #[.slice A0 l0.length c0] w fun e w' => ∃ v0_ : Value, e = .returned (.tuple #[v0_, .int .i64 r2]) ∧ Kd.R k71 71 w' w.heap.size (fun _ => True) v0_ r1 ∧ Below w.heap.size w w' := by
 have HR0 := Am hr0
 have HC0 := Am hc0
 clear hr0 hc0
 have HB := Br w
 have H := h
 unfold table_Pairs.f at H
 clear h
 obtain ⟨⟨t253, t254⟩, A2, H⟩ := bo H
 dsimp only at H
 by_cases c3 : t254 = 0
 ·rw [if_pos c3] at H
  obtain ⟨c3b0, c3b1⟩ := eq2 c3
  clear c3
  have H' := Am H
  clear H
  go_enter Tryz.func36, Tryz.ntmps36
  go_wp2_with (first | ((with_reducible refine Gc 77 rfl ?_); refine gL 11 Tryz.func77 #[.slice A0 l0.length c0] ?_; (with_reducible refine (table_Leaves.calls k _ _ l0 t253 t254 _ (kc HR0.out) HC0.out A2.out).mono ?_); rintro e w4 ⟨v255, rfl, ho0, hb⟩; refine ⟨_, rfl, ?_⟩; replace HO256 := Am (Kd.R_lower ho0 (below_size bq)); replace HB := Am (below_step bq hb); (try clear hb); (try clear hb2); (try clear hk); (try clear hi); (try clear ho0); obtain ⟨Ao5, co5, eo5⟩ := Kd.R_slice HO256.out; subst eo5))
  go_loopg [6, 19] k (fun kq v6 v19 w' => ∃ (x6_1 : List (S71)) (x19_1 : Int), v19 = .int .i64 x19_1 ∧ Aside0 (table_Pairs.l0 kq l0 x6_1 t253 (t253.length : Int) x19_1 = some (r1, r2)) ∧ Aside0 (kq ≤ k) ∧ Aside0 (Kd.R k71 71 w' w.heap.size (fun _ => True) v6 x6_1) ∧ Aside0 (Kd.R (Kd.int .i64) 3 w' w.heap.size (fun _ => True) (.slice Ao5 t253.length co5) t253) ∧ Aside0 (Below w.heap.size w w'))
  case atStart => exact ⟨(([] : List (S71))), (0), (by first | rfl | (simp; done) | (simp [*]; done)), H', ⟨Nat.le_refl _⟩, ⟨by first | exact Kd.R_nil _ _ _ _ _ | exact Kd.N_nil _ _ _ _ _ | exact Kd.V_nil _ _ _ _ _ | exact Kd.Q_nil _ _ _ _ _ | exact Kd.S_nil _ _ _ _ _⟩, ⟨kr HO256.out⟩, ⟨bq⟩⟩
  case round =>
   clear H'
   clear c3b0 c3b1
   obtain ⟨x6_1, x19_1, rfl, HA, HK1, HO_6, HO_17, HB⟩ := hrel
   cases gk with
   | zero => exact absurd HA.out (by simp [table_Pairs.l0])
   | succ k1 =>
    have H := HA.out
    clear HA
    simp only [table_Pairs.l0] at H
    by_cases c6 : x19_1 < (t253.length : Int)
    ·rw [if_pos c6] at H
     have c6b0 := decide_eq_true c6
     clear c6
     obtain ⟨c7b0, H⟩ := ge H
     obtain ⟨c8b0, H⟩ := ge H
     obtain ⟨c9b0, H⟩ := ge H
     obtain ⟨c10b0, H⟩ := ge H
     by_cases c11 : ((rd_T69 l0 (rd t253 x19_1)).f1) = 0
     ·rw [if_pos c11] at H
      obtain ⟨c11b0, c11b1⟩ := eq2 c11
      clear c11
      obtain ⟨c12, H⟩ := gd H
      have LMc12 := Am c12
      clear c12
      obtain ⟨y261, hy261⟩ : ∃ y_ : List (S71), y_ = (x6_1 ++ [(⟨(rd_T69 l0 (rd t253 x19_1)).f0, (rd_T69 l0 (rd t253 x19_1)).f3⟩ : S71)]) := ⟨_, rfl⟩
      rw [← hy261] at H
      have Ny261 := Am hy261
      clear hy261
      have H' := Am H
      clear H
      have p257 : 0 ≤ (x19_1 : Int) := da
      have q257 : x19_1 < (t253.length : Int) := da
      obtain ⟨ad257, e257, hx257_0⟩ := Kd.at_int (Kd.R_reads' HO_17.out).2.2 x19_1 p257 q257
      cases e257
      replace p257 := eq_true p257
      replace q257 := eq_true q257
      obtain ⟨ad258, e258, hx258_0, hx258_1, hx258_2, hx258_3, hx258_4, hx258_5, p258, q258⟩ := t6d HB.out HR0.out (rd t253 x19_1)
      cases e258
      try go_wp2
      replace HO_6 := Am (Kd.R_drew HO_6.out)
      replace HO_17 := Am (Kd.R_drew HO_17.out)
      replace HB := Am (bd HB.out)
      obtain ⟨ad259, e259, ⟨hw259_0, hw259_1, hw259_2, hw259_3, hw259_4, hw259_5⟩, hx259_0, hx259_1, hx259_2, hx259_3, hx259_4, hx259_5, p259, q259⟩ := t6e HB.out HR0.out (rd t253 x19_1)
      obtain rfl : ad258 = ad259 := (by injection e259)
      obtain ⟨ad260, e260, ⟨hw260_0, hw260_1, hw260_2, hw260_3, hw260_4, hw260_5⟩, hx260_0, hx260_1, hx260_2, hx260_3, hx260_4, hx260_5, p260, q260⟩ := t6e HB.out HR0.out (rd t253 x19_1)
      obtain rfl : ad258 = ad260 := (by injection e260)
      refine sT 15 [] (S := fun w' => w'.cell? (ad258.add (((rd t253 x19_1)).toNat * 6)) = some (.int .i64 ((rd_T69 l0 (rd t253 x19_1)).f0)) ∧ w'.cell? ⟨(ad258.add (((rd t253 x19_1)).toNat * 6)).block, (ad258.add (((rd t253 x19_1)).toNat * 6)).off + 1, none⟩ = some (.int .i64 ((rd_T69 l0 (rd t253 x19_1)).f1)) ∧ w'.cell? ⟨(ad258.add (((rd t253 x19_1)).toNat * 6)).block, (ad258.add (((rd t253 x19_1)).toNat * 6)).off + 2, none⟩ = some (.int .i64 ((rd_T69 l0 (rd t253 x19_1)).f2)) ∧ w'.cell? ⟨(ad258.add (((rd t253 x19_1)).toNat * 6)).block, (ad258.add (((rd t253 x19_1)).toNat * 6)).off + 3, none⟩ = some (.int .i64 ((rd_T69 l0 (rd t253 x19_1)).f3)) ∧ w'.cell? ⟨(ad258.add (((rd t253 x19_1)).toNat * 6)).block, (ad258.add (((rd t253 x19_1)).toNat * 6)).off + 4, none⟩ = some (.int .i64 ((rd_T69 l0 (rd t253 x19_1)).f4)) ∧ w'.cell? ⟨(ad258.add (((rd t253 x19_1)).toNat * 6)).block, (ad258.add (((rd t253 x19_1)).toNat * 6)).off + 5, none⟩ = some (.int .i64 ((rd_T69 l0 (rd t253 x19_1)).f5))) ⟨(hc hw259_0), (hc hw259_1), (hc hw259_2), (hc hw259_3), (hc hw259_4), (hc hw259_5)⟩ fun hHeld => ?_; refine with_tabW table_Pairs.tab9 table_Pairs.bits9 (fun HT_ HW_ => ?_)
      generalize wr.drew = w13 at HO_6 HO_17 HB hx259_0 hx259_1 hx259_2 hx259_3 hx259_4 hx259_5 hx260_0 hx260_1 hx260_2 hx260_3 hx260_4 hx260_5 hHeld ⊢
      refine puT HT_.out 0 29 ?_
      refine puT HT_.out 1 30 ?_
      refine puT HT_.out 2 31 ?_
      refine puT HT_.out 3 32 ?_
      refine puT HT_.out 4 33 ?_
      refine puT HT_.out 6 35 ?_
      refine puT HT_.out 7 36 ?_
      refine puT HT_.out 8 37 ?_
      refine puT HT_.out 9 38 ?_
      refine taT HT_.out HW_.out 5 34 hHeld ?_
      refine taT HT_.out HW_.out 10 39 hHeld ?_
      refine puT HT_.out 11 40 ?_
      refine onT HT_.out 12 41 fun K hK => ?_
      refine value_ (w1 := ?_) (v := ?_) (by rfl) rfl ?_ ?_
      rotate_left 2
      ·go_simp
       constructor
       ·rfl
       ·rfl
      refine hK.out _ _ ⟨(World.cell?_alloc_lt _ _ _ (blt _ _ ((hc hw259_0)))).trans ((hc hw259_0)), (World.cell?_alloc_lt _ _ _ (blt _ _ ((hc hw259_1)))).trans ((hc hw259_1)), (World.cell?_alloc_lt _ _ _ (blt _ _ ((hc hw259_2)))).trans ((hc hw259_2)), (World.cell?_alloc_lt _ _ _ (blt _ _ ((hc hw259_3)))).trans ((hc hw259_3)), (World.cell?_alloc_lt _ _ _ (blt _ _ ((hc hw259_4)))).trans ((hc hw259_4)), (World.cell?_alloc_lt _ _ _ (blt _ _ ((hc hw259_5)))).trans ((hc hw259_5))⟩ (fun hHeld => ?_)
      clear hK K
      refine nm 41 ?_
      refine onT HT_.out 13 42 fun K hK => ?_
      refine Kd.R_append_step k71 (w0 := w) w.heap.size (by rfl) (.tmp 29) (.tmp 41) 27 71 (.agg #[(.int .i64 0), (.int .i64 0)]) 16 rfl Tryz.underlying27 info71 rfl (by decide) (by omega) u6 x6_1 (⟨(rd_T69 l0 (rd t253 x19_1)).f0, (rd_T69 l0 (rd t253 x19_1)).f3⟩ : S71) [.int .i64 ((rd_T69 l0 (rd t253 x19_1)).f0), .int .i64 ((rd_T69 l0 (rd t253 x19_1)).f3)] (fun _ => True) (fun _ => False) rfl rfl ?aP (fun _ hk => hk.elim) ?aF ?aO ?aB ?aS ?aL ?_
      (case aP => exact k71_mkM _ _ _ (⟨(rd_T69 l0 (rd t253 x19_1)).f0, (rd_T69 l0 (rd t253 x19_1)).f3⟩ : S71))
      (case aB => exact bq)
      (case aF => exact (fun _ _ => trivial))
      (case aO => exact (kr HO_6.out))
      (case aS => exact (below_size bq))
      (case aL => have := LMc12.out; omega)
      intro v262 w14 ho hb hg hat
      rw [← Ny261.out] at ho
      replace HO_17 := Am (Kd.R_over' (kr HO_17.out) (Kd.R_typed (kr HO_6.out)) (by decide) hg)
      replace HB := Am (hb)
      have HO263 := Am (ho)
      clear HO_6
      clear ho hb hg hat
      refine hK.out _ _ ⟨(hc hw259_0), (hc hw259_1), (hc hw259_2), (hc hw259_3), (hc hw259_4), (hc hw259_5)⟩ (fun hHeld => ?_)
      clear hK K
      refine nm 42 ?_
      refine puT HT_.out 14 6 ?_
      refine done_ (done_of HT_.out (by kernel_rfl)) ?_
      try go_wp2
      go_roundg k1
      case measure => have := HK1.out; omega
      case rel => exact ⟨(y261), (wrap64 (x19_1 + 1)), (by first | rfl | (simp; done) | (simp [*]; done)), H', ⟨by have := HK1.out; omega⟩, ⟨kr HO263.out⟩, ⟨kr HO_17.out⟩, ⟨bq⟩⟩
     ·rw [if_neg c11] at H
      obtain ⟨c11b0, c11b1⟩ := ne2 c11
      have H' := Am H
      clear H
      have p257 : 0 ≤ (x19_1 : Int) := da
      have q257 : x19_1 < (t253.length : Int) := da
      obtain ⟨ad257, e257, hx257_0⟩ := Kd.at_int (Kd.R_reads' HO_17.out).2.2 x19_1 p257 q257
      cases e257
      replace p257 := eq_true p257
      replace q257 := eq_true q257
      obtain ⟨ad258, e258, hx258_0, hx258_1, hx258_2, hx258_3, hx258_4, hx258_5, p258, q258⟩ := t6d HB.out HR0.out (rd t253 x19_1)
      cases e258
      go_wp2
      go_roundg k1
      case measure => have := HK1.out; omega
      case rel => exact ⟨(x6_1), (wrap64 (x19_1 + 1)), (by first | rfl | (simp; done) | (simp [*]; done)), H', ⟨by have := HK1.out; omega⟩, ⟨kr HO_6.out⟩, ⟨kr HO_17.out⟩, ⟨bq⟩⟩
    ·rw [if_neg c6] at H
     have c6b0 := decide_eq_false c6
     clear c6
     simp only [Option.some.injEq, Prod.mk.injEq] at H
     obtain ⟨rfl, rfl⟩ := H
     go_wp2
     go_ret2
     exact ⟨_, er, kr HO_6.out, bq⟩
 ·rw [if_neg c3] at H
  obtain ⟨c3b0, c3b1⟩ := ne2 c3
  simp only [Option.some.injEq, Prod.mk.injEq] at H
  obtain ⟨rfl, rfl⟩ := H
  go_enter Tryz.func36, Tryz.ntmps36
  go_wp2_with (first | ((with_reducible refine Gc 77 rfl ?_); refine gL 11 Tryz.func77 #[.slice A0 l0.length c0] ?_; (with_reducible refine (table_Leaves.calls k _ _ l0 t253 t254 _ (kc HR0.out) HC0.out A2.out).mono ?_); rintro e w15 ⟨v255, rfl, ho0, hb⟩; refine ⟨_, rfl, ?_⟩; replace HO256 := Am (Kd.R_lower ho0 (below_size bq)); replace HB := Am (below_step bq hb); (try clear hb); (try clear hb2); (try clear hk); (try clear hi); (try clear ho0)))
  go_ret2
  exact dd22
def model_Check.l0 : Nat → List (S71) → Int → Option (Int)
 | 0, _, _ => none
 | k + 1, x0, x3 => if x3 < (x0.length : Int) then (if 0 ≤ (wrap64 (x3 - 1)) then (if (wrap64 (x3 - 1)) < (x0.length : Int) then (if 0 ≤ x3 then (if ((rd_T71 x0 (wrap64 (x3 - 1))).f0) ≥ ((rd_T71 x0 x3).f0) then (some 11) else (model_Check.l0 k x0 (wrap64 (x3 + 1)))) else (none)) else (none)) else (none)) else (some 0)
def model_Check.f (k : Nat) (l0 : List (S71)) : Option (Int) := model_Check.l0 k l0 1
theorem model_Check.calls (k : Nat) (A0 : Option Addr) (c0 : Nat) (l0 : List (S71)) (r : Int) (w : World) (hr0 : Kd.C k71 w A0 l0.length l0) (hc0 : l0.length ≤ c0) (h : model_Check.f k l0 = some r) :
  Calls Tryz.prog 140 #[.slice A0 l0.length c0] w fun e w' => e = .returned (.int .i64 r) ∧ Drawn0 w w' := by
 have HR0 := Am hr0
 have HC0 := Am hc0
 clear hr0 hc0
 have H : (model_Check.l0 k l0 1) = some r := h
 clear h
 have H' := Am H
 clear H
 go_enter Tryz.func140, Tryz.ntmps140
 go_wp2
 repeat (go_quiet (fail); try go_wp2)
 go_loopg [3] k (fun kq v3 w' => ∃ (x3_1 : Int), v3 = .int .i64 x3_1 ∧ Aside0 (model_Check.l0 kq l0 x3_1 = some r) ∧ Aside0 (kq ≤ k) ∧ Drawn0 w w')
 case atStart => exact ⟨(1), (by first | rfl | (simp; done) | (simp [*]; done)), H', ⟨Nat.le_refl _⟩, by repeat (first | exact Drawn0.refl _ | apply Drawn0.step)⟩
 case round =>
  clear H'
  obtain ⟨x3_1, rfl, HA, HK1, ⟨m1, rfl⟩⟩ := hrel
  cases gk with
  | zero => exact absurd HA.out (by simp [model_Check.l0])
  | succ k1 =>
   have H := HA.out
   clear HA
   simp only [model_Check.l0] at H
   by_cases c2 : x3_1 < (l0.length : Int)
   ·rw [if_pos c2] at H
    have c2b0 := decide_eq_true c2
    clear c2
    obtain ⟨ji3, hji3⟩ : ∃ j_ : Int, (wrap64 (x3_1 - 1)) = j_ := ⟨_, rfl⟩
    first | rw [hji3] at H | simp only [hji3] at H
    have hji3w : (IntKind.i64.wrap (x3_1 - 1)) = ji3 := (i64_w _).trans hji3
    obtain ⟨c4b0, H⟩ := ge H
    obtain ⟨c5b0, H⟩ := ge H
    obtain ⟨c6b0, H⟩ := ge H
    by_cases c7 : ((rd_T71 l0 (ji3)).f0) ≥ ((rd_T71 l0 x3_1).f0)
    ·rw [if_pos c7] at H
     have c7b0 : decide (((rd_T71 l0 x3_1).f0) ≤ ((rd_T71 l0 (ji3)).f0)) = true := decide_eq_true c7
     clear c7
     obtain rfl := Option.some.inj H
     have p264 : 0 ≤ ((ji3) : Int) := da
     have q264 : (ji3) < (l0.length : Int) := da
     obtain ⟨ad264, e264, hx264_0, hx264_1⟩ := at_T71 HR0.out (ji3) p264 q264
     cases e264
     replace p264 := eq_true p264
     replace q264 := eq_true q264
     have p265 : 0 ≤ (x3_1 : Int) := da
     have q265 : x3_1 < (l0.length : Int) := da
     obtain ⟨ad265, e265, hx265_0, hx265_1⟩ := at_T71 HR0.out x3_1 p265 q265
     obtain rfl : ad264 = ad265 := (by injection e265)
     replace p265 := eq_true p265
     replace q265 := eq_true q265
     go_wp2
     repeat (go_quiet (fail); try go_wp2)
     go_ret
     exact ⟨by first | rfl | (simp; done) | (simp only [← hji3] <;> (first | rfl | simp)) | (simp [*]; done), by repeat (first | exact Drawn0.refl _ | apply Drawn0.step)⟩
    ·rw [if_neg c7] at H
     have c7b0 : decide (((rd_T71 l0 x3_1).f0) ≤ ((rd_T71 l0 (ji3)).f0)) = false := decide_eq_false c7
     clear c7
     have H' := Am H
     clear H
     have p264 : 0 ≤ ((ji3) : Int) := da
     have q264 : (ji3) < (l0.length : Int) := da
     obtain ⟨ad264, e264, hx264_0, hx264_1⟩ := at_T71 HR0.out (ji3) p264 q264
     cases e264
     replace p264 := eq_true p264
     replace q264 := eq_true q264
     have p265 : 0 ≤ (x3_1 : Int) := da
     have q265 : x3_1 < (l0.length : Int) := da
     obtain ⟨ad265, e265, hx265_0, hx265_1⟩ := at_T71 HR0.out x3_1 p265 q265
     obtain rfl : ad264 = ad265 := (by injection e265)
     replace p265 := eq_true p265
     replace q265 := eq_true q265
     go_wp2
     repeat (go_quiet (fail); try go_wp2)
     go_roundg k1
     case measure => have := HK1.out; omega
     case rel => exact ⟨(wrap64 (x3_1 + 1)), (by first | rfl | (simp; done) | (simp [*]; done)), H', ⟨by have := HK1.out; omega⟩, by repeat (first | exact Drawn0.refl _ | apply Drawn0.step)⟩
   ·rw [if_neg c2] at H
    have c2b0 := decide_eq_false c2
    clear c2
    exact dd111
def cmp_isNaN_int.f (a0 : Int) : Option (Bool) := some (a0 != a0)
theorem cmp_isNaN_int.calls (a0 : Int) (r : Bool) (w : World) (h : cmp_isNaN_int.f a0 = some r) :
  Calls Tryz.prog 168 #[.int .i64 a0] w fun e w' => e = .returned (.bool r) ∧ Drawn0 w w' := by
 have H : (some (a0 != a0)) = some r := h
 clear h
 obtain rfl := Option.some.inj H
 go_enter Tryz.func168, Tryz.ntmps168
 go_wp2
 exact dd9
def cmp_Compare_int.f (a0 : Int) (a1 : Int) : Option (Int) := (cmp_isNaN_int.f a0).bind fun t266 => ((cmp_isNaN_int.f a1).bind fun t267 => (if t266 = true then (if t267 = true then (some 0) else (some (-1))) else (if t267 = true then (some 1) else (if a0 < a1 then (some (-1)) else (if a0 > a1 then (some 1) else (some 0))))))
theorem cmp_Compare_int.calls (a0 : Int) (a1 : Int) (r : Int) (w : World) (h : cmp_Compare_int.f a0 a1 = some r) :
  Calls Tryz.prog 145 #[.int .i64 a0, .int .i64 a1] w fun e w' => e = .returned (.int .i64 r) ∧ Drawn0 w w' := by
 have H := h
 unfold cmp_Compare_int.f at H
 clear h
 obtain ⟨t266, A3, H⟩ := bo H
 obtain ⟨t267, A4, H⟩ := bo H
 by_cases c5 : t266 = true
 ·subst c5
  rw [if_pos rfl] at H
  by_cases c6 : t267 = true
  ·subst c6
   rw [if_pos rfl] at H
   obtain rfl := Option.some.inj H
   go_enter Tryz.func145, Tryz.ntmps145
   go_wp2_with (first | ((with_reducible refine Gc 168 rfl ?_); refine gL 8 Tryz.func168 #[.int .i64 a0] ?_; (with_reducible refine (cmp_isNaN_int.calls a0 true _ A3.out).mono ?_); rintro e w' ⟨rfl, ⟨nd, rfl⟩⟩; refine ⟨_, rfl, ?_⟩) | ((with_reducible refine Gc 168 rfl ?_); refine gL 10 Tryz.func168 #[.int .i64 a1] ?_; (with_reducible refine (cmp_isNaN_int.calls a1 true _ A4.out).mono ?_); rintro e w' ⟨rfl, ⟨nd, rfl⟩⟩; refine ⟨_, rfl, ?_⟩))
   exact dd9
  ·replace c6 := Bool.eq_false_iff.mpr c6
   subst c6
   rw [if_neg nf] at H
   obtain rfl := Option.some.inj H
   go_enter Tryz.func145, Tryz.ntmps145
   go_wp2_with (first | ((with_reducible refine Gc 168 rfl ?_); refine gL 8 Tryz.func168 #[.int .i64 a0] ?_; (with_reducible refine (cmp_isNaN_int.calls a0 true _ A3.out).mono ?_); rintro e w' ⟨rfl, ⟨nd, rfl⟩⟩; refine ⟨_, rfl, ?_⟩) | ((with_reducible refine Gc 168 rfl ?_); refine gL 10 Tryz.func168 #[.int .i64 a1] ?_; (with_reducible refine (cmp_isNaN_int.calls a1 false _ A4.out).mono ?_); rintro e w' ⟨rfl, ⟨nd, rfl⟩⟩; refine ⟨_, rfl, ?_⟩))
   exact dd9
 ·replace c5 := Bool.eq_false_iff.mpr c5
  subst c5
  rw [if_neg nf] at H
  by_cases c7 : t267 = true
  ·subst c7
   rw [if_pos rfl] at H
   obtain rfl := Option.some.inj H
   go_enter Tryz.func145, Tryz.ntmps145
   go_wp2_with (first | ((with_reducible refine Gc 168 rfl ?_); refine gL 8 Tryz.func168 #[.int .i64 a0] ?_; (with_reducible refine (cmp_isNaN_int.calls a0 false _ A3.out).mono ?_); rintro e w' ⟨rfl, ⟨nd, rfl⟩⟩; refine ⟨_, rfl, ?_⟩) | ((with_reducible refine Gc 168 rfl ?_); refine gL 10 Tryz.func168 #[.int .i64 a1] ?_; (with_reducible refine (cmp_isNaN_int.calls a1 true _ A4.out).mono ?_); rintro e w' ⟨rfl, ⟨nd, rfl⟩⟩; refine ⟨_, rfl, ?_⟩))
   exact dd9
  ·replace c7 := Bool.eq_false_iff.mpr c7
   subst c7
   rw [if_neg nf] at H
   by_cases c8 : a0 < a1
   ·rw [if_pos c8] at H
    have c8b0 := decide_eq_true c8
    clear c8
    exact dd97
   ·rw [if_neg c8] at H
    have c8b0 := decide_eq_false c8
    clear c8
    by_cases c9 : a0 > a1
    ·rw [if_pos c9] at H
     have c9b0 : decide (a1 < a0) = true := decide_eq_true c9
     clear c9
     exact dd97
    ·rw [if_neg c9] at H
     have c9b0 : decide (a1 < a0) = false := decide_eq_false c9
     clear c9
     exact dd97
def model_byKey.f (a0_0 : Int) (a0_1 : Int) (a1_0 : Int) (a1_1 : Int) : Option (Int) := (cmp_Compare_int.f a0_0 a1_0).bind fun t270 => (some t270)
theorem model_byKey.calls (a0_0 : Int) (a0_1 : Int) (a1_0 : Int) (a1_1 : Int) (r : Int) (w : World) (h : model_byKey.f a0_0 a0_1 a1_0 a1_1 = some r) :
  Calls Tryz.prog 90 #[.agg #[.int .i64 a0_0, .int .i64 a0_1], .agg #[.int .i64 a1_0, .int .i64 a1_1]] w (RB w (.int .i64 r)) := by
 have HB := Br w
 have H : ((cmp_Compare_int.f a0_0 a1_0).bind fun t270 => (some t270)) = some r := h
 clear h
 obtain ⟨t270, A3, H⟩ := bo H
 obtain rfl := Option.some.inj H
 go_enter Tryz.func90, Tryz.ntmps90
 go_wp2_with (first | ((with_reducible refine Gd 2 rfl ?_); refine bE 2 (cs := #[.int .i64 a0_0, .int .i64 a0_1]) (t := 71) ?_; intro gb268 hg w4 hbox hb; obtain ⟨n0_, BK268, GW268, GE268⟩ := bx hg hbox hb; clear HB; have HB := n0_; clear n0_ hb hbox hg) | ((with_reducible refine Gd 3 rfl ?_); refine bE 3 (cs := #[.int .i64 a1_0, .int .i64 a1_1]) (t := 71) ?_; intro gb269 hg w5 hbox hb; have BK269 := Am (hbox); have GW269 := Am ((bz' hg : w.heap.size ≤ gb269)); have GE269 := Am ((bz' hg : w.heap.size ≤ gb269)); replace HB := Am (below_step bs hb); have NB268_269 := Am ((by rw [hg]; exact Nat.ne_of_lt (blk_lt (g := gb268) (o := .cells #[.int .i64 a0_0, .int .i64 a0_1] 71 (0, 0)) (bk BK268.out)) : gb268 ≠ gb269)); have NB269_268 := Am ((by rw [hg]; exact Nat.ne_of_gt (blk_lt (g := gb268) (o := .cells #[.int .i64 a0_0, .int .i64 a0_1] 71 (0, 0)) (bk BK268.out)) : gb269 ≠ gb268)); replace BK268 := Am (blk_below (bk BK268.out) hb); clear hb hbox hg; have hnb6 := NB268_269.out; have hnc6 := NB269_268.out; obtain ⟨z7_0, z7_1, f7_0, f7_1⟩ := cf2 BK268.out; obtain ⟨z8_0, z8_1, f8_0, f8_1⟩ := cf2 BK269.out) | ((with_reducible refine Gc 145 rfl ?_); refine gL 9 Tryz.func145 #[.int .i64 a0_0, .int .i64 a1_0] ?_; (with_reducible refine (cmp_Compare_int.calls a0_0 a1_0 t270 _ A3.out).mono ?_); rintro e w' ⟨rfl, ⟨nd, rfl⟩⟩; refine ⟨_, rfl, ?_⟩))
 go_ret
 exact ⟨er, bs⟩
def model_Changes.f (a0 : Int) : Option (Bool) := if a0 = 2 then (some true) else (if a0 = 3 then (some true) else (some (a0 == 4)))
theorem model_Changes.calls (a0 : Int) (r : Bool) (w : World) (h : model_Changes.f a0 = some r) :
  Calls Tryz.prog 161 #[.int .i64 a0] w fun e w' => e = .returned (.bool r) ∧ Drawn0 w w' := by
 have H : (if a0 = 2 then (some true) else (if a0 = 3 then (some true) else (some (a0 == 4)))) = some r := h
 clear h
 by_cases c2 : a0 = 2
 ·rw [if_pos c2] at H
  obtain ⟨c2b0, c2b1⟩ := eq2 c2
  clear c2
  exact dd104
 ·rw [if_neg c2] at H
  obtain ⟨c2b0, c2b1⟩ := ne2 c2
  by_cases c3 : a0 = 3
  ·rw [if_pos c3] at H
   obtain ⟨c3b0, c3b1⟩ := eq2 c3
   clear c3
   exact dd104
  ·rw [if_neg c3] at H
   obtain ⟨c3b0, c3b1⟩ := ne2 c3
   exact dd104
end
section
open Go.Proofs.YtaabbaemfnecgaaGreat.V
def numL (a : ByteArray) : Nat → Int → Int → Option (Int × Int)
 | 0, _, _ => none
 | k + 1, i, n => if i < (a.size : Int) ∧ 48 ≤ bt a i ∧ bt a i ≤ 57 then (if -1000000000000 ≤ n ∧ n ≤ 0 ∧ i ≤ 1000000 then numL a k (i + 1) (n * 10 - (bt a i - 48)) else none) else if -100000000000000 ≤ n ∧ n ≤ 0 then some (n, i) else none
def larchref16_number.f (k : Nat) (a : ByteArray) (i : Int) : Option (Int × Int) := if 0 ≤ i ∧ i < (a.size : Int) ∧ bt a i ≠ 45 then (numL a k i 0).bind fun r => if r.2 ≤ 1000000 ∧ (i + 1 = r.2 ∨ (i + 1 < r.2 ∧ bt a i ≠ 48)) then some (-r.1, r.2) else none else none
theorem bt_le (a : ByteArray) (i : Int) : 0 ≤ bt a i ∧ bt a i ≤ 255 := by
 unfold bt
 split
 ·rename_i h
  have := (a[i.toNat]'h).toNat_lt
  omega
 ·omega
theorem larchref16_number.calls (k : Nat) (a0 : ByteArray) (a1 : Int) (r1 : Int) (r2 : Int) (w : World) (h : larchref16_number.f k a0 a1 = some (r1, r2)) :
  Calls Tryz.prog 147 #[.string a0, .int .i64 a1] w fun e w' => e = .returned (.tuple #[.int .i64 r1, .int .i64 r2]) ∧ Drawn0 w w' := by
 unfold larchref16_number.f at h
 split at h
 rotate_left
 ·cases h
 rename_i q
 obtain ⟨⟨n0, e0⟩, hL, h⟩ := Option.bind_eq_some_iff.mp h
 dsimp only at h
 split at h
 rotate_left
 ·cases h
 rename_i qe
 injection h with h
 injection h with h1 h2
 subst h1 h2
 clear h
 have HL := Am hL
 have HQE := Am qe
 obtain ⟨i, rfl⟩ : ∃ i : Nat, a1 = i := ⟨a1.toNat, by omega⟩
 have HI0 := Am (show i < a0.size by omega)
 have c0 : i < a0.size := by omega
 have c1 : decide ((i : Int) < (a0.size : Int)) = true := decide_eq_true q.2.1
 have c2 : decide (0 ≤ (i : Int)) = true := decide_eq_true q.1
 obtain ⟨b0, hb0⟩ : ∃ b : Int, ((a0[i]'c0).toNat : Int) = b := ⟨_, rfl⟩
 have hbt0 : bt a0 i = b0 := by rw [← hb0, bt, dif_pos (by omega)]; rfl
 rw [hbt0] at q qe HQE
 have c3 : (b0 == 45) = false := by simpa using q.2.2
 clear q hL qe
 go_enter Tryz.func147, Tryz.ntmps147
 go_wp2
 go_loopg [1, 8] k (fun kq v1 v8 w' => ∃ (x : Nat) (n : Int), v1 = .int .i64 x ∧ v8 = .int .i64 n ∧ Aside0 (i ≤ x) ∧ Aside0 (numL a0 kq x n = some (n0, e0)) ∧ Aside0 (w' = w))
 case atStart => exact ⟨i, 0, rfl, rfl, ⟨Nat.le_refl _⟩, HL, ⟨rfl⟩⟩
 case round =>
  clear HL
  obtain ⟨x, n, rfl, rfl, HX, HL, HW⟩ := hrel
  have hw := HW.out
  subst hw
  obtain ⟨kq1, rfl⟩ : ∃ y, gk = y + 1 := by
   cases gk with
   | zero => exact absurd HL.out (by simp [numL])
   | succ y => exact ⟨y, rfl⟩
  have hh := HL.out
  clear HL
  rw [numL] at hh
  have hbx := bt_le a0 x
  by_cases q1 : (x : Int) < (a0.size : Int) ∧ 48 ≤ bt a0 x ∧ bt a0 x ≤ 57
  ·rw [if_pos q1] at hh
   by_cases q2 : -1000000000000 ≤ n ∧ n ≤ 0 ∧ (x : Int) ≤ 1000000
   rotate_left
   ·rw [if_neg q2] at hh; cases hh
   rw [if_pos q2] at hh
   have d0 : x < a0.size := by omega
   have d1 : decide ((x : Int) < (a0.size : Int)) = true := decide_eq_true q1.1
   have d2 : decide (0 ≤ (x : Int)) = true := decide_eq_true (by omega)
   obtain ⟨b, hb⟩ : ∃ b : Int, ((a0[x]'d0).toNat : Int) = b := ⟨_, rfl⟩
   have hbt : bt a0 x = b := by rw [← hb, bt, dif_pos (by omega)]; rfl
   rw [hbt] at q1 hh
   have d3 : decide (b ≥ 48) = true := decide_eq_true q1.2.1
   have d3' : decide (48 ≤ b) = true := decide_eq_true q1.2.1
   have d4 : decide (b ≤ 57) = true := decide_eq_true q1.2.2
   have HQ := Am q1
   have HQ2 := Am q2
   have HH := Am hh
   clear q1 q2 hh hbx hbt
   have d6 : (b - 48) % 256 = b - 48 := by have := HQ.out; omega
   have d7 : ¬ (n < (-9223372036854775808 + (b - 48)).tdiv 10) := by
    have := HQ.out
    have := HQ2.out
    have h1 : (-9223372036854775808 + (b - 48)).tdiv 10 = -(((9223372036854775808 - (b - 48))).tdiv 10) := by rw [← Int.neg_tdiv]; congr 1; omega
    rw [h1, Int.tdiv_eq_ediv_of_nonneg (by omega)]
    omega
   have D6 := Am d6
   rw [← d6] at d7
   clear d6
   go_wp2
   go_roundg kq1
   case measure => omega
   case rel => exact ⟨x + 1, _, by have := HQ2.out; rw [Go.IntWalk.wrap64_in _ (by omega)]; rfl, rfl, ⟨by have := HX.out; omega⟩, ⟨by have := HQ2.out; have := HQ.out; rw [D6.out, Go.IntWalk.wrap64_in (n * 10) (by omega), Go.IntWalk.wrap64_in _ (by omega)]; exact HH.out⟩, ⟨rfl⟩⟩
  ·rw [if_neg q1] at hh
   by_cases q2 : -100000000000000 ≤ n ∧ n ≤ 0
   rotate_left
   ·rw [if_neg q2] at hh; cases hh
   rw [if_pos q2] at hh
   injection hh with hh
   injection hh with h1 h2
   subst h1
   have HQ2 := Am q2
   have HX2 := Am h2
   have e1 : (x == i) = false := by rw [beq_eq_false_iff_ne]; have := HQE.out; omega
   have e1' : ((x : Int) == (i : Int)) = false := by rw [beq_eq_false_iff_ne]; have := HQE.out; omega
   have e2 : (n == -9223372036854775808) = false := by rw [beq_eq_false_iff_ne]; omega
   have hr : wrap64 (-n) = -n := Go.IntWalk.wrap64_in _ (by omega)
   have HR := Am hr
   clear hr hbx h2 q2
   have e3 : (b0 == 48) = false ∨ (b0 == 48) = true ∧ decide ((x : Int) > wrap64 ((i : Int) + 1)) = false := by
    have := HQE.out
    have := HX2.out
    cases hb : (b0 == 48) with
    | false => exact .inl rfl
    | true =>
     right
     refine ⟨rfl, decide_eq_false ?_⟩
     have : b0 = 48 := by simpa using hb
     rw [Go.IntWalk.wrap64_in _ (by omega)]
     omega
   have e4 : (x < a0.size → ∃ b : Int, ∃ h : x < a0.size, ((a0[x]'h).toNat : Int) = b ∧ (decide (b ≥ 48) = false ∨ decide (b ≥ 48) = true ∧ decide (b ≤ 57) = false)) := fun h => by
    refine ⟨_, h, rfl, ?_⟩
    have hbt : bt a0 x = ((a0[x]'h).toNat : Int) := by rw [bt, dif_pos (by omega)]; rfl
    rw [hbt] at q1
    cases hc : decide (((a0[x]'h).toNat : Int) ≥ 48) with
    | false => exact .inl rfl
    | true =>
     have := of_decide_eq_true hc
     exact .inr ⟨rfl, decide_eq_false (by omega)⟩
   by_cases q3 : x < a0.size
   rotate_left
   ·have d1 : decide ((x : Int) < (a0.size : Int)) = false := decide_eq_false (by omega)
    clear e4 q1
    rcases e3 with e3 | ⟨e3, e5⟩
    ·exact dd62
    ·exact dd62
   obtain ⟨b, d0, hb, e4⟩ := e4 q3
   have d1 : decide ((x : Int) < (a0.size : Int)) = true := decide_eq_true (by omega)
   have d2 : decide (0 ≤ (x : Int)) = true := decide_eq_true (by omega)
   clear q1
   rcases e4 with e4 | ⟨e4, e6⟩ <;> rcases e3 with e3 | ⟨e3, e5⟩
   all_goals
    exact dd62
end
section
open Go.Proofs.YtaabbaemfnecgaaGreat.V
structure S165 where
 f0 : Int
 f1 : Int
 f2 : Int
 f3 : Bool
 f4 : Bool
 f5 : Bool
def z165 : S165 := ⟨0, 0, 0, false, false, false⟩
def k165 : Kd S165 := Kd.iso (Kd.pair (Kd.int .i64) (Kd.pair (Kd.int .i64) (Kd.pair (Kd.int .i64) (Kd.pair Kd.bool (Kd.pair Kd.bool Kd.bool))))) (fun x : S165 => (x.f0, x.f1, x.f2, x.f3, x.f4, x.f5))
theorem k165_openM {w : World} {base : Nat} {ok : Nat → Prop} {x : S165} {cs : List Value} (h : k165.M w base ok x cs) : cs = [.int .i64 x.f0, .int .i64 x.f1, .int .i64 x.f2, .bool x.f3, .bool x.f4, .bool x.f5] := by
 obtain ⟨_, _, rfl, rfl, ⟨_, _, rfl, rfl, ⟨_, _, rfl, rfl, ⟨_, _, rfl, rfl, ⟨_, _, rfl, rfl, rfl⟩⟩⟩⟩⟩ := h
 exact rfl
theorem k165_mkM (w : World) (base : Nat) (ok : Nat → Prop) (x : S165) : k165.M w base ok x [.int .i64 x.f0, .int .i64 x.f1, .int .i64 x.f2, .bool x.f3, .bool x.f4, .bool x.f5] :=
 ⟨[.int .i64 x.f0], [.int .i64 x.f1, .int .i64 x.f2, .bool x.f3, .bool x.f4, .bool x.f5], rfl, rfl, ⟨[.int .i64 x.f1], [.int .i64 x.f2, .bool x.f3, .bool x.f4, .bool x.f5], rfl, rfl, ⟨[.int .i64 x.f2], [.bool x.f3, .bool x.f4, .bool x.f5], rfl, rfl, ⟨[.bool x.f3], [.bool x.f4, .bool x.f5], rfl, rfl, ⟨[.bool x.f4], [.bool x.f5], rfl, rfl, rfl⟩⟩⟩⟩⟩
theorem info165 : (Tryz.prog.info? 165).map (fun i => (i.zero, i.size, i.bytes)) = some (some (.agg #[.int .i64 0, .int .i64 0, .int .i64 0, .bool false, .bool false, .bool false]), 6, 32) := by kernel_rfl
def stO (st : List S165) : List S165 := st.reverse
theorem stO_len (st : List S165) : (stO st).length = st.length := by simp [stO]
theorem stO_cons (x : S165) (st : List S165) : stO (x :: st) = stO st ++ [x] := by simp [stO]
theorem stO_take (x : S165) (st : List S165) : (stO (x :: st)).take st.length = stO st := by rw [stO_cons, List.take_left' (stO_len st)]
theorem stO_at (x : S165) (st : List S165) : (stO (x :: st)).getD st.length z165 = x := by
 rw [stO_cons, List.getD, List.getElem?_append_right (by rw [stO_len]; exact Nat.le_refl _), stO_len, Nat.sub_self]; rfl
def outS (n : S69) (s : S165) : Bool := n.f1 == 0 && (s.f5 || (s.f3 && decide (n.f0 < s.f1)) || (s.f4 && decide (n.f0 ≥ s.f2)))
def lS (n : S69) (s : S165) : S165 := if n.f1 = 1 then ⟨n.f4, s.f1, s.f2, s.f3, s.f4, s.f5⟩ else if s.f4 = false ∨ n.f0 < s.f2 then ⟨n.f4, s.f1, n.f0, s.f3, true, s.f5⟩ else ⟨n.f4, s.f1, s.f2, s.f3, s.f4, s.f5⟩
def rS (n : S69) (s : S165) : S165 := if n.f1 = 1 then ⟨n.f5, s.f1, s.f2, s.f3, s.f4, true⟩ else if s.f3 = false ∨ n.f0 > s.f1 then ⟨n.f5, n.f0, s.f2, true, s.f4, s.f5⟩ else ⟨n.f5, s.f1, s.f2, s.f3, s.f4, s.f5⟩
def inO (t : List S69) : Nat → List S165 → Option Bool
 | 0, _ => none
 | _ + 1, [] => some true
 | k + 1, s :: st => if 0 ≤ s.f0 ∧ s.f0 < t.length ∧ st.length ≤ 1000000 then
   (if (t.getD s.f0.toNat z69).f4 = -1 then (if outS (t.getD s.f0.toNat z69) s = true then some false else inO t k st) else inO t k (rS (t.getD s.f0.toNat z69) s :: lS (t.getD s.f0.toNat z69) s :: st)) else none
theorem box6 {W : World} {g T : Nat} {a b c d e f : Value} (h : W.heap[g]? = some (.cells #[a, b, c, d, e, f] T (0, 0))) : W.cell? ⟨g, 0, none⟩ = some a ∧ W.cell? ⟨g, 1, none⟩ = some b ∧ W.cell? ⟨g, 2, none⟩ = some c ∧ W.cell? ⟨g, 3, none⟩ = some d ∧ W.cell? ⟨g, 4, none⟩ = some e ∧ W.cell? ⟨g, 5, none⟩ = some f ∧ W.frozen? ⟨g, 0, none⟩ = false ∧ W.frozen? ⟨g, 1, none⟩ = false ∧ W.frozen? ⟨g, 2, none⟩ = false ∧ W.frozen? ⟨g, 3, none⟩ = false ∧ W.frozen? ⟨g, 4, none⟩ = false ∧ W.frozen? ⟨g, 5, none⟩ = false :=
 ⟨(blk_cell h 0).trans rfl, (blk_cell h 1).trans rfl, (blk_cell h 2).trans rfl, (blk_cell h 3).trans rfl, (blk_cell h 4).trans rfl, (blk_cell h 5).trans rfl, blk_frozen h 0, blk_frozen h 1, blk_frozen h 2, blk_frozen h 3, blk_frozen h 4, blk_frozen h 5⟩
theorem el165 {W : World} {base g n cap : Nat} {ok : Nat → Prop} {xs : List S165} (h : Kd.R k165 165 W base ok (.slice (some ⟨g, 0, none⟩) n cap) xs) {i : Nat} (hi : i < n) {x : S165} (hx : xs.getD i z165 = x) : W.cell? ⟨g, i * 6, none⟩ = some (.int .i64 x.f0) ∧ W.cell? ⟨g, i * 6 + 1, none⟩ = some (.int .i64 x.f1) ∧ W.cell? ⟨g, i * 6 + 2, none⟩ = some (.int .i64 x.f2) ∧ W.cell? ⟨g, i * 6 + 3, none⟩ = some (.bool x.f3) ∧ W.cell? ⟨g, i * 6 + 4, none⟩ = some (.bool x.f4) ∧ W.cell? ⟨g, i * 6 + 5, none⟩ = some (.bool x.f5) := by
 obtain ⟨ce, hcl, hM, hcc, hfr⟩ := Kd.R_elem h z165 (i : Int) (by omega) (by omega)
 rw [Int.toNat_natCast, hx] at hM
 obtain rfl := k165_openM hM
 exact ⟨hcc 0 _ rfl, hcc 1 _ rfl, hcc 2 _ rfl, hcc 3 _ rfl, hcc 4 _ rfl, hcc 5 _ rfl⟩
theorem R_lit165 (W : World) (x : S165) : Kd.R k165 165 (W.alloc (.cells #[.int .i64 x.f0, .int .i64 x.f1, .int .i64 x.f2, .bool x.f3, .bool x.f4, .bool x.f5] 165)) W.heap.size (fun _ => True) (.slice (some ⟨W.heap.size, 0, none⟩) 1 1) [x] :=
 ⟨fun _ _ => trivial, [.int .i64 x.f0, .int .i64 x.f1, .int .i64 x.f2, .bool x.f3, .bool x.f4, .bool x.f5], World.ownsRow_lit W _ 1 (Nat.le_refl _) (by simp [maxLen]) (by rfl), (Reps.none (k165.M _ _ _) 6).snoc (k165_mkM _ _ _ x) rfl⟩
structure I4 (w2 : World) (gl gr : Nat) (cl cr : Array Value) (W : World) : Prop where
 b : Below w2.heap.size w2 W
 kl : W.heap[gl]? = some (.cells cl 165 (0, 0))
 kr : W.heap[gr]? = some (.cells cr 165 (0, 0))
 pl : w2.heap.size ≤ gl
 pr : w2.heap.size ≤ gr
 ne : gl ≠ gr
section
variable {w2 W W' : World} {gl gr : Nat} {cl cr : Array Value}
theorem I4.bel (h : I4 w2 gl gr cl cr W) (hb : Below W.heap.size W W') : I4 w2 gl gr cl cr W' := ⟨bel_t h.b hb, blkB hb h.kl, blkB hb h.kr, h.pl, h.pr, h.ne⟩
theorem I4.setl (h : I4 w2 gl gr cl cr W) (j : Nat) (v : Value) : I4 w2 gl gr (cl.setIfInBounds j v) cr (W.setCell ⟨gl, j, none⟩ v) := ⟨below_set h.b h.pl, blk_set h.kl j v, blk_far h.kr (p := ⟨gl, j, none⟩) (Ne.symm h.ne) v, h.pl, h.pr, h.ne⟩
theorem I4.setr (h : I4 w2 gl gr cl cr W) (j : Nat) (v : Value) : I4 w2 gl gr cl (cr.setIfInBounds j v) (W.setCell ⟨gr, j, none⟩ v) := ⟨below_set h.b h.pr, blk_far h.kl (p := ⟨gr, j, none⟩) h.ne v, blk_set h.kr j v, h.pl, h.pr, h.ne⟩
end
theorem lf_calls (n : S69) (w : World) : Calls Tryz.prog 109 #[.agg #[.int .i64 n.f0, .int .i64 n.f1, .int .i64 n.f2, .int .i64 n.f3, .int .i64 n.f4, .int .i64 n.f5]] w (RB w (.bool (n.f4 == -1))) := by
 have HB := Br w
 go_enter Tryz.func109, Tryz.ntmps109
 go_wp2_with (first | ((with_reducible refine Gd 1 rfl ?_); refine box_event ?hg (N := 1) ?hd (cs := #[.int .i64 n.f0, .int .i64 n.f1, .int .i64 n.f2, .int .i64 n.f3, .int .i64 n.f4, .int .i64 n.f5]) (t := 69) ?hr ?_; (case hd => rfl); (case hg => rfl); (case hr => first | (go_simp; done) | (go_simp; rfl)); intro gb hg_ w_gb hk_ hb_; have GX_gb := Am (Nat.le_of_eq hg_.symm); have GE_gb := Am (show w.heap.size ≤ gb from hg_ ▸ HB.out.size); have HK_gb := Am hk_; have HB_ := Am (bel_t HB.out hb_); have BB_gb := Am hb_; clear hg_ hk_ hb_ HB; have HB := HB_; clear HB_; obtain ⟨y0, y1, y2, y3, y4, y5, f0, f1, f2, f3, f4, f5⟩ := box6 HK_gb.out))
 go_ret
 exact ⟨rfl, HB.out⟩
@[reducible] def C165 (x : S165) : Array Value := #[.int .i64 x.f0, .int .i64 x.f1, .int .i64 x.f2, .bool x.f3, .bool x.f4, .bool x.f5]
theorem inOrder_calls (k : Nat) (A0 : Option Addr) (c0 : Nat) (t : List S69) (r : Bool) (w : World) (hr0 : Kd.C k69 w A0 t.length t) (hc0 : t.length ≤ c0) (h : inO t k [z165] = some r) :
  Calls Tryz.prog 58 #[.slice A0 t.length c0] w (RB w (.bool r)) := by
 have HR0 := Am hr0
 have HH := Am h
 have HB := Br w
 clear hr0 h
 go_enter Tryz.func58, Tryz.ntmps58
 go_wp2
 have HS : Aside0 (Kd.R k165 165 (w.alloc (.cells #[.int .i64 0, .int .i64 0, .int .i64 0, .bool false, .bool false, .bool false] 165)) w.heap.size (fun _ => True) (.slice (some ⟨w.heap.size, 0, none⟩) 1 1) (stO [z165])) := ⟨R_lit165 w z165⟩
 have HB1 := Am (ba HB.out (.cells #[.int .i64 0, .int .i64 0, .int .i64 0, .bool false, .bool false, .bool false] 165))
 generalize w.alloc (.cells #[.int .i64 0, .int .i64 0, .int .i64 0, .bool false, .bool false, .bool false] 165) = w1 at HS HB1 ⊢
 have HV : Aside0 (∃ v, v = (.slice (some ⟨w.heap.size, 0, none⟩) 1 1 : Value)) := ⟨_, rfl⟩
 go_loopg [3] k (fun kq v3 w' => ∃ (st : List S165), Aside0 (Kd.R k165 165 w' w.heap.size (fun _ => True) v3 (stO st)) ∧ Aside0 (Below w.heap.size w w') ∧ Aside0 (inO t kq st = some r))
 case atStart => exact ⟨[z165], HS, HB1, HH⟩
 case round =>
  clear HS HB1 HH HB HV
  obtain ⟨st, HS, HB, HH⟩ := hrel
  obtain ⟨kq1, rfl⟩ : ∃ x, gk = x + 1 := by
   cases gk with
   | zero => exact absurd HH.out (by simp [inO])
   | succ x => exact ⟨x, rfl⟩
  have hh := HH.out
  clear HH
  cases st with
  | nil =>
   rw [inO] at hh
   obtain rfl := Option.some.inj hh
   obtain ⟨A4, c4, rfl⟩ := Kd.R_slice HS.out
   rw [show (stO []).length = 0 from rfl]
   clear hh
   go_wp2
   go_ret
   exact ⟨rfl, HB.out⟩
  | cons s st =>
   rw [inO] at hh
   by_cases q : 0 ≤ s.f0 ∧ s.f0 < t.length ∧ st.length ≤ 1000000
   rotate_left
   ·rw [if_neg q] at hh; cases hh
   rw [if_pos q] at hh
   obtain ⟨j, hj⟩ : ∃ j : Nat, s.f0 = j := ⟨s.f0.toNat, by omega⟩
   obtain ⟨n, hn⟩ : ∃ n, t.getD j z69 = n := ⟨_, rfl⟩
   rw [hj, Int.toNat_natCast, hn] at hh
   have hlen : (stO (s :: st)).length = st.length + 1 := by rw [stO_len]; rfl
   obtain ⟨g4, c4, rfl, -, -, -⟩ := Kd.R_form HS.out (by rw [hlen]; omega)
   have hx := el165 HS.out (i := st.length) (by rw [hlen]; omega) (stO_at s st)
   rw [hj] at hx
   obtain ⟨hx0, hx1, hx2, hx3, hx4, hx5⟩ := hx
   obtain ⟨s0, s1, s2, s3, s4, s5⟩ := s
   dsimp only at hj hx0 hx1 hx2 hx3 hx4 hx5 q
   subst hj
   obtain ⟨ad, ead, hz⟩ := rd_cells HR0.out (show j < t.length by omega)
   rw [hn] at hz
   have HZ := Am hz
   cases ead
   have hw : wrap64 (((stO (⟨(j : Int), s1, s2, s3, s4, s5⟩ :: st)).length : Int) - 1) = ((st.length : Nat) : Int) := by rw [hlen, Go.IntWalk.wrap64_in _ (by omega)]; omega
   obtain ⟨i165, hi165, _, hsz, _⟩ := info_parts info165
   have hcut := cut_to (P := Tryz.prog) 166 165 .i64 Tryz.underlying166 hi165 (some ⟨g4, 0, none⟩) (stO (⟨(j : Int), s1, s2, s3, s4, s5⟩ :: st)).length c4 (st.length : Int) (by omega) (by omega) (Kd.R_reads' HS.out).2.1
   have hS2 := Kd.R_take (m := st.length) HS.out (by omega)
   rw [stO_take] at hS2
   have HS2 := Am hS2
   have HL := Am q.2.2
   have HJ := Am (show j < t.length by omega)
   have HHH := Am hh
   have p1 : decide (((stO (⟨(j : Int), s1, s2, s3, s4, s5⟩ :: st)).length : Int) > 0) = true := decide_eq_true (by omega)
   have p2 : decide (0 < ((stO (⟨(j : Int), s1, s2, s3, s4, s5⟩ :: st)).length : Int)) = true := decide_eq_true (by omega)
   have p3 : decide (0 < (stO (⟨(j : Int), s1, s2, s3, s4, s5⟩ :: st)).length) = true := decide_eq_true (by omega)
   have p4 : (0 ≤ (st.length : Int)) = True := eq_true (by omega)
   have p5 : ((st.length : Int) < ((stO (⟨(j : Int), s1, s2, s3, s4, s5⟩ :: st)).length : Int)) = True := eq_true (by omega)
   have p6 : ((st.length : Int) ≤ ((stO (⟨(j : Int), s1, s2, s3, s4, s5⟩ :: st)).length : Int)) = True := eq_true (by omega)
   have p7 : (0 ≤ (j : Int)) = True := eq_true (by omega)
   have p8 : ((j : Int) < (t.length : Int)) = True := eq_true (by omega)
   clear hh hn q hS2 hlen HS hz
   generalize (stO (⟨(j : Int), s1, s2, s3, s4, s5⟩ :: st)).length = L at hw hcut p1 p2 p3 p5 p6 ⊢
   go_wp2_with (first | ((with_reducible refine Gd 4 rfl ?_); refine box_event ?hg (N := 4) ?hd (cs := #[.int .i64 0, .int .i64 0, .int .i64 0, .bool false, .bool false, .bool false]) (t := 165) ?hr ?_; (case hd => rfl); (case hg => rfl); (case hr => first | (go_simp; done) | (go_simp; rfl)); intro gs hg_ w_gs hk_ hb_; have GX_gs := Am (Nat.le_of_eq hg_.symm); have GE_gs := Am (show w.heap.size ≤ gs from hg_ ▸ HB.out.size); have HK_gs := Am hk_; have HB_ := Am (bel_t HB.out hb_); have BB_gs := Am hb_; clear hg_ hk_ hb_ HB; have HB := HB_; clear HB_; obtain ⟨y0, y1, y2, y3, y4, y5, f0, f1, f2, f3, f4, f5⟩ := box6 HK_gs.out) | ((with_reducible refine Gd 26 rfl ?_); refine gen_l (fun W => W.heap[gs]? = some (.cells #[.int .i64 (j : Int), .int .i64 s1, .int .i64 s2, .bool s3, .bool s4, .bool s5] 165 (0, 0)) ∧ Kd.R k165 165 W w.heap.size (fun _ => True) (.slice (some ⟨g4, 0, none⟩) st.length c4) (stO st) ∧ Below w.heap.size w W) ⟨(blk_set (blk_set (blk_set (blk_set (blk_set (blk_set HK_gs.out 0 (.int .i64 (j : Int))) 1 (.int .i64 s1)) 2 (.int .i64 s2)) 3 (.bool s3)) 4 (.bool s4)) 5 (.bool s5)), Kd.R_below HS2.out (below_set (below_set (below_set (below_set (below_set (below_set BB_gs.out GX_gs.out (j := 0) (v := .int .i64 (j : Int))) GX_gs.out (j := 1) (v := .int .i64 s1)) GX_gs.out (j := 2) (v := .int .i64 s2)) GX_gs.out (j := 3) (v := .bool s3)) GX_gs.out (j := 4) (v := .bool s4)) GX_gs.out (j := 5) (v := .bool s5)), (below_set (below_set (below_set (below_set (below_set (below_set HB.out GE_gs.out (j := 0) (v := .int .i64 (j : Int))) GE_gs.out (j := 1) (v := .int .i64 s1)) GE_gs.out (j := 2) (v := .int .i64 s2)) GE_gs.out (j := 3) (v := .bool s3)) GE_gs.out (j := 4) (v := .bool s4)) GE_gs.out (j := 5) (v := .bool s5))⟩ (fun w3 hq => ?_); have HKS0 := Am hq.1; have HSA := Am hq.2.1; have HBA := Am hq.2.2; clear hq y0 y1 y2 y3 y4 y5 f0 f1 f2 f3 f4 f5 HS2 HB BB_gs HK_gs hx0 hx1 hx2 hx3 hx4 hx5; obtain ⟨x0, x1, x2, x3, x4, x5, -⟩ := box6 HKS0.out; obtain ⟨z0, z1, z2, z3, z4, z5⟩ := HZ.out _ HBA.out) | ((with_reducible refine Gd 5 rfl ?_); refine box_event ?hg (N := 5) ?hd (cs := #[.int .i64 0, .int .i64 0, .int .i64 0, .int .i64 0, .int .i64 0, .int .i64 0]) (t := 69) ?hr ?_; (case hd => rfl); (case hg => rfl); (case hr => first | (go_simp; done) | (go_simp; rfl)); intro gn hg_ w_gn hk_ hb_; have GX_gn := Am (Nat.le_of_eq hg_.symm); have GE_gn := Am (show w.heap.size ≤ gn from hg_ ▸ HBA.out.size); have HK_gn := Am hk_; have HB_ := Am (bel_t HBA.out hb_); have BB_gn := Am hb_; clear hg_ hk_ hb_ HBA; have HBA := HB_; clear HB_; clear z0 z1 z2 z3 z4 z5 x0 x1 x2 x3 x4 x5; obtain ⟨y0, y1, y2, y3, y4, y5, f0, f1, f2, f3, f4, f5⟩ := box6 HK_gn.out) | ((with_reducible refine Gd 29 rfl ?_); refine gen_l (fun W => W.heap[gs]? = some (.cells #[.int .i64 (j : Int), .int .i64 s1, .int .i64 s2, .bool s3, .bool s4, .bool s5] 165 (0, 0)) ∧ W.heap[gn]? = some (.cells #[.int .i64 n.f0, .int .i64 n.f1, .int .i64 n.f2, .int .i64 n.f3, .int .i64 n.f4, .int .i64 n.f5] 69 (0, 0)) ∧ Kd.R k165 165 W w.heap.size (fun _ => True) (.slice (some ⟨g4, 0, none⟩) st.length c4) (stO st) ∧ Below w.heap.size w W) ⟨blkB (below_set (below_set (below_set (below_set (below_set (below_set BB_gn.out GX_gn.out (j := 0) (v := .int .i64 n.f0)) GX_gn.out (j := 1) (v := .int .i64 n.f1)) GX_gn.out (j := 2) (v := .int .i64 n.f2)) GX_gn.out (j := 3) (v := .int .i64 n.f3)) GX_gn.out (j := 4) (v := .int .i64 n.f4)) GX_gn.out (j := 5) (v := .int .i64 n.f5)) HKS0.out, (blk_set (blk_set (blk_set (blk_set (blk_set (blk_set HK_gn.out 0 (.int .i64 n.f0)) 1 (.int .i64 n.f1)) 2 (.int .i64 n.f2)) 3 (.int .i64 n.f3)) 4 (.int .i64 n.f4)) 5 (.int .i64 n.f5)), Kd.R_below HSA.out (below_set (below_set (below_set (below_set (below_set (below_set BB_gn.out GX_gn.out (j := 0) (v := .int .i64 n.f0)) GX_gn.out (j := 1) (v := .int .i64 n.f1)) GX_gn.out (j := 2) (v := .int .i64 n.f2)) GX_gn.out (j := 3) (v := .int .i64 n.f3)) GX_gn.out (j := 4) (v := .int .i64 n.f4)) GX_gn.out (j := 5) (v := .int .i64 n.f5)), (below_set (below_set (below_set (below_set (below_set (below_set HBA.out GE_gn.out (j := 0) (v := .int .i64 n.f0)) GE_gn.out (j := 1) (v := .int .i64 n.f1)) GE_gn.out (j := 2) (v := .int .i64 n.f2)) GE_gn.out (j := 3) (v := .int .i64 n.f3)) GE_gn.out (j := 4) (v := .int .i64 n.f4)) GE_gn.out (j := 5) (v := .int .i64 n.f5))⟩ (fun w4 hq => ?_); have HKS := Am hq.1; have HKN := Am hq.2.1; have HSB := Am hq.2.2.1; have HB2 := Am hq.2.2.2; clear hq y0 y1 y2 y3 y4 y5 f0 f1 f2 f3 f4 f5 HSA HBA BB_gn HK_gn HKS0; obtain ⟨z0, z1, z2, z3, z4, z5, -⟩ := box6 HKN.out; obtain ⟨x0, x1, x2, x3, x4, x5, -⟩ := box6 HKS.out))
   refine (lf_calls n _).mono ?_
   rintro _ w7 ⟨rfl, hb7⟩
   have HB7 := Am (bel_t HB2.out hb7)
   have HS7 := Am (Kd.R_below HSB.out hb7)
   have HKS7 := Am (blkB hb7 HKS.out)
   have HKN7 := Am (blkB hb7 HKN.out)
   clear hb7 HSB HB2 HKS HKN x0 x1 x2 x3 x4 x5 hcut hw p1 p2 p3 p4 p5 p6 p7 p8
   try clear z0 z1 z2 z3 z4 z5
   obtain ⟨x0, x1, x2, x3, x4, x5, -⟩ := box6 HKS7.out
   obtain ⟨z0, z1, z2, z3, z4, z5, -⟩ := box6 HKN7.out
   have hh := HHH.out
   cases qf : (n.f4 == -1) with
   | true =>
    rw [if_pos (by simpa using qf)] at hh
    have HO := Am hh
    clear hh HHH
    cases h1 : (n.f1 == 0) with
    | false =>
     have ho := HO.out
     rw [if_neg (by simp [outS, h1])] at ho
     exact dd32
    | true =>
     cases s5 with
     | true =>
      have ho := HO.out
      rw [if_pos (by simp [outS, h1])] at ho
      exact dd49
     | false =>
      cases s3 with
      | false =>
       cases s4 with
       | false =>
        have ho := HO.out
        rw [if_neg (by simp [outS, h1])] at ho
        exact dd32
       | true =>
        cases h4 : decide (n.f0 ≥ s2) with
        | false =>
         have ho := HO.out
         rw [if_neg (by simp [outS, h1, of_decide_eq_false h4])] at ho
         exact dd32
        | true =>
         have ho := HO.out
         rw [if_pos (by simp [outS, h1, of_decide_eq_true h4])] at ho
         exact dd49
      | true =>
       cases h3 : decide (n.f0 < s1) with
       | true =>
        have ho := HO.out
        rw [if_pos (by simp [outS, h1, of_decide_eq_true h3])] at ho
        exact dd49
       | false =>
        cases s4 with
        | false =>
         have ho := HO.out
         rw [if_neg (by simp [outS, h1, of_decide_eq_false h3])] at ho
         exact dd32
        | true =>
         cases h4 : decide (n.f0 ≥ s2) with
         | false =>
          have ho := HO.out
          rw [if_neg (by simp [outS, h1, of_decide_eq_false h3, of_decide_eq_false h4])] at ho
          exact dd32
         | true =>
          have ho := HO.out
          rw [if_pos (by simp [outS, h1, of_decide_eq_false h3, of_decide_eq_true h4])] at ho
          exact dd49
   | false =>
    rw [if_neg (by simpa using qf)] at hh
    have HO := Am hh
    clear hh HHH
    clear x0 x1 x2 x3 x4 x5 z0 z1 z2 z3 z4 z5
    go_wp2
    refine sT 6 [5] (S := fun W => Below w7.heap.size w7 W) ((Below.refl _ _).drew) fun hHeld => ?_
    refine gen_any (fun W => Below w7.heap.size w7 W) hHeld (fun w8 hHeld => ?_)
    rename_i hHeld0
    clear hHeld0
    have hB8 := hHeld
    refine ta 0 60 hHeld (hy := by intro w' hs; obtain ⟨x0, x1, x2, x3, x4, x5, -⟩ := box6 (blkB hs HKS7.out); exact gz) ?_
    refine ta 1 61 hHeld (hy := by intro w' hs; obtain ⟨x0, x1, x2, x3, x4, x5, -⟩ := box6 (blkB hs HKS7.out); exact gz) ?_
    refine join_ (σ := Nat × Nat) 2 #[true, true, true, true, false, false] (fun s => [(6, .pointer (some ⟨s.1, 0, none⟩)), (7, .pointer (some ⟨s.2, 0, none⟩))]) (fun s w' => I4 w7 s.1 s.2 #[.int .i64 0, .int .i64 0, .int .i64 0, .bool false, .bool false, .bool false] #[.int .i64 0, .int .i64 0, .int .i64 0, .bool false, .bool false, .bool false] w') ?_ ?_
    rotate_left
    ·intro hCont
     refine two_ (i := 2) (j := 3) (Ni := some 6) (Nj := some 7) #[true, true, true, false, false, false] #[true, true, false, true, false, false] rfl rfl rfl rfl (by kernel_rfl) (by decide) (by decide) (fun K hK => ?_) (fun K hK => ?_)
     ·refine box_step (by rfl) (N := 6) rfl (cs := #[.int .i64 0, .int .i64 0, .int .i64 0, .bool false, .bool false, .bool false]) (t := 165) ?hr ?_
      case hr => first | (go_simp; done) | (go_simp; rfl)
      intro gl hgl wA kgl bgl
      refine hK.out _ _ (bel_t hHeld bgl) (fun hHeld => ?_)
      clear hK K
      refine nm 6 ?_
      refine on 3 7 fun K hK => ?_
      refine box_step (by rfl) (N := 7) rfl (cs := #[.int .i64 0, .int .i64 0, .int .i64 0, .bool false, .bool false, .bool false]) (t := 165) ?hr ?_
      case hr => first | (go_simp; done) | (go_simp; rfl)
      intro gr hgr wB kgr bgr
      refine hK.out _ _ (bel_t hHeld bgr) (fun hHeld => ?_)
      clear hK K
      refine nm 7 ?_
      have hlt := blk_lt kgl
      have hsz := hB8.size
      have hsz2 := bgl.size
      exact norm_ (by simp only [putAll, Act.put, sI, sZ, sS]) (hCont (gl, gr) _ ⟨bel_t (bel_t hB8 bgl) bgr, blkB bgr kgl, kgr, by omega, by omega, by omega⟩)
     ·refine box_step (by rfl) (N := 7) rfl (cs := #[.int .i64 0, .int .i64 0, .int .i64 0, .bool false, .bool false, .bool false]) (t := 165) ?hr ?_
      case hr => first | (go_simp; done) | (go_simp; rfl)
      intro gr hgr wA kgr bgr
      refine hK.out _ _ (bel_t hHeld bgr) (fun hHeld => ?_)
      clear hK K
      refine nm 7 ?_
      refine on 2 6 fun K hK => ?_
      refine box_step (by rfl) (N := 6) rfl (cs := #[.int .i64 0, .int .i64 0, .int .i64 0, .bool false, .bool false, .bool false]) (t := 165) ?hr ?_
      case hr => first | (go_simp; done) | (go_simp; rfl)
      intro gl hgl wB kgl bgl
      refine hK.out _ _ (bel_t hHeld bgl) (fun hHeld => ?_)
      clear hK K
      refine nm 6 ?_
      have hlt := blk_lt kgr
      have hsz := hB8.size
      have hsz2 := bgr.size
      exact norm_ (by simp only [putAll, Act.put, sI, sZ, sS]) (hCont (gl, gr) _ ⟨bel_t (bel_t hB8 bgr) bgl, kgl, blkB bgl kgr, by omega, by omega, by omega⟩)
    rintro ⟨gl, gr⟩ w9 hI
    replace hI : I4 w7 gl gr (#[.int .i64 0, .int .i64 0, .int .i64 0, .bool false, .bool false, .bool false]) (#[.int .i64 0, .int .i64 0, .int .i64 0, .bool false, .bool false, .bool false]) w9 := hI
    obtain ⟨y0, y1, y2, y3, y4, y5, f0, f1, f2, f3, f4, f5⟩ := box6 hI.kl
    have HI := Am hI
    clear hI
    refine norm_ (a' := ?_) ?_ ?_
    rotate_left
    ·simp only [putAll, Act.put, sI, sZ, sS]
     rfl
    refine on0 4 (fun K hK => ?_)
    refine sk ?_
    have hI : I4 w7 gl gr (#[.int .i64 (j : Int), .int .i64 s1, .int .i64 s2, .bool s3, .bool s4, .bool s5]) (#[.int .i64 0, .int .i64 0, .int .i64 0, .bool false, .bool false, .bool false]) _ := ((((((HI.out.setl 0 (.int .i64 (j : Int))).setl 1 (.int .i64 s1)).setl 2 (.int .i64 s2)).setl 3 (.bool s3)).setl 4 (.bool s4)).setl 5 (.bool s5))
    refine hK.out _ _ hI.b (fun hHeld => ?_)
    clear hK K y0 y1 y2 y3 y4 y5 f0 f1 f2 f3 f4 f5 HI hHeld
    refine gen_any (fun W => I4 w7 gl gr (#[.int .i64 (j : Int), .int .i64 s1, .int .i64 s2, .bool s3, .bool s4, .bool s5]) (#[.int .i64 0, .int .i64 0, .int .i64 0, .bool false, .bool false, .bool false]) W) hI (fun w10 hI => ?_)
    obtain ⟨y0, y1, y2, y3, y4, y5, f0, f1, f2, f3, f4, f5⟩ := box6 hI.kr
    have HI := Am hI
    clear hI
    refine la0 5 (fun K hK => ?_)
    refine sk ?_
    have hI : I4 w7 gl gr (#[.int .i64 (j : Int), .int .i64 s1, .int .i64 s2, .bool s3, .bool s4, .bool s5]) (#[.int .i64 (j : Int), .int .i64 s1, .int .i64 s2, .bool s3, .bool s4, .bool s5]) _ := ((((((HI.out.setr 0 (.int .i64 (j : Int))).setr 1 (.int .i64 s1)).setr 2 (.int .i64 s2)).setr 3 (.bool s3)).setr 4 (.bool s4)).setr 5 (.bool s5))
    refine hK.out _ _ ?_
    clear hK K y0 y1 y2 y3 y4 y5 f0 f1 f2 f3 f4 f5 HI
    refine done_ (by kernel_rfl) ?_
    refine gen_q (fun W => I4 w7 gl gr (#[.int .i64 (j : Int), .int .i64 s1, .int .i64 s2, .bool s3, .bool s4, .bool s5]) (#[.int .i64 (j : Int), .int .i64 s1, .int .i64 s2, .bool s3, .bool s4, .bool s5]) W) hI (fun w11 hI => ?_)
    have HI := Am hI
    clear hI hB8
    go_wp2
    refine sT 8 [7] (S := fun W => Below w7.heap.size w7 W) (bel_t HI.out.b ((Below.refl _ _).drew)) fun hHeld => ?_
    refine gen_any (fun W => I4 w7 gl gr (#[.int .i64 (j : Int), .int .i64 s1, .int .i64 s2, .bool s3, .bool s4, .bool s5]) (#[.int .i64 (j : Int), .int .i64 s1, .int .i64 s2, .bool s3, .bool s4, .bool s5]) W) (HI.out.bel ((Below.refl _ _).drew)) (fun w12 hI => ?_)
    clear hHeld HI
    have hHeld := hI.b
    have HI := Am hI
    clear hI
    refine pu 0 62 ?_
    refine ta 1 63 hHeld (hy := by intro w' hs; obtain ⟨z0, z1, z2, z3, z4, z5, -⟩ := box6 (blkB hs HKN7.out); exact gz) ?_
    refine pu 2 64 ?_
    refine ta 3 65 hHeld (hy := by intro w' hs; obtain ⟨z0, z1, z2, z3, z4, z5, -⟩ := box6 (blkB hs HKN7.out); exact gz) ?_
    refine pu 4 66 ?_
    obtain ⟨y0, y1, y2, y3, y4, y5, f0, f1, f2, f3, f4, f5⟩ := box6 HI.out.kl
    refine on0 5 (fun K hK => ?_)
    refine sk ?_
    have hI : I4 w7 gl gr (#[.int .i64 n.f4, .int .i64 s1, .int .i64 s2, .bool s3, .bool s4, .bool s5]) (#[.int .i64 (j : Int), .int .i64 s1, .int .i64 s2, .bool s3, .bool s4, .bool s5]) _ := (HI.out.setl 0 (.int .i64 n.f4))
    refine hK.out _ _ hI.b (fun hHeld => ?_)
    clear hK K y0 y1 y2 y3 y4 y5 f0 f1 f2 f3 f4 f5 HI hHeld
    refine gen_any (fun W => I4 w7 gl gr (#[.int .i64 n.f4, .int .i64 s1, .int .i64 s2, .bool s3, .bool s4, .bool s5]) (#[.int .i64 (j : Int), .int .i64 s1, .int .i64 s2, .bool s3, .bool s4, .bool s5]) W) hI (fun w13 hI => ?_)
    refine pu 6 67 ?_
    obtain ⟨y0, y1, y2, y3, y4, y5, f0, f1, f2, f3, f4, f5⟩ := box6 hI.kr
    have HI := Am hI
    clear hI
    refine la0 7 (fun K hK => ?_)
    refine sk ?_
    have hI : I4 w7 gl gr (#[.int .i64 n.f4, .int .i64 s1, .int .i64 s2, .bool s3, .bool s4, .bool s5]) (#[.int .i64 n.f5, .int .i64 s1, .int .i64 s2, .bool s3, .bool s4, .bool s5]) _ := (HI.out.setr 0 (.int .i64 n.f5))
    refine hK.out _ _ ?_
    clear hK K y0 y1 y2 y3 y4 y5 f0 f1 f2 f3 f4 f5 HI
    refine done_ (by kernel_rfl) ?_
    obtain ⟨X, hX⟩ : ∃ Z : S165, Z = ⟨n.f4, s1, s2, s3, s4, s5⟩ := ⟨_, rfl⟩
    obtain ⟨Y, hY⟩ : ∃ Z : S165, Z = ⟨n.f5, s1, s2, s3, s4, s5⟩ := ⟨_, rfl⟩
    refine gen_q (fun W => I4 w7 gl gr (C165 X) (C165 Y) W) (by subst hX hY; exact hI) (fun w14 hI => ?_)
    have HI := Am hI
    have HX := Am hX
    have HY := Am hY
    clear hI hX hY
    have hne : ¬ (gl = gr) := HI.out.ne
    have hne2 : ¬ (gr = gl) := fun e => hne e.symm
    have hbw := HI.out.b
    obtain ⟨z0, z1, z2, z3, z4, z5, -⟩ := box6 (blkB hbw HKN7.out)
    obtain ⟨y0, y1, y2, y3, y4, y5, f0, f1, f2, f3, f4, f5⟩ := box6 HI.out.kl
    obtain ⟨v0, v1, v2, v3, v4, v5, e0, e1, e2, e3, e4, e5⟩ := box6 HI.out.kr
    clear hbw
    cases h1 : (n.f1 == 1) with
    | true =>
     have hn1 : n.f1 = 1 := by simpa using h1
     have HU : Aside0 (X = lS n ⟨(j : Int), s1, s2, s3, s4, s5⟩) := ⟨by rw [lS, if_pos hn1]; exact HX.out⟩
     obtain ⟨Y, hQ⟩ : ∃ Z : S165, Z = ⟨Y.f0, Y.f1, Y.f2, Y.f3, Y.f4, true⟩ := ⟨_, rfl⟩
     have HV : Aside0 (Y = rS n ⟨(j : Int), s1, s2, s3, s4, s5⟩) := ⟨by rw [rS, if_pos hn1, hQ, HY.out]⟩
     have HQ := Am hQ
     clear hQ
     exact dd95
    | false =>
     have hn1 : ¬ n.f1 = 1 := by simpa using h1
     cases h4 : X.f4 with
     | false =>
      rw [h4] at y4
      go_wp2
      clear y0 y1 y2 y3 y4 y5 f0 f1 f2 f3 f4 f5 v0 v1 v2 v3 v4 v5 e0 e1 e2 e3 e4 e5 z0 z1 z2 z3 z4 z5
      refine sT 6 [5] (S := fun W => Below w7.heap.size w7 W) (bel_t HI.out.b ((Below.refl _ _).drew)) fun hHeld => ?_
      clear hHeld
      refine gen_any (fun W => I4 w7 gl gr (C165 X) (C165 Y) W) (HI.out.bel ((Below.refl _ _).drew)) (fun w30 hI => ?_)
      clear HI
      have hHeld := hI.b
      have HI := Am hI
      clear hI
      refine pu 0 82 ?_
      refine ta 1 83 hHeld (hy := by intro w' hs; obtain ⟨z0, z1, z2, z3, z4, z5, -⟩ := box6 (blkB hs HKN7.out); exact gz) ?_
      refine pu 2 84 ?_
      obtain ⟨y0, y1, y2, y3, y4, y5, f0, f1, f2, f3, f4, f5⟩ := box6 HI.out.kl
      refine on0 3 (fun K hK => ?_)
      refine sk ?_
      have hI : I4 w7 gl gr (C165 ⟨X.f0, X.f1, X.f2, X.f3, true, X.f5⟩) (C165 Y) _ := HI.out.setl 4 (.bool true)
      refine hK.out _ _ hI.b (fun hHeld => ?_)
      clear hK K y0 y1 y2 y3 y4 y5 f0 f1 f2 f3 f4 f5 HI hHeld
      refine gen_any (fun W => I4 w7 gl gr (C165 ⟨X.f0, X.f1, X.f2, X.f3, true, X.f5⟩) (C165 Y) W) hI (fun w31 hI => ?_)
      refine pu 4 85 ?_
      obtain ⟨y0, y1, y2, y3, y4, y5, f0, f1, f2, f3, f4, f5⟩ := box6 hI.kl
      have HI := Am hI
      clear hI
      refine la0 5 (fun K hK => ?_)
      refine sk ?_
      have hI : I4 w7 gl gr (C165 ⟨X.f0, X.f1, n.f0, X.f3, true, X.f5⟩) (C165 Y) _ := HI.out.setl 2 (.int .i64 n.f0)
      refine hK.out _ _ ?_
      clear hK K y0 y1 y2 y3 y4 y5 f0 f1 f2 f3 f4 f5 HI
      refine done_ (by kernel_rfl) ?_
      obtain ⟨Z, hZ⟩ : ∃ Z : S165, Z = ⟨X.f0, X.f1, n.f0, X.f3, true, X.f5⟩ := ⟨_, rfl⟩
      refine gen_q (fun W => I4 w7 gl gr (C165 Z) (C165 Y) W) (by rw [hZ]; exact hI) (fun w32 hI => ?_)
      have HI := Am hI
      clear hI
      have hbw := HI.out.b
      obtain ⟨z0, z1, z2, z3, z4, z5, -⟩ := box6 (blkB hbw HKN7.out)
      obtain ⟨y0, y1, y2, y3, y4, y5, f0, f1, f2, f3, f4, f5⟩ := box6 HI.out.kl
      obtain ⟨v0, v1, v2, v3, v4, v5, e0, e1, e2, e3, e4, e5⟩ := box6 HI.out.kr
      clear hbw
      have HU : Aside0 (Z = lS n ⟨(j : Int), s1, s2, s3, s4, s5⟩) := ⟨by have e := HX.out; subst hZ e; rw [lS, if_neg hn1, if_pos (.inl h4)]⟩
      clear hZ HX h4
      obtain ⟨X, rfl⟩ : ∃ A, A = Z := ⟨_, rfl⟩
      exact dd0
     | true =>
      rw [h4] at y4
      cases h5 : decide (n.f0 < X.f2) with
      | true =>
       go_wp2
       clear y0 y1 y2 y3 y4 y5 f0 f1 f2 f3 f4 f5 v0 v1 v2 v3 v4 v5 e0 e1 e2 e3 e4 e5 z0 z1 z2 z3 z4 z5
       refine sT 6 [5] (S := fun W => Below w7.heap.size w7 W) (bel_t HI.out.b ((Below.refl _ _).drew)) fun hHeld => ?_
       clear hHeld
       refine gen_any (fun W => I4 w7 gl gr (C165 X) (C165 Y) W) (HI.out.bel ((Below.refl _ _).drew)) (fun w30 hI => ?_)
       clear HI
       have hHeld := hI.b
       have HI := Am hI
       clear hI
       refine pu 0 82 ?_
       refine ta 1 83 hHeld (hy := by intro w' hs; obtain ⟨z0, z1, z2, z3, z4, z5, -⟩ := box6 (blkB hs HKN7.out); exact gz) ?_
       refine pu 2 84 ?_
       obtain ⟨y0, y1, y2, y3, y4, y5, f0, f1, f2, f3, f4, f5⟩ := box6 HI.out.kl
       refine on0 3 (fun K hK => ?_)
       refine sk ?_
       have hI : I4 w7 gl gr (C165 ⟨X.f0, X.f1, X.f2, X.f3, true, X.f5⟩) (C165 Y) _ := HI.out.setl 4 (.bool true)
       refine hK.out _ _ hI.b (fun hHeld => ?_)
       clear hK K y0 y1 y2 y3 y4 y5 f0 f1 f2 f3 f4 f5 HI hHeld
       refine gen_any (fun W => I4 w7 gl gr (C165 ⟨X.f0, X.f1, X.f2, X.f3, true, X.f5⟩) (C165 Y) W) hI (fun w31 hI => ?_)
       refine pu 4 85 ?_
       obtain ⟨y0, y1, y2, y3, y4, y5, f0, f1, f2, f3, f4, f5⟩ := box6 hI.kl
       have HI := Am hI
       clear hI
       refine la0 5 (fun K hK => ?_)
       refine sk ?_
       have hI : I4 w7 gl gr (C165 ⟨X.f0, X.f1, n.f0, X.f3, true, X.f5⟩) (C165 Y) _ := HI.out.setl 2 (.int .i64 n.f0)
       refine hK.out _ _ ?_
       clear hK K y0 y1 y2 y3 y4 y5 f0 f1 f2 f3 f4 f5 HI
       refine done_ (by kernel_rfl) ?_
       obtain ⟨Z, hZ⟩ : ∃ Z : S165, Z = ⟨X.f0, X.f1, n.f0, X.f3, true, X.f5⟩ := ⟨_, rfl⟩
       refine gen_q (fun W => I4 w7 gl gr (C165 Z) (C165 Y) W) (by rw [hZ]; exact hI) (fun w32 hI => ?_)
       have HI := Am hI
       clear hI
       have hbw := HI.out.b
       obtain ⟨z0, z1, z2, z3, z4, z5, -⟩ := box6 (blkB hbw HKN7.out)
       obtain ⟨y0, y1, y2, y3, y4, y5, f0, f1, f2, f3, f4, f5⟩ := box6 HI.out.kl
       obtain ⟨v0, v1, v2, v3, v4, v5, e0, e1, e2, e3, e4, e5⟩ := box6 HI.out.kr
       clear hbw
       have HU : Aside0 (Z = lS n ⟨(j : Int), s1, s2, s3, s4, s5⟩) := ⟨by have e := HX.out; subst hZ e; rw [lS, if_neg hn1, if_pos (.inr (of_decide_eq_true h5))]⟩
       clear hZ HX h4 h5
       obtain ⟨X, rfl⟩ : ∃ A, A = Z := ⟨_, rfl⟩
       exact dd0
      | false =>
       have HU : Aside0 (X = lS n ⟨(j : Int), s1, s2, s3, s4, s5⟩) := ⟨by
        have h6 := of_decide_eq_false h5
        have e := HX.out
        subst e
        rw [lS, if_neg hn1, if_neg (fun e => e.elim (fun e => by rw [show _ = true from h4] at e; cases e) h6)]⟩
       clear HX
       exact dd0
end
section
open Go.Proofs.YtaabbaemfnecgaaGreat.V
def isInf (a : ByteArray) (i : Int) : Bool := decide (i + 3 ≤ (a.size : Int)) && ((a.extract i.toNat (i + 3).toNat).toList == [105, 110, 102])
def colon (a : ByteArray) (i : Int) : Bool := decide (0 ≤ i) && (decide (i < (a.size : Int)) && bt a i == 58)
def larchref16_opened.f (k : Nat) (a : ByteArray) (i : Int) : Option (Int × Int × Int × Int × Int × Int × Int) :=
 if 0 ≤ i ∧ i + 4 ≤ (a.size : Int) ∧ a.size ≤ 1000000 ∧ bt a i = 40 then
  (if isInf a (i + 1) = true then some (0, 1, i + 4) else (larchref16_number.f k a (i + 1)).bind fun q => some (q.1, 0, q.2)).bind fun h =>
  if colon a h.2.2 = true then (larchref16_number.f k a (h.2.2 + 1)).bind fun r => if 0 ≤ r.2 ∧ 0 ≤ r.1 ∧ r.1 ≤ 1000000 then some (h.1, h.2.1, r.1, 0, -1, -1, r.2) else none else none
 else none
theorem op_facts {n i x : Nat} (h1 : i < n) (h2 : n ≤ 1000000) (h3 : x < n) : ∃ j l y : Nat, (i : Int) + 1 = j ∧ (i : Int) + 4 = l ∧ (x : Int) + 1 = y ∧ wrap64 ((i : Int) + 1) = (j : Int) ∧ wrap64 ((j : Int) + 3) = (l : Int) ∧ wrap64 ((x : Int) + 1) = (y : Int) ∧ j ≤ l ∧ ((j : Int) + 3).toNat = l :=
 ⟨i + 1, i + 4, x + 1, by omega, by omega, by omega, by rw [Go.IntWalk.wrap64_in _ (by omega)]; omega, by rw [Go.IntWalk.wrap64_in _ (by omega)]; omega, by rw [Go.IntWalk.wrap64_in _ (by omega)]; omega, by omega, by omega⟩
theorem larchref16_opened.calls (k : Nat) (a0 : ByteArray) (a1 : Int) (r1 : Int) (r2 : Int) (r3 : Int) (r4 : Int) (r5 : Int) (r6 : Int) (r7 : Int) (w : World) (h : larchref16_opened.f k a0 a1 = some (r1, r2, r3, r4, r5, r6, r7)) :
  Calls Tryz.prog 146 #[.string a0, .int .i64 a1] w (RB w (.tuple #[.agg #[.int .i64 r1, .int .i64 r2, .int .i64 r3, .int .i64 r4, .int .i64 r5, .int .i64 r6], .int .i64 r7])) := by
 unfold larchref16_opened.f at h
 split at h
 rotate_left
 ·cases h
 rename_i q
 obtain ⟨⟨ky, nf, e⟩, hH, h⟩ := Option.bind_eq_some_iff.mp h
 dsimp only at h
 by_cases qc : colon a0 e = true
 rotate_left
 ·rw [if_neg qc] at h; cases h
 rw [if_pos qc] at h
 obtain ⟨⟨wt, e2⟩, hN2, h⟩ := Option.bind_eq_some_iff.mp h
 dsimp only at h
 by_cases q2 : 0 ≤ e2 ∧ 0 ≤ wt ∧ wt ≤ 1000000
 rotate_left
 ·rw [if_neg q2] at h; cases h
 rw [if_pos q2] at h
 injection h with h
 injection h with h1 h
 injection h with h2 h
 injection h with h3 h
 injection h with h4 h
 injection h with h5 h
 injection h with h6 h7
 subst h1 h2 h3 h4 h5 h6 h7
 have HB := Br w
 obtain ⟨i, rfl⟩ : ∃ i : Nat, a1 = i := ⟨a1.toNat, by omega⟩
 simp only [colon, Bool.and_eq_true, decide_eq_true_eq, beq_iff_eq] at qc
 obtain ⟨x, rfl⟩ : ∃ x : Nat, e = x := ⟨e.toNat, by omega⟩
 have c0 : i < a0.size := by have := q.2.1; omega
 have c1 : decide ((i : Int) ≥ (a0.size : Int)) = false := decide_eq_false (by omega)
 have c2 : (((a0[i]'c0).toNat : Int) != 40) = false := by have := q.2.2.2; rw [bt, dif_pos (by omega)] at this; simpa using this
 have d0 : x < a0.size := by omega
 have d1 : decide ((x : Int) ≥ (a0.size : Int)) = false := decide_eq_false (by omega)
 have d2 : (((a0[x]'d0).toNat : Int) != 58) = false := by have := qc.2.2; rw [bt, dif_pos (by omega)] at this; simpa using this
 have d3 : ((x : Int) == -1) = false := by rw [beq_eq_false_iff_ne]; omega
 obtain ⟨j, l, y, hj, hl, hy, w1, w2, w3, jl, hjl⟩ := op_facts c0 q.2.2.1 d0
 have f1 : (e2 == -1) = false := by rw [beq_eq_false_iff_ne]; omega
 have f2 : decide (wt < 0) = false := decide_eq_false (by omega)
 have f3 : decide (wt > 1000000) = false := decide_eq_false (by omega)
 rw [hy] at hN2
 have HN2 := Am hN2
 rw [hj] at hH
 cases hI : isInf a0 (j : Int) with
 | true =>
  rw [if_pos hI] at hH
  obtain ⟨rfl, rfl, hx⟩ : (0 : Int) = ky ∧ (1 : Int) = nf ∧ (i : Int) + 4 = x := by injection hH with hH; injection hH with h1 hH; injection hH with h2 h3; exact ⟨h1, h2, h3⟩
  obtain rfl : l = x := Int.ofNat.inj (hl.symm.trans hx)
  simp only [isInf, Bool.and_eq_true, decide_eq_true_eq] at hI
  have g0 : l ≤ a0.size := Nat.le_of_lt d0
  have g1 : decide ((l : Int) ≤ (a0.size : Int)) = true := decide_eq_true (Int.ofNat_le.2 g0)
  have g2 : ((a0.extract j l).toList == [105, 110, 102]) = true := by have := hI.2; rw [Int.toNat_natCast, hjl] at this; exact this
  have s1 : (0 ≤ (j : Int)) = True := eq_true (Int.natCast_nonneg j)
  have s2 : ((j : Int) ≤ (l : Int)) = True := eq_true (Int.ofNat_le.2 jl)
  have s3 : ((l : Int) ≤ (a0.size : Int)) = True := eq_true (Int.ofNat_le.2 g0)
  clear hx hj hl hy hjl
  clear hH hI q qc q2 hN2
  go_enter Tryz.func146, Tryz.ntmps146
  go_wp2_with (first | ((with_reducible refine Gd 4 rfl ?_); refine bF 4 HB.out (cs := #[.int .i64 0, .int .i64 0, .int .i64 0, .int .i64 0, .int .i64 0, .int .i64 0]) (t := 69) ?_; clear HB; intro ga w_ga GX_ga GE_ga HK_ga HB BB_ga; obtain ⟨x0, x1, x2, x3, x4, x5, e0, e1, e2', e3, e4, e5⟩ := box6 HK_ga.out) | ((with_reducible refine Gd 6 rfl ?_); refine bF 6 HB.out (cs := #[.int .i64 0, .int .i64 0, .int .i64 0, .int .i64 0, .int .i64 0, .int .i64 0]) (t := 69) ?_; clear HB; intro gb w_gb GX_gb GE_gb HK_gb HB BB_gb; obtain ⟨y0, y1, y2, y3, y4, y5, f0, f1', f2', f3', f4, f5⟩ := box6 HK_gb.out))
  have hab : ga ≠ gb := Nat.ne_of_lt (Nat.lt_of_lt_of_le (blk_lt HK_ga.out) GX_gb.out)
  have hab2 : ¬ (gb = ga) := fun e => hab e.symm
  refine (larchref16_number.calls k a0 y wt e2 _ HN2.out).mono ?_
  rintro _ w5 ⟨rfl, hd⟩
  have HKB5 : Aside0 (w5.heap[gb]? = some (.cells #[.int .i64 0, .int .i64 1, .int .i64 0, .int .i64 0, .int .i64 (-1), .int .i64 (-1)] 69 (0, 0))) := Am (blkB hd.below (blk_set (blk_set (blk_set (blk_set (blk_set (blk_set (blk_set HK_gb.out 0 (.int .i64 0)) 1 (.int .i64 0)) 2 (.int .i64 0)) 3 (.int .i64 0)) 4 (.int .i64 (-1))) 5 (.int .i64 (-1))) 1 (.int .i64 1)))
  have HKA5 : Aside0 (w5.heap[ga]? = some (.cells #[.int .i64 0, .int .i64 0, .int .i64 0, .int .i64 0, .int .i64 0, .int .i64 0] 69 (0, 0))) := Am (blkB hd.below (blk_far (blk_far (blk_far (blk_far (blk_far (blk_far (blk_far (blkB BB_gb.out HK_ga.out) (p := ⟨gb, 0, none⟩) hab (.int .i64 0)) (p := ⟨gb, 1, none⟩) hab (.int .i64 0)) (p := ⟨gb, 2, none⟩) hab (.int .i64 0)) (p := ⟨gb, 3, none⟩) hab (.int .i64 0)) (p := ⟨gb, 4, none⟩) hab (.int .i64 (-1))) (p := ⟨gb, 5, none⟩) hab (.int .i64 (-1))) (p := ⟨gb, 1, none⟩) hab (.int .i64 1)))
  have HB5 := Am (bel_t (below_set (below_set (below_set (below_set (below_set (below_set (below_set HB.out GE_gb.out (j := 0) (v := .int .i64 0)) GE_gb.out (j := 1) (v := .int .i64 0)) GE_gb.out (j := 2) (v := .int .i64 0)) GE_gb.out (j := 3) (v := .int .i64 0)) GE_gb.out (j := 4) (v := .int .i64 (-1))) GE_gb.out (j := 5) (v := .int .i64 (-1))) GE_gb.out (j := 1) (v := .int .i64 1)) hd.below)
  clear y0 y1 y2 y3 y4 y5 f0 f1' f2' f3' f4 f5 x0 x1 x2 x3 x4 x5 e0 e1 e2' e3 e4 e5
  obtain ⟨y0, y1, y2, y3, y4, y5, f0, f1', f2', f3', f4, f5⟩ := box6 HKB5.out
  obtain ⟨x0, x1, x2, x3, x4, x5, e0, e1, e2', e3, e4, e5⟩ := box6 HKA5.out
  clear hd
  go_wp2
  refine bodyPost_ret (results_ct rfl _ _ ga 69 #[.int .i64 0, .int .i64 1, .int .i64 wt, .int .i64 0, .int .i64 (-1), .int .i64 (-1)] (0, 0) _ rfl (by refine blk_put (cs := #[.int .i64 0, .int .i64 1, .int .i64 wt, .int .i64 0, .int .i64 (-1), .int .i64 0]) ?_ 5 _ rfl; refine blk_put (cs := #[.int .i64 0, .int .i64 1, .int .i64 wt, .int .i64 0, .int .i64 0, .int .i64 0]) ?_ 4 _ rfl; refine blk_put (cs := #[.int .i64 0, .int .i64 1, .int .i64 wt, .int .i64 0, .int .i64 0, .int .i64 0]) ?_ 3 _ rfl; refine blk_put (cs := #[.int .i64 0, .int .i64 1, .int .i64 0, .int .i64 0, .int .i64 0, .int .i64 0]) ?_ 2 _ rfl; refine blk_put (cs := #[.int .i64 0, .int .i64 0, .int .i64 0, .int .i64 0, .int .i64 0, .int .i64 0]) ?_ 1 _ rfl; refine blk_put (cs := #[.int .i64 0, .int .i64 0, .int .i64 0, .int .i64 0, .int .i64 0, .int .i64 0]) ?_ 0 _ rfl; with_reducible repeat (first | exact HKA5.out | refine blk_far ?_ hab _)) Tryz.underlying69 rfl (by kernel_rfl)) rfl ?_
  exact ⟨rfl, by with_reducible repeat (first | exact HB5.out | refine below_set ?_ GE_gb.out | refine below_set ?_ GE_ga.out)⟩
 | false =>
  rw [if_neg (by simp [hI])] at hH
  obtain ⟨⟨q1, q3⟩, hN1, hH⟩ := Option.bind_eq_some_iff.mp hH
  obtain ⟨h1, h2, h3⟩ : q1 = ky ∧ (0 : Int) = nf ∧ q3 = x := by injection hH with hH; injection hH with h1 hH; injection hH with h2 h3; exact ⟨h1, h2, h3⟩
  subst h1 h2 h3
  have HN1 := Am hN1
  have g0 : l ≤ a0.size := Int.ofNat_le.1 (by rw [← hl]; exact q.2.1)
  have g1 : decide ((l : Int) ≤ (a0.size : Int)) = true := decide_eq_true (Int.ofNat_le.2 g0)
  have g2 : ((a0.extract j l).toList == [105, 110, 102]) = false := by
   have h3 : (j : Int) + 3 = l := by rw [← hj, ← hl, Int.add_assoc]; rfl
   rw [isInf, Int.toNat_natCast, h3, Int.toNat_natCast, g1, Bool.true_and] at hI
   exact hI
  clear hH hI q qc q2 hN2 hN1 hj hl hy hjl
  have s1 : (0 ≤ (j : Int)) = True := eq_true (Int.natCast_nonneg j)
  have s2 : ((j : Int) ≤ (l : Int)) = True := eq_true (Int.ofNat_le.2 jl)
  have s3 : ((l : Int) ≤ (a0.size : Int)) = True := eq_true (Int.ofNat_le.2 g0)
  go_enter Tryz.func146, Tryz.ntmps146
  go_wp2_with (first | ((with_reducible refine Gd 4 rfl ?_); refine bF 4 HB.out (cs := #[.int .i64 0, .int .i64 0, .int .i64 0, .int .i64 0, .int .i64 0, .int .i64 0]) (t := 69) ?_; clear HB; intro ga w_ga GX_ga GE_ga HK_ga HB BB_ga; obtain ⟨x0, x1, x2, x3, x4, x5, e0, e1, e2', e3, e4, e5⟩ := box6 HK_ga.out) | ((with_reducible refine Gd 6 rfl ?_); refine bF 6 HB.out (cs := #[.int .i64 0, .int .i64 0, .int .i64 0, .int .i64 0, .int .i64 0, .int .i64 0]) (t := 69) ?_; clear HB; intro gb w_gb GX_gb GE_gb HK_gb HB BB_gb; obtain ⟨y0, y1, y2, y3, y4, y5, f0, f1', f2', f3', f4, f5⟩ := box6 HK_gb.out))
  have hab : ga ≠ gb := Nat.ne_of_lt (Nat.lt_of_lt_of_le (blk_lt HK_ga.out) GX_gb.out)
  have hab2 : ¬ (gb = ga) := fun e => hab e.symm
  refine (larchref16_number.calls k a0 j q1 x _ HN1.out).mono ?_
  rintro _ w5 ⟨rfl, hd⟩
  have HKB5 : Aside0 (w5.heap[gb]? = some (.cells #[.int .i64 0, .int .i64 0, .int .i64 0, .int .i64 0, .int .i64 (-1), .int .i64 (-1)] 69 (0, 0))) := Am (blkB hd.below (blk_set (blk_set (blk_set (blk_set (blk_set (blk_set HK_gb.out 0 (.int .i64 0)) 1 (.int .i64 0)) 2 (.int .i64 0)) 3 (.int .i64 0)) 4 (.int .i64 (-1))) 5 (.int .i64 (-1))))
  have HKA5 : Aside0 (w5.heap[ga]? = some (.cells #[.int .i64 0, .int .i64 0, .int .i64 0, .int .i64 0, .int .i64 0, .int .i64 0] 69 (0, 0))) := Am (blkB hd.below (blk_far (blk_far (blk_far (blk_far (blk_far (blk_far (blkB BB_gb.out HK_ga.out) (p := ⟨gb, 0, none⟩) hab (.int .i64 0)) (p := ⟨gb, 1, none⟩) hab (.int .i64 0)) (p := ⟨gb, 2, none⟩) hab (.int .i64 0)) (p := ⟨gb, 3, none⟩) hab (.int .i64 0)) (p := ⟨gb, 4, none⟩) hab (.int .i64 (-1))) (p := ⟨gb, 5, none⟩) hab (.int .i64 (-1))))
  have HB5 := Am (bel_t (below_set (below_set (below_set (below_set (below_set (below_set HB.out GE_gb.out (j := 0) (v := .int .i64 0)) GE_gb.out (j := 1) (v := .int .i64 0)) GE_gb.out (j := 2) (v := .int .i64 0)) GE_gb.out (j := 3) (v := .int .i64 0)) GE_gb.out (j := 4) (v := .int .i64 (-1))) GE_gb.out (j := 5) (v := .int .i64 (-1))) hd.below)
  clear y0 y1 y2 y3 y4 y5 f0 f1' f2' f3' f4 f5 x0 x1 x2 x3 x4 x5 e0 e1 e2' e3 e4 e5
  obtain ⟨y0, y1, y2, y3, y4, y5, f0, f1', f2', f3', f4, f5⟩ := box6 HKB5.out
  obtain ⟨x0, x1, x2, x3, x4, x5, e0, e1, e2', e3, e4, e5⟩ := box6 HKA5.out
  clear hd
  go_wp2_with (fail)
  refine (larchref16_number.calls k a0 y wt e2 _ HN2.out).mono ?_
  rintro _ w6 ⟨rfl, hd⟩
  have HKB6 : Aside0 (w6.heap[gb]? = some (.cells #[.int .i64 q1, .int .i64 0, .int .i64 0, .int .i64 0, .int .i64 (-1), .int .i64 (-1)] 69 (0, 0))) := Am (blkB hd.below (blk_set HKB5.out 0 (.int .i64 q1)))
  have HKA6 : Aside0 (w6.heap[ga]? = some (.cells #[.int .i64 0, .int .i64 0, .int .i64 0, .int .i64 0, .int .i64 0, .int .i64 0] 69 (0, 0))) := Am (blkB hd.below (blk_far HKA5.out (p := ⟨gb, 0, none⟩) hab (.int .i64 q1)))
  have HB6 := Am (bel_t (below_set HB5.out GE_gb.out (j := 0) (v := .int .i64 q1)) hd.below)
  clear y0 y1 y2 y3 y4 y5 f0 f1' f2' f3' f4 f5 x0 x1 x2 x3 x4 x5 e0 e1 e2' e3 e4 e5
  obtain ⟨y0, y1, y2, y3, y4, y5, f0, f1', f2', f3', f4, f5⟩ := box6 HKB6.out
  obtain ⟨x0, x1, x2, x3, x4, x5, e0, e1, e2', e3, e4, e5⟩ := box6 HKA6.out
  clear hd
  go_wp2
  refine bodyPost_ret (results_ct rfl _ _ ga 69 #[.int .i64 q1, .int .i64 0, .int .i64 wt, .int .i64 0, .int .i64 (-1), .int .i64 (-1)] (0, 0) _ rfl (by refine blk_put (cs := #[.int .i64 q1, .int .i64 0, .int .i64 wt, .int .i64 0, .int .i64 (-1), .int .i64 0]) ?_ 5 _ rfl; refine blk_put (cs := #[.int .i64 q1, .int .i64 0, .int .i64 wt, .int .i64 0, .int .i64 0, .int .i64 0]) ?_ 4 _ rfl; refine blk_put (cs := #[.int .i64 q1, .int .i64 0, .int .i64 wt, .int .i64 0, .int .i64 0, .int .i64 0]) ?_ 3 _ rfl; refine blk_put (cs := #[.int .i64 q1, .int .i64 0, .int .i64 0, .int .i64 0, .int .i64 0, .int .i64 0]) ?_ 2 _ rfl; refine blk_put (cs := #[.int .i64 q1, .int .i64 0, .int .i64 0, .int .i64 0, .int .i64 0, .int .i64 0]) ?_ 1 _ rfl; refine blk_put (cs := #[.int .i64 0, .int .i64 0, .int .i64 0, .int .i64 0, .int .i64 0, .int .i64 0]) ?_ 0 _ rfl; with_reducible repeat (first | exact HKA6.out | refine blk_far ?_ hab _)) Tryz.underlying69 rfl (by kernel_rfl)) rfl ?_
  exact ⟨rfl, by with_reducible repeat (first | exact HB6.out | refine below_set ?_ GE_gb.out | refine below_set ?_ GE_ga.out)⟩
end
section
open Go.Proofs.YtaabbaemfnecgaaGreat.V
theorem byte_at {a : ByteArray} {i : Nat} {c : Int} (h0 : i < a.size) (h : bt a i = c) : ((a[i]'h0).toNat : Int) = c := by rw [bt, dif_pos (by omega)] at h; exact h
def lkN (all : List S69) (p : Nat) (x : Int) : List S69 := all.set p (if (all.getD p z69).f4 = -1 then { all.getD p z69 with f4 := x } else { all.getD p z69 with f5 := x })
def clL (s : ByteArray) (all : List S69) : Nat → List Nat → Int → Option (List Nat × Int)
 | 0, _, _ => none
 | k + 1, op, e => if op = [] then some ([], e) else if op.getLastD 0 < all.length ∧ op.length ≤ 1000 then (if (all.getD (op.getLastD 0) z69).f5 = -1 then some (op, e) else if 0 ≤ e ∧ e < s.size ∧ bt s e = 41 then clL s all k op.dropLast (e + 1) else none) else none
def rdN (q : Int × Int × Int × Int × Int × Int × Int) : S69 := ⟨q.1, q.2.1, q.2.2.1, q.2.2.2.1, q.2.2.2.2.1, q.2.2.2.2.2.1⟩
def rdS (s : ByteArray) : Nat → List S69 → List Nat → Int → Option (List S69)
 | 0, _, _, _ => none
 | k + 1, all, op, a => (larchref16_opened.f 40 s a).bind fun q =>
  if 0 ≤ q.2.2.2.2.2.2 ∧ q.2.2.2.2.2.2 < s.size ∧ all.length ≤ 1000 ∧ op.length ≤ 1000 ∧ op.getLastD 0 < all.length + 1 then
   (fun all1 : List S69 => if bt s q.2.2.2.2.2.2 = 32 then rdS s k all1 (op ++ [all.length]) (q.2.2.2.2.2.2 + 1) else if op = [] then none else
   (if q.2.1 = 0 then (if bt s q.2.2.2.2.2.2 = 61 then (larchref16_number.f 40 s (q.2.2.2.2.2.2 + 1)).bind fun r => some (all1.set all.length { all1.getD all.length z69 with f3 := r.1 }, r.2) else none) else some (all1, q.2.2.2.2.2.2)).bind fun r =>
   if 0 ≤ r.2 ∧ r.2 < s.size ∧ bt s r.2 = 41 then (clL s r.1 100 op (r.2 + 1)).bind fun c =>
    if c.1 = [] then (if c.2 = s.size then some r.1 else none) else if 0 ≤ c.2 ∧ c.2 < s.size ∧ bt s c.2 = 32 then rdS s k r.1 c.1 (c.2 + 1) else none
   else none) (if op = [] then all ++ [rdN q] else lkN (all ++ [rdN q]) (op.getLastD 0) all.length)
  else none
def larchref16_Read.f (s : ByteArray) : Option (List S69) := if s.size ≤ 1000000 then (rdS s 200 [] [] 0).bind fun all => if all.length ≤ 100000 then larchref16_Part.f 40 all 0 else none else none
theorem put69 {W : World} {base g n cap : Nat} {ok : Nat → Prop} {xs : List S69} (h : Kd.R k69 69 W base ok (.slice (some ⟨g, 0, none⟩) n cap) xs) {c : Nat} (hc : c < n) (x : Int) :
  (∃ u, W.cell? ⟨g, c * 6 + 4, none⟩ = some u) ∧ W.frozen? ⟨g, c * 6 + 4, none⟩ = false ∧ (∃ u, W.cell? ⟨g, c * 6 + 5, none⟩ = some u) ∧ W.frozen? ⟨g, c * 6 + 5, none⟩ = false ∧ (∃ u, W.cell? ⟨g, c * 6 + 3, none⟩ = some u) ∧ W.frozen? ⟨g, c * 6 + 3, none⟩ = false ∧
  (Kd.R k69 69 (W.setCell ⟨g, c * 6 + 4, none⟩ (.int .i64 x)) base ok (.slice (some ⟨g, 0, none⟩) n cap) (xs.set c { xs.getD c z69 with f4 := x }) ∧ W.grownBy (W.setCell ⟨g, c * 6 + 4, none⟩ (.int .i64 x)) (some g)) ∧
  (Kd.R k69 69 (W.setCell ⟨g, c * 6 + 5, none⟩ (.int .i64 x)) base ok (.slice (some ⟨g, 0, none⟩) n cap) (xs.set c { xs.getD c z69 with f5 := x }) ∧ W.grownBy (W.setCell ⟨g, c * 6 + 5, none⟩ (.int .i64 x)) (some g)) ∧
  (Kd.R k69 69 (W.setCell ⟨g, c * 6 + 3, none⟩ (.int .i64 x)) base ok (.slice (some ⟨g, 0, none⟩) n cap) (xs.set c { xs.getD c z69 with f3 := x }) ∧ W.grownBy (W.setCell ⟨g, c * 6 + 3, none⟩ (.int .i64 x)) (some g)) := by
 obtain ⟨ce, hcl, hM, hcc, hfr⟩ := Kd.R_elem h z69 (c : Int) (by omega) (by omega)
 rw [Int.toNat_natCast] at hM
 generalize xs.getD c z69 = y at hM ⊢
 obtain rfl := k69_openM hM
 have sg := fun (j : Nat) (y' : S69) (hj : j + 1 ≤ 6) hm => Kd.R_seg h (c : Int) (by omega) (by omega) (seg := [.int .i64 x]) (j := j) hcl hcc (show j + 1 ≤ 6 from hj) (x' := y') hm (fun _ hk => hk)
 exact ⟨⟨_, hcc 4 _ rfl⟩, hfr 4, ⟨_, hcc 5 _ rfl⟩, hfr 5, ⟨_, hcc 3 _ rfl⟩, hfr 3, sg 4 { y with f4 := x } (by decide) (k69_mkM _ _ _ { y with f4 := x }), sg 5 { y with f5 := x } (by decide) (k69_mkM _ _ _ { y with f5 := x }), sg 3 { y with f3 := x } (by decide) (k69_mkM _ _ _ { y with f3 := x })⟩
theorem el69 {W : World} {base g n cap : Nat} {ok : Nat → Prop} {xs : List S69} (h : Kd.R k69 69 W base ok (.slice (some ⟨g, 0, none⟩) n cap) xs) {i : Nat} (hi : i < n) : W.cell? ⟨g, i * 6 + 4, none⟩ = some (.int .i64 (xs.getD i z69).f4) ∧ W.cell? ⟨g, i * 6 + 5, none⟩ = some (.int .i64 (xs.getD i z69).f5) := by
 obtain ⟨ce, hcl, hM, hcc, hfr⟩ := Kd.R_elem h z69 (i : Int) (by omega) (by omega)
 rw [Int.toNat_natCast] at hM
 obtain rfl := k69_openM hM
 exact ⟨hcc 4 _ rfl, hcc 5 _ rfl⟩
theorem ne69 : ∀ q, q ∈ 69 :: k69.E → q ≠ 3 := fun q hq => by
 rcases List.mem_cons.1 hq with rfl | hq
 ·decide
 ·exact absurd hq (by simp [k69, Kd.iso, Kd.pair, Kd.int, Kd.scalar])
theorem snoc_cases (l : List Nat) : l = [] ∨ ∃ (a : List Nat) (b : Nat), l = a ++ [b] := by
 by_cases h : l = []
 ·exact .inl h
 ·exact .inr ⟨l.dropLast, l.getLast h, (List.dropLast_concat_getLast h).symm⟩
theorem wr0 {n : Nat} (h : n + 1 ≤ 1000) : wrap64 (n : Int) = (n : Int) := Go.IntWalk.wrap64_in _ (by omega)
theorem wr1 {n : Nat} (h : n + 1 ≤ 1000) : wrap64 (((n + 1 : Nat) : Int) - 1) = (n : Int) := by rw [Go.IntWalk.wrap64_in _ (by omega)]; omega
theorem wr2 {n : Nat} (h : n + 1 ≤ 1000) : wrap64 ((n : Int) + 1 - 1) = (n : Int) := by rw [Go.IntWalk.wrap64_in _ (by omega)]; omega
theorem j_facts {j n : Nat} (h : j < n) (hn : n ≤ 1000000) : ((j : Int) == -1) = false ∧ decide ((j : Int) ≥ (n : Int)) = false ∧ decide (n ≤ j) = false ∧ wrap64 ((j : Int) + 1) = (j : Int) + 1 ∧ (0 ≤ (j : Int)) = True ∧ ((j : Int) < (n : Int)) = True :=
 ⟨by rw [beq_eq_false_iff_ne]; omega, decide_eq_false (by omega), decide_eq_false (by omega), Go.IntWalk.wrap64_in _ (by omega), eq_true (by omega), eq_true (by omega)⟩
theorem grown_blk {W W1 : World} {row : Option Nat} (hg : W.grownBy W1 row) {k : Nat} {o : Obj} (h : W.heap[k]? = some o) (hne : some k ≠ row) : W1.heap[k]? = some o := (hg.block k (blk_lt h) hne).trans h
theorem own_ne {α : Type} {d : Kd α} {e : Nat} {W : World} {base : Nat} {ok : Nat → Prop} {v : Value} {xs : List α} (h : d.R e W base ok v xs) {g : Nat} (hg : W.heap.size ≤ g) : some g ≠ v.ownBlock := fun e => by
 obtain ⟨c, hc⟩ := Kd.R_typed h g e.symm
 exact absurd (blk_lt hc) (by omega)
theorem lastD_snoc (l : List Nat) (x : Nat) : (l ++ [x]).getLastD 0 = x := by simp [List.getLastD_eq_getLast?]
def findLoop : Code → Option Code
 | .loop c => some c
 | .seq a b => match findLoop a with
  | some c => some c
  | none => findLoop b
 | .block _ c => findLoop c
 | .scope c => findLoop c
 | .cond _ a b => match findLoop a with
  | some c => some c
  | none => findLoop b
 | _ => none
noncomputable def rdBody : Code := (((Tryz.f91.body.bind findLoop).bind findLoop).getD .skip)
theorem re_inner (s : ByteArray) (X : List S69) (g4 d4 n : Nat) (w : World) (hX : n = X.length) (hn : n ≤ 1001) (hsz : s.size ≤ 1000000) (op : List Nat) (e : Int) (c1 : List Nat) (c2 : Int) (A5 : Option Addr) (m5 c5 : Nat) (W : World) (hs : Kd.R k69 69 W w.heap.size (fun _ => True) (.slice (some ⟨g4, 0, none⟩) n d4) X) (ho : Kd.R (Kd.int .i64) 3 W w.heap.size (fun _ => True) (.slice A5 m5 c5) (op.map (fun (x : Nat) => (x : Int)))) (hb : Below w.heap.size w W) (hc : clL s X 100 op e = some (c1, c2)) (Q0 : Exit → Act → World → Prop) (v1 v2 v3 v6 v7 v9 v10 v11 v12 v13 v14 v15 v16 v17 v18 v19 v20 v21 v22 v23 v24 v25 v26 v27 v28 v29 v30 v31 v32 v33 v34 v35 v36 v37 v38 v39 v40 v41 v42 v43 v44 v45 v46 v47 v48 v49 v50 v51 v52 v53 v54 v55 v56 v57 v58 v59 v60 v61 v62 v63 v64 v65 v66 v67 v68 v69 v70 v71 v72 v73 v74 v75 v76 v77 v78 v79 v80 v81 v82 v83 v84 v85 v86 v87 v88 v89 v90 v91 v92 v93 v94 v95 v96 v97 v98 v99 v100 v101 v102 v103 v104 v105 v106 v107 v108 v109 v110 v111 v112 v113 v114 v115 v116 v117 v118 v119 v120 v121 v122 v123 v124 v125 v126 v127 v128 v129 v130 v131 v132 v133 v134 v135 v136 v137 v138 v139 v140 v141 v142 v143 v144 v145 v146 v147 v148 v149 v150 v151 v152 v153 v154 v155 v156 v157 v158 v159 : Value)
  (hexit : ∀ (x2 x3 x5 x103 x104 x105 x106 x107 x108 x109 x110 x111 x112 x113 x114 x115 x116 x117 x118 x119 x120 x121 x122 x123 x124 x125 x126 x127 x128 x129 x130 x131 x132 x133 x134 x135 : Value) (W' : World), Kd.R k69 69 W' w.heap.size (fun _ => True) (.slice (some ⟨g4, 0, none⟩) n d4) X → Kd.R (Kd.int .i64) 3 W' w.heap.size (fun _ => True) x5 (c1.map (fun (x : Nat) => (x : Int))) → Below w.heap.size w W' → Q0 (.exit 2) ⟨(List.toArray (α := Value) (.string s :: v1 :: x2 :: x3 :: .slice (some ⟨g4, 0, none⟩) n d4 :: x5 :: v6 :: v7 :: .int .i64 c2 :: v9 :: v10 :: v11 :: v12 :: v13 :: v14 :: v15 :: v16 :: v17 :: v18 :: v19 :: v20 :: v21 :: v22 :: v23 :: v24 :: v25 :: v26 :: v27 :: v28 :: v29 :: v30 :: v31 :: v32 :: v33 :: v34 :: v35 :: v36 :: v37 :: v38 :: v39 :: v40 :: v41 :: v42 :: v43 :: v44 :: v45 :: v46 :: v47 :: v48 :: v49 :: v50 :: v51 :: v52 :: v53 :: v54 :: v55 :: v56 :: v57 :: v58 :: v59 :: v60 :: v61 :: v62 :: v63 :: v64 :: v65 :: v66 :: v67 :: v68 :: v69 :: v70 :: v71 :: v72 :: v73 :: v74 :: v75 :: v76 :: v77 :: v78 :: v79 :: v80 :: v81 :: v82 :: v83 :: v84 :: v85 :: v86 :: v87 :: v88 :: v89 :: v90 :: v91 :: v92 :: v93 :: v94 :: v95 :: v96 :: v97 :: v98 :: v99 :: v100 :: v101 :: v102 :: x103 :: x104 :: x105 :: x106 :: x107 :: x108 :: x109 :: x110 :: x111 :: x112 :: x113 :: x114 :: x115 :: x116 :: x117 :: x118 :: x119 :: x120 :: x121 :: x122 :: x123 :: x124 :: x125 :: x126 :: x127 :: x128 :: x129 :: x130 :: x131 :: x132 :: x133 :: x134 :: x135 :: v136 :: v137 :: v138 :: v139 :: v140 :: v141 :: v142 :: v143 :: v144 :: v145 :: v146 :: v147 :: v148 :: v149 :: v150 :: v151 :: v152 :: v153 :: v154 :: v155 :: v156 :: v157 :: v158 :: v159 :: [])), []⟩ W') :
  Code.wp Tryz.prog (.loop rdBody) Q0 ⟨(List.toArray (α := Value) (.string s :: v1 :: v2 :: v3 :: .slice (some ⟨g4, 0, none⟩) n d4 :: .slice A5 m5 c5 :: v6 :: v7 :: .int .i64 e :: v9 :: v10 :: v11 :: v12 :: v13 :: v14 :: v15 :: v16 :: v17 :: v18 :: v19 :: v20 :: v21 :: v22 :: v23 :: v24 :: v25 :: v26 :: v27 :: v28 :: v29 :: v30 :: v31 :: v32 :: v33 :: v34 :: v35 :: v36 :: v37 :: v38 :: v39 :: v40 :: v41 :: v42 :: v43 :: v44 :: v45 :: v46 :: v47 :: v48 :: v49 :: v50 :: v51 :: v52 :: v53 :: v54 :: v55 :: v56 :: v57 :: v58 :: v59 :: v60 :: v61 :: v62 :: v63 :: v64 :: v65 :: v66 :: v67 :: v68 :: v69 :: v70 :: v71 :: v72 :: v73 :: v74 :: v75 :: v76 :: v77 :: v78 :: v79 :: v80 :: v81 :: v82 :: v83 :: v84 :: v85 :: v86 :: v87 :: v88 :: v89 :: v90 :: v91 :: v92 :: v93 :: v94 :: v95 :: v96 :: v97 :: v98 :: v99 :: v100 :: v101 :: v102 :: v103 :: v104 :: v105 :: v106 :: v107 :: v108 :: v109 :: v110 :: v111 :: v112 :: v113 :: v114 :: v115 :: v116 :: v117 :: v118 :: v119 :: v120 :: v121 :: v122 :: v123 :: v124 :: v125 :: v126 :: v127 :: v128 :: v129 :: v130 :: v131 :: v132 :: v133 :: v134 :: v135 :: v136 :: v137 :: v138 :: v139 :: v140 :: v141 :: v142 :: v143 :: v144 :: v145 :: v146 :: v147 :: v148 :: v149 :: v150 :: v151 :: v152 :: v153 :: v154 :: v155 :: v156 :: v157 :: v158 :: v159 :: [])), []⟩ W := by
 have HS := Am hs
 have HO := Am ho
 have HB := Am hb
 have HC := Am hc
 have HSZ := Am hsz
 have HX := Am hX
 clear hs ho hb hc hsz hX
 conv => arg 2; arg 1; whnf
 go_loopg [5, 8] 100 (fun kq v5 v8 w' => ∃ (o : List Nat) (e : Int), v8 = .int .i64 e ∧ Aside0 (Kd.R k69 69 w' w.heap.size (fun _ => True) (.slice (some ⟨g4, 0, none⟩) n d4) X) ∧ Aside0 (Kd.R (Kd.int .i64) 3 w' w.heap.size (fun _ => True) v5 (o.map (fun (x : Nat) => (x : Int)))) ∧ Aside0 (Below w.heap.size w w') ∧ Aside0 (clL s X kq o e = some (c1, c2)))
 case atStart => exact ⟨op, e, rfl, HS, HO, HB, HC⟩
 case round =>
  clear HC HS HO HB
  obtain ⟨o, e, rfl, HSi, HOi, HBi, HC⟩ := hrel
  obtain ⟨kq2, rfl⟩ : ∃ x, gk = x + 1 := by
   cases gk with
   | zero => exact absurd HC.out (by simp [clL])
   | succ x => exact ⟨x, rfl⟩
  have hc := HC.out
  clear HC
  rw [clL] at hc
  have hd4 := (Kd.R_reads' HSi.out).2.1
  rcases snoc_cases o with rfl | ⟨o, p2, rfl⟩
  ·rw [if_pos rfl] at hc
   obtain ⟨rfl, rfl⟩ : [] = c1 ∧ e = c2 := by injection hc with hc; injection hc with h1 h2; exact ⟨h1, h2⟩
   obtain ⟨A6, c6, rfl⟩ := Kd.R_slice HOi.out
   clear hc
   go_wp2
   exact hexit _ _ _ _ _ _ _ _ _ _ _ _ _ _ _ _ _ _ _ _ _ _ _ _ _ _ _ _ _ _ _ _ _ _ _ _ _ HSi.out HOi.out HBi.out
  ·rw [if_neg (show ¬ (o ++ [p2] = []) by simp), lastD_snoc] at hc
   by_cases q3 : p2 < X.length ∧ (o ++ [p2]).length ≤ 1000
   rotate_left
   ·rw [if_neg q3] at hc; cases hc
   rw [if_pos q3] at hc
   have hlen : ((o ++ [p2]).map (fun (x : Nat) => (x : Int))).length = o.length + 1 := by simp
   have hop : o.length + 1 ≤ 1000 := by have := q3.2; simpa using this
   obtain ⟨A6, c6, rfl⟩ := Kd.R_slice HOi.out
   have hOi := HOi.out
   rw [hlen] at hOi ⊢
   have HOj := Am hOi
   clear HOi
   obtain ⟨a6, ea6, hx6⟩ := Kd.at_int (Kd.R_reads' hOi).2.2 (o.length : Int) (by omega) (by omega)
   subst ea6
   rw [show rd ((o ++ [p2]).map (fun (x : Nat) => (x : Int))) (o.length : Int) = (p2 : Int) by simp [rd], Int.toNat_natCast] at hx6
   obtain ⟨z4, z5⟩ := el69 HSi.out (i := p2) (by have := HX.out; omega)
   obtain ⟨m2, hm2⟩ : ∃ m, X.getD p2 z69 = m := ⟨_, rfl⟩
   rw [hm2] at hc z4 z5
   have w5 : wrap64 (((o.length + 1 : Nat) : Int) - 1) = (o.length : Int) := wr1 hop
   have w6 : wrap64 ((o.length : Int) + 1 - 1) = (o.length : Int) := wr2 hop
   have w7 : wrap64 (o.length : Int) = (o.length : Int) := wr0 hop
   have p7 : (p2 < n) = True := eq_true (by have := HX.out; omega)
   have p8 : ((p2 : Int) < (n : Int)) = True := eq_true (by have := HX.out; omega)
   have p9 : (0 ≤ (p2 : Int)) = True := eq_true (by omega)
   clear hlen hOi
   by_cases f5 : m2.f5 = -1
   ·rw [if_pos f5] at hc
    obtain ⟨rfl, rfl⟩ : o ++ [p2] = c1 ∧ e = c2 := by injection hc with hc; injection hc with h1 h2; exact ⟨h1, h2⟩
    have e5 : (m2.f5 != -1) = false := by simpa using f5
    clear hc f5 hm2
    go_wp2
    exact hexit _ _ _ _ _ _ _ _ _ _ _ _ _ _ _ _ _ _ _ _ _ _ _ _ _ _ _ _ _ _ _ _ _ _ _ _ _ HSi.out HOj.out HBi.out
   ·rw [if_neg f5] at hc
    by_cases qe : 0 ≤ e ∧ e < s.size ∧ bt s e = 41
    rotate_left
    ·rw [if_neg qe] at hc; cases hc
    rw [if_pos qe, List.dropLast_concat] at hc
    obtain ⟨j, rfl⟩ : ∃ j : Nat, e = j := ⟨e.toNat, by omega⟩
    have j0 : j < s.size := by omega
    have jb : ((s[j]'j0).toNat : Int) = 41 := byte_at j0 qe.2.2
    obtain ⟨j1, j2, j2', j3, j4, j5⟩ := j_facts j0 HSZ.out
    have e5 : (m2.f5 != -1) = true := by simpa using f5
    obtain ⟨i3, hi3, _, hsz3, _⟩ := info_parts info3
    have hcut := cut_to (P := Tryz.prog) 60 3 .i64 Tryz.underlying60 hi3 (some a6) (o.length + 1) c6 (o.length : Int) (Int.natCast_nonneg _) (Int.ofNat_le.2 (Nat.le_succ _)) (Kd.R_reads' HOj.out).2.1
    have hT := Kd.R_take (m := o.length) HOj.out (by simp)
    rw [show ((o ++ [p2]).map (fun (x : Nat) => (x : Int))).take o.length = o.map (fun (x : Nat) => (x : Int)) by simp [List.take_append]] at hT
    have HT := Am hT
    have HC := Am hc
    clear hc hT qe f5 hm2
    go_wp2
    go_roundg kq2
    case measure => omega
    case rel => exact ⟨o, (j : Int) + 1, by first | rfl | (rw [j3]), HSi, HT, HBi, HC⟩
end
section
open Go.Proofs.YtaabbaemfnecgaaGreat.V
theorem larchref16_Read.calls (s : ByteArray) (r : List S69) (w : World) (h : larchref16_Read.f s = some r) :
  Calls Tryz.prog 91 #[.string s] w fun e w' => ∃ v, e = .returned (.tuple #[v, .int .i64 0]) ∧ Kd.R k69 69 w' w.heap.size (fun _ => True) v r ∧ Below w.heap.size w w' := by
 unfold larchref16_Read.f at h
 split at h
 rotate_left
 ·cases h
 rename_i hsz
 obtain ⟨res, hr, h⟩ := Option.bind_eq_some_iff.mp h
 split at h
 rotate_left
 ·cases h
 rename_i hlen
 have HP := Am h
 have HLN := Am hlen
 have HSZ := Am hsz
 have HH := Am hr
 have HB := Br w
 have c1 : decide ((s.size : Int) > 8000000) = false := decide_eq_false (by omega)
 clear h hlen hsz hr
 go_enter Tryz.func91, Tryz.ntmps91
 go_wp2
 go_loopg [4, 5, 6] 200 (fun kq v4 v5 v6 w' => ∃ (all : List S69) (op : List Nat) (a : Int), v6 = .int .i64 a ∧ Aside0 (Kd.R k69 69 w' w.heap.size (fun _ => True) v4 all) ∧ Aside0 (Kd.R (Kd.int .i64) 3 w' w.heap.size (fun _ => True) v5 (op.map (fun (x : Nat) => (x : Int)))) ∧ Aside0 (Below w.heap.size w w') ∧ Aside0 (rdS s kq all op a = some res))
 case atStart => exact ⟨[], [], 0, rfl, ⟨Kd.R_nil _ _ _ _ _⟩, ⟨Kd.R_nil _ _ _ _ _⟩, HB, HH⟩
 case round =>
  clear HH HB
  obtain ⟨all, op, a, rfl, HS, HO, HB, HH⟩ := hrel
  obtain ⟨kq1, rfl⟩ : ∃ x, gk = x + 1 := by
   cases gk with
   | zero => exact absurd HH.out (by simp [rdS])
   | succ x => exact ⟨x, rfl⟩
  have hh := HH.out
  clear HH
  rw [rdS] at hh
  obtain ⟨⟨n0, n1, n2, n3, n4, n5, e⟩, hq, hh⟩ := Option.bind_eq_some_iff.mp hh
  dsimp only at hh
  by_cases q : 0 ≤ e ∧ e < s.size ∧ all.length ≤ 1000 ∧ op.length ≤ 1000 ∧ op.getLastD 0 < all.length + 1
  rotate_left
  ·rw [if_neg q] at hh; cases hh
  rw [if_pos q] at hh
  obtain ⟨i, rfl⟩ : ∃ i : Nat, e = i := ⟨e.toNat, by omega⟩
  obtain ⟨n, hn⟩ : ∃ n : S69, n = ⟨n0, n1, n2, n3, n4, n5⟩ := ⟨_, rfl⟩
  have hrn : rdN (n0, n1, n2, n3, n4, n5, (i : Int)) = n := hn.symm
  rw [hrn, show n1 = n.f1 by rw [hn]] at hh
  have HQ := Am q
  have HOP := Am hq
  have HN := Am hn
  have HH := Am hh
  clear hh hn hrn hq q
  go_wp2_with (fail)
  refine (larchref16_opened.calls 40 s a n0 n1 n2 n3 n4 n5 i _ HOP.out).mono ?_
  rintro _ w1 ⟨rfl, hb⟩
  rw [show (#[.int .i64 n0, .int .i64 n1, .int .i64 n2, .int .i64 n3, .int .i64 n4, .int .i64 n5] : Array Value) = #[.int .i64 n.f0, .int .i64 n.f1, .int .i64 n.f2, .int .i64 n.f3, .int .i64 n.f4, .int .i64 n.f5] by rw [HN.out]]
  have HS1 := Am (Kd.R_below HS.out hb)
  have HO1 := Am (Kd.R_below HO.out hb)
  have HB1 := Am (bel_t HB.out hb)
  clear hb HS HO HB HOP HN
  have c0 : i < s.size := by have := HQ.out; omega
  have d1 : ((i : Int) == -1) = false := by rw [beq_eq_false_iff_ne]; omega
  have d2 : decide ((i : Int) ≥ (s.size : Int)) = false := decide_eq_false (by omega)
  have d5 : decide (s.size ≤ i) = false := decide_eq_false (by omega)
  have d3 : (0 ≤ (i : Int)) = True := eq_true (by omega)
  have d4 : ((i : Int) < (s.size : Int)) = True := eq_true (by omega)
  obtain ⟨A4, c4, rfl⟩ := Kd.R_slice HS1.out
  obtain ⟨A5, c5, rfl⟩ := Kd.R_slice HO1.out
  rw [List.length_map]
  have HO1 := Am (show Kd.R (Kd.int .i64) 3 w1 w.heap.size (fun _ => True) (.slice A5 op.length c5) (op.map (fun (x : Nat) => (x : Int))) by have := HO1.out; rwa [List.length_map] at this)
  obtain ⟨b, hb⟩ : ∃ b : Int, ((s[i]'c0).toNat : Int) = b := ⟨_, rfl⟩
  have hbt : bt s i = b := by rw [← hb, bt, dif_pos (by omega)]; rfl
  have hh := HH.out
  rw [hbt] at hh
  clear HH hbt
  by_cases b32 : b = 32
  ·rw [if_pos b32] at hh
   have e32 : (b == 32) = true := by simpa using b32
   rcases snoc_cases op with rfl | ⟨op, p, rfl⟩
   ·rw [if_pos rfl] at hh
    have HH := Am hh
    clear hh
    go_wp2_with (first | ((with_reducible refine Gd 7 rfl ?_); refine bF 7 HB1.out (cs := #[.int .i64 0, .int .i64 0, .int .i64 0, .int .i64 0, .int .i64 0, .int .i64 0]) (t := 69) ?_; clear HB1; intro g7 w_g7 GX_g7 GE_g7 HK_g7 HB1 BB_g7; obtain ⟨y0, y1, y2, y3, y4, y5, f0, f1, f2, f3, f4, f5⟩ := box69 HK_g7.out) | ((with_reducible refine Gd 31 rfl ?_); refine gen_l (fun W => W.heap[g7]? = some (.cells (cN n) 69 (0, 0)) ∧ Kd.R k69 69 W w.heap.size (fun _ => True) (.slice A4 all.length c4) all ∧ Kd.R (Kd.int .i64) 3 W w.heap.size (fun _ => True) (.slice A5 0 c5) [] ∧ Below w.heap.size w W) ⟨set69_blk HK_g7.out n, Kd.R_below HS1.out (set69_bel BB_g7.out GX_g7.out n), Kd.R_below HO1.out (set69_bel BB_g7.out GX_g7.out n), set69_bel HB1.out GE_g7.out n⟩ ?_; rintro w2 ⟨hk, hs, ho, hb⟩; have HNE := Am (own_ne HS1.out GX_g7.out); have HK2 := Am hk; have HS2 := Am hs; have HO2 := Am ho; have HB2 := Am hb; clear hk hs ho hb y0 y1 y2 y3 y4 y5 f0 f1 f2 f3 f4 f5 HK_g7 BB_g7 HS1 HO1 HB1; obtain ⟨y0, y1, y2, y3, y4, y5, f0, f1, f2, f3, f4, f5⟩ := box69 HK2.out) | ((with_reducible refine gate_builtin (b := .append) (xs := #[.tmp 30, .tmp 32]) rfl ?_); at_builtin; refine Kd.R_append k69 (w0 := w) w.heap.size rfl (.tmp 30) (.tmp 32) 22 69 (.agg #[(.int .i64 0), (.int .i64 0), (.int .i64 0), (.int .i64 0), (.int .i64 0), (.int .i64 0)]) 48 rfl Tryz.underlying22 info69 rfl (by decide) (by omega) (.slice A4 all.length c4) all n [.int .i64 n.f0, .int .i64 n.f1, .int .i64 n.f2, .int .i64 n.f3, .int .i64 n.f4, .int .i64 n.f5] (fun _ => True) (fun _ => False) rfl rfl (k69_mkM _ _ _ n) (fun _ hk => hk.elim) (fun _ _ => trivial) HS2.out HB2.out HB2.out.size (by have := HQ.out; omega) ?_; intro v4 w3 ho hb hg hat; have HO3 := Am (Kd.R_over HO2.out HS2.out ne3 hg); have HK3 := Am (grown_blk hg HK2.out HNE.out); obtain ⟨g4, d4, rfl, hg4, -, -⟩ := Kd.R_form ho (by simp); rw [List.length_append, List.length_singleton] at ho ⊢; have HS3 := Am ho; have HB3 := Am hb; have HG4 := Am hg4; clear ho hb hg hat hg4 HS2 HO2 HB2 HK2 y0 y1 y2 y3 y4 y5 f0 f1 f2 f3 f4 f5; obtain ⟨y0, y1, y2, y3, y4, y5, f0, f1, f2, f3, f4, f5⟩ := box69 HK3.out) | ((with_reducible refine gate_builtin (b := .append) (xs := #[.tmp 63, .tmp 65]) rfl ?_); at_builtin; refine Kd.R_append (Kd.int .i64) (w0 := w) w.heap.size rfl (.tmp 63) (.tmp 65) 60 3 (.int .i64 0) 8 rfl Tryz.underlying60 info3 rfl (by decide) (by omega) (.slice A5 0 c5) ([] : List Int) (all.length : Int) [.int .i64 (all.length : Int)] (fun _ => True) (fun _ => False) rfl rfl rfl (fun _ hk => hk.elim) (fun _ _ => trivial) HO3.out HB3.out HB3.out.size (by simp) ?_; intro v5 w5 ho hb hg hat; have HS5 := Am (Kd.R_over HS3.out HO3.out ne69 hg); have HO5 := Am ho; have HB5 := Am hb; clear ho hb hg hat))
    go_roundg kq1
    case measure => omega
    case rel => exact ⟨all ++ [n], [] ++ [all.length], (i : Int) + 1, by first | rfl | (rw [Go.IntWalk.wrap64_in _ (by have := HSZ.out; omega)]), HS5, ⟨by have := HO5.out; rw [List.map_append]; exact this⟩, HB5, HH⟩
   ·have hpl : p < all.length + 1 := by have := HQ.out.2.2.2.2; rwa [lastD_snoc] at this
    obtain ⟨m, hm⟩ : ∃ m, (all ++ [n]).getD p z69 = m := ⟨_, rfl⟩
    have hol : (op ++ [p]).length = op.length + 1 := by simp
    rw [hol] at HO1 ⊢
    rw [if_neg (show ¬ (op ++ [p] = []) by simp), lastD_snoc] at hh
    have hx5 : rd ((op ++ [p]).map (fun (x : Nat) => (x : Int))) (op.length : Int) = (p : Int) := by simp [rd]
    have hop : op.length + 1 ≤ 1000 := by have := HQ.out.2.2.2.1; omega
    have w5 : wrap64 (((op.length + 1 : Nat) : Int) - 1) = (op.length : Int) := wr1 hop
    have w6 : wrap64 ((op.length : Int) + 1 - 1) = (op.length : Int) := wr2 hop
    have w7 : wrap64 (op.length : Int) = (op.length : Int) := wr0 hop
    have HPL := Am hpl
    have HM := Am hm
    have HX5 := Am hx5
    have HOP1 := Am hop
    clear hpl hx5 hop hol
    by_cases e4 : m.f4 = -1
    ·rw [lkN, hm, if_pos e4] at hh
     have e4' : (m.f4 == -1) = true := by simpa using e4
     obtain ⟨all1, ha1⟩ : ∃ l, (all ++ [n]).set p { m with f4 := (all.length : Int) } = l := ⟨_, rfl⟩
     rw [ha1] at hh
     rw [← hm] at ha1
     have HA1 := Am ha1
     clear ha1 hm e4
     have HH := Am hh
     clear hh
     go_wp2_with (first | ((with_reducible refine Gd 7 rfl ?_); refine bF 7 HB1.out (cs := #[.int .i64 0, .int .i64 0, .int .i64 0, .int .i64 0, .int .i64 0, .int .i64 0]) (t := 69) ?_; clear HB1; intro g7 w_g7 GX_g7 GE_g7 HK_g7 HB1 BB_g7; obtain ⟨y0, y1, y2, y3, y4, y5, f0, f1, f2, f3, f4, f5⟩ := box69 HK_g7.out) | ((with_reducible refine Gd 31 rfl ?_); refine gen_l (fun W => W.heap[g7]? = some (.cells (cN n) 69 (0, 0)) ∧ Kd.R k69 69 W w.heap.size (fun _ => True) (.slice A4 all.length c4) all ∧ Kd.R (Kd.int .i64) 3 W w.heap.size (fun _ => True) (.slice A5 (op.length + 1) c5) ((op ++ [p]).map (fun (x : Nat) => (x : Int))) ∧ Below w.heap.size w W) ⟨set69_blk HK_g7.out n, Kd.R_below HS1.out (set69_bel BB_g7.out GX_g7.out n), Kd.R_below HO1.out (set69_bel BB_g7.out GX_g7.out n), set69_bel HB1.out GE_g7.out n⟩ ?_; rintro w2 ⟨hk, hs, ho, hb⟩; have HNE := Am (own_ne HS1.out GX_g7.out); have HK2 := Am hk; have HS2 := Am hs; have HO2 := Am ho; have HB2 := Am hb; clear hk hs ho hb y0 y1 y2 y3 y4 y5 f0 f1 f2 f3 f4 f5 HK_g7 BB_g7 HS1 HO1 HB1; obtain ⟨y0, y1, y2, y3, y4, y5, f0, f1, f2, f3, f4, f5⟩ := box69 HK2.out) | ((with_reducible refine gate_builtin (b := .append) (xs := #[.tmp 30, .tmp 32]) rfl ?_); at_builtin; refine Kd.R_append k69 (w0 := w) w.heap.size rfl (.tmp 30) (.tmp 32) 22 69 (.agg #[(.int .i64 0), (.int .i64 0), (.int .i64 0), (.int .i64 0), (.int .i64 0), (.int .i64 0)]) 48 rfl Tryz.underlying22 info69 rfl (by decide) (by omega) (.slice A4 all.length c4) all n [.int .i64 n.f0, .int .i64 n.f1, .int .i64 n.f2, .int .i64 n.f3, .int .i64 n.f4, .int .i64 n.f5] (fun _ => True) (fun _ => False) rfl rfl (k69_mkM _ _ _ n) (fun _ hk => hk.elim) (fun _ _ => trivial) HS2.out HB2.out HB2.out.size (by have := HQ.out; omega) ?_; intro v4 w3 ho hb hg hat; have HO3 := Am (Kd.R_over HO2.out HS2.out ne3 hg); have HK3 := Am (grown_blk hg HK2.out HNE.out); obtain ⟨g4, d4, rfl, hg4, -, -⟩ := Kd.R_form ho (by simp); rw [List.length_append, List.length_singleton] at ho ⊢; have HS3 := Am ho; have HB3 := Am hb; have HG4 := Am hg4; clear ho hb hg hat hg4 HS2 HO2 HB2 HK2 y0 y1 y2 y3 y4 y5 f0 f1 f2 f3 f4 f5; obtain ⟨y0, y1, y2, y3, y4, y5, f0, f1, f2, f3, f4, f5⟩ := box69 HK3.out; obtain ⟨z4, z5⟩ := el69 HS3.out HPL.out; rw [HM.out] at z4 z5; obtain ⟨⟨u4, hu4⟩, hf4, ⟨u5, hu5⟩, hf5, -, -, ⟨hR4, hG4⟩, ⟨hR5, hG5⟩, -⟩ := put69 HS3.out HPL.out (all.length : Int); have P4 := Am (And.intro hR4 hG4); have P5 := Am (And.intro hR5 hG5); clear hR4 hG4 hR5 hG5; obtain ⟨a5, ea5, hx5⟩ := Kd.at_int (Kd.R_reads' HO3.out).2.2 (op.length : Int) (by omega) (by simp; omega); cases ea5; rw [HX5.out, Int.toNat_natCast] at hx5; have p7 : (p < all.length + 1) = True := eq_true HPL.out; have p8 : ((p : Int) < (all.length : Int) + 1) = True := eq_true (by have := HPL.out; omega); have p9 : (0 ≤ (p : Int)) = True := eq_true (by omega)) | ((with_reducible refine Gd 65 rfl ?_); refine gen_l (fun W => Kd.R k69 69 W w.heap.size (fun _ => True) (.slice (some ⟨g4, 0, none⟩) (all.length + 1) d4) all1 ∧ Kd.R (Kd.int .i64) 3 W w.heap.size (fun _ => True) (.slice (some a5) (op.length + 1) c5) ((op ++ [p]).map (fun (x : Nat) => (x : Int))) ∧ Below w.heap.size w W) ⟨by rw [← HA1.out]; exact P4.out.1, Kd.R_over HO3.out HS3.out ne3 P4.out.2, grown_below P4.out.2 HB3.out HG4.out⟩ ?_; rintro w4 ⟨hs, ho, hb⟩; have HS4 := Am hs; have HO4 := Am ho; have HB4 := Am hb; clear hs ho hb P4 P5 HS3 HO3 HB3 HK3 z4 z5 hu4 hu5 hf4 hf5 hx5 y0 y1 y2 y3 y4 y5 f0 f1 f2 f3 f4 f5) | ((with_reducible refine gate_builtin (b := .append) (xs := #[.tmp 63, .tmp 65]) rfl ?_); at_builtin; refine Kd.R_append (Kd.int .i64) (w0 := w) w.heap.size rfl (.tmp 63) (.tmp 65) 60 3 (.int .i64 0) 8 rfl Tryz.underlying60 info3 rfl (by decide) (by omega) (.slice (some a5) (op.length + 1) c5) ((op ++ [p]).map (fun (x : Nat) => (x : Int))) (all.length : Int) [.int .i64 (all.length : Int)] (fun _ => True) (fun _ => False) rfl rfl rfl (fun _ hk => hk.elim) (fun _ _ => trivial) HO4.out HB4.out HB4.out.size (by have := HOP1.out; simp; omega) ?_; intro v5 w5 ho hb hg hat; have HS5 := Am (Kd.R_over HS4.out HO4.out ne69 hg); have HO5 := Am ho; have HB5 := Am hb; clear ho hb hg hat))
     exact dd44
    ·rw [lkN, hm, if_neg e4] at hh
     have e4' : (m.f4 == -1) = false := by simpa using e4
     obtain ⟨all1, ha1⟩ : ∃ l, (all ++ [n]).set p { m with f5 := (all.length : Int) } = l := ⟨_, rfl⟩
     rw [ha1] at hh
     rw [← hm] at ha1
     have HA1 := Am ha1
     clear ha1 hm e4
     have HH := Am hh
     clear hh
     go_wp2_with (first | ((with_reducible refine Gd 7 rfl ?_); refine bF 7 HB1.out (cs := #[.int .i64 0, .int .i64 0, .int .i64 0, .int .i64 0, .int .i64 0, .int .i64 0]) (t := 69) ?_; clear HB1; intro g7 w_g7 GX_g7 GE_g7 HK_g7 HB1 BB_g7; obtain ⟨y0, y1, y2, y3, y4, y5, f0, f1, f2, f3, f4, f5⟩ := box69 HK_g7.out) | ((with_reducible refine Gd 31 rfl ?_); refine gen_l (fun W => W.heap[g7]? = some (.cells (cN n) 69 (0, 0)) ∧ Kd.R k69 69 W w.heap.size (fun _ => True) (.slice A4 all.length c4) all ∧ Kd.R (Kd.int .i64) 3 W w.heap.size (fun _ => True) (.slice A5 (op.length + 1) c5) ((op ++ [p]).map (fun (x : Nat) => (x : Int))) ∧ Below w.heap.size w W) ⟨set69_blk HK_g7.out n, Kd.R_below HS1.out (set69_bel BB_g7.out GX_g7.out n), Kd.R_below HO1.out (set69_bel BB_g7.out GX_g7.out n), set69_bel HB1.out GE_g7.out n⟩ ?_; rintro w2 ⟨hk, hs, ho, hb⟩; have HNE := Am (own_ne HS1.out GX_g7.out); have HK2 := Am hk; have HS2 := Am hs; have HO2 := Am ho; have HB2 := Am hb; clear hk hs ho hb y0 y1 y2 y3 y4 y5 f0 f1 f2 f3 f4 f5 HK_g7 BB_g7 HS1 HO1 HB1; obtain ⟨y0, y1, y2, y3, y4, y5, f0, f1, f2, f3, f4, f5⟩ := box69 HK2.out) | ((with_reducible refine gate_builtin (b := .append) (xs := #[.tmp 30, .tmp 32]) rfl ?_); at_builtin; refine Kd.R_append k69 (w0 := w) w.heap.size rfl (.tmp 30) (.tmp 32) 22 69 (.agg #[(.int .i64 0), (.int .i64 0), (.int .i64 0), (.int .i64 0), (.int .i64 0), (.int .i64 0)]) 48 rfl Tryz.underlying22 info69 rfl (by decide) (by omega) (.slice A4 all.length c4) all n [.int .i64 n.f0, .int .i64 n.f1, .int .i64 n.f2, .int .i64 n.f3, .int .i64 n.f4, .int .i64 n.f5] (fun _ => True) (fun _ => False) rfl rfl (k69_mkM _ _ _ n) (fun _ hk => hk.elim) (fun _ _ => trivial) HS2.out HB2.out HB2.out.size (by have := HQ.out; omega) ?_; intro v4 w3 ho hb hg hat; have HO3 := Am (Kd.R_over HO2.out HS2.out ne3 hg); have HK3 := Am (grown_blk hg HK2.out HNE.out); obtain ⟨g4, d4, rfl, hg4, -, -⟩ := Kd.R_form ho (by simp); rw [List.length_append, List.length_singleton] at ho ⊢; have HS3 := Am ho; have HB3 := Am hb; have HG4 := Am hg4; clear ho hb hg hat hg4 HS2 HO2 HB2 HK2 y0 y1 y2 y3 y4 y5 f0 f1 f2 f3 f4 f5; obtain ⟨y0, y1, y2, y3, y4, y5, f0, f1, f2, f3, f4, f5⟩ := box69 HK3.out; obtain ⟨z4, z5⟩ := el69 HS3.out HPL.out; rw [HM.out] at z4 z5; obtain ⟨⟨u4, hu4⟩, hf4, ⟨u5, hu5⟩, hf5, -, -, ⟨hR4, hG4⟩, ⟨hR5, hG5⟩, -⟩ := put69 HS3.out HPL.out (all.length : Int); have P4 := Am (And.intro hR4 hG4); have P5 := Am (And.intro hR5 hG5); clear hR4 hG4 hR5 hG5; obtain ⟨a5, ea5, hx5⟩ := Kd.at_int (Kd.R_reads' HO3.out).2.2 (op.length : Int) (by omega) (by simp; omega); cases ea5; rw [HX5.out, Int.toNat_natCast] at hx5; have p7 : (p < all.length + 1) = True := eq_true HPL.out; have p8 : ((p : Int) < (all.length : Int) + 1) = True := eq_true (by have := HPL.out; omega); have p9 : (0 ≤ (p : Int)) = True := eq_true (by omega)) | ((with_reducible refine Gd 65 rfl ?_); refine gen_l (fun W => Kd.R k69 69 W w.heap.size (fun _ => True) (.slice (some ⟨g4, 0, none⟩) (all.length + 1) d4) all1 ∧ Kd.R (Kd.int .i64) 3 W w.heap.size (fun _ => True) (.slice (some a5) (op.length + 1) c5) ((op ++ [p]).map (fun (x : Nat) => (x : Int))) ∧ Below w.heap.size w W) ⟨by rw [← HA1.out]; exact P5.out.1, Kd.R_over HO3.out HS3.out ne3 P5.out.2, grown_below P5.out.2 HB3.out HG4.out⟩ ?_; rintro w4 ⟨hs, ho, hb⟩; have HS4 := Am hs; have HO4 := Am ho; have HB4 := Am hb; clear hs ho hb P4 P5 HS3 HO3 HB3 HK3 z4 z5 hu4 hu5 hf4 hf5 hx5 y0 y1 y2 y3 y4 y5 f0 f1 f2 f3 f4 f5) | ((with_reducible refine gate_builtin (b := .append) (xs := #[.tmp 63, .tmp 65]) rfl ?_); at_builtin; refine Kd.R_append (Kd.int .i64) (w0 := w) w.heap.size rfl (.tmp 63) (.tmp 65) 60 3 (.int .i64 0) 8 rfl Tryz.underlying60 info3 rfl (by decide) (by omega) (.slice (some a5) (op.length + 1) c5) ((op ++ [p]).map (fun (x : Nat) => (x : Int))) (all.length : Int) [.int .i64 (all.length : Int)] (fun _ => True) (fun _ => False) rfl rfl rfl (fun _ hk => hk.elim) (fun _ _ => trivial) HO4.out HB4.out HB4.out.size (by have := HOP1.out; simp; omega) ?_; intro v5 w5 ho hb hg hat; have HS5 := Am (Kd.R_over HS4.out HO4.out ne69 hg); have HO5 := Am ho; have HB5 := Am hb; clear ho hb hg hat))
     exact dd44
  ·rw [if_neg b32] at hh
   have e32 : (b == 32) = false := by simpa using b32
   rcases snoc_cases op with rfl | ⟨op, p, rfl⟩
   ·rw [if_pos rfl] at hh; cases hh
   ·have hpl : p < all.length + 1 := by have := HQ.out.2.2.2.2; rwa [lastD_snoc] at this
    obtain ⟨m, hm⟩ : ∃ m, (all ++ [n]).getD p z69 = m := ⟨_, rfl⟩
    have hol : (op ++ [p]).length = op.length + 1 := by simp
    rw [hol] at HO1 ⊢
    simp only [if_neg (show ¬ (op ++ [p] = []) by simp), lastD_snoc] at hh
    have hx5 : rd ((op ++ [p]).map (fun (x : Nat) => (x : Int))) (op.length : Int) = (p : Int) := by simp [rd]
    have hop : op.length + 1 ≤ 1000 := by have := HQ.out.2.2.2.1; omega
    have w5 : wrap64 (((op.length + 1 : Nat) : Int) - 1) = (op.length : Int) := wr1 hop
    have w6 : wrap64 ((op.length : Int) + 1 - 1) = (op.length : Int) := wr2 hop
    have w7 : wrap64 (op.length : Int) = (op.length : Int) := wr0 hop
    have HPL := Am hpl
    have HM := Am hm
    have HX5 := Am hx5
    have HOP1 := Am hop
    clear hpl hx5 hop hol
    by_cases e4 : m.f4 = -1
    ·rw [lkN, hm, if_pos e4] at hh
     have e4' : (m.f4 == -1) = true := by simpa using e4
     obtain ⟨all1, ha1⟩ : ∃ l, (all ++ [n]).set p { m with f4 := (all.length : Int) } = l := ⟨_, rfl⟩
     rw [ha1] at hh
     rw [← hm] at ha1
     have HA1 := Am ha1
     clear ha1 hm e4
     by_cases n1' : n.f1 = 0
     ·rw [if_pos n1'] at hh
      by_cases b61 : b = 61
      rotate_left
      ·rw [if_neg b61] at hh; cases hh
      rw [if_pos b61] at hh
      obtain ⟨⟨a2, e2⟩, hr2, hh⟩ := Option.bind_eq_some_iff.mp hh
      obtain ⟨⟨v, e0⟩, hnum, hr2⟩ := Option.bind_eq_some_iff.mp hr2
      obtain ⟨ha2, rfl⟩ : all1.set all.length { all1.getD all.length z69 with f3 := v } = a2 ∧ e0 = e2 := by injection hr2 with hr2; injection hr2 with h1 h2; exact ⟨h1, h2⟩
      dsimp only at hh
      by_cases q2 : 0 ≤ e0 ∧ e0 < s.size ∧ bt s e0 = 41
      rotate_left
      ·rw [if_neg q2] at hh; cases hh
      rw [if_pos q2] at hh
      obtain ⟨j, rfl⟩ : ∃ j : Nat, e0 = j := ⟨e0.toNat, by omega⟩
      have j0 : j < s.size := by omega
      obtain ⟨b2, jb⟩ : ∃ b2 : Int, ((s[j]'j0).toNat : Int) = b2 := ⟨_, rfl⟩
      have e41 : (b2 != 41) = false := by rw [← jb, byte_at j0 q2.2.2]; rfl
      have e61 : (b != 61) = false := by rw [b61]; rfl
      obtain ⟨j1, j2, j2', j3, j4, j5⟩ := j_facts j0 HSZ.out
      have e1 : (n.f1 == 0) = true := by simpa using n1'
      have i3 : wrap64 ((i : Int) + 1) = (i : Int) + 1 := Go.IntWalk.wrap64_in _ (by have := HSZ.out; omega)
      have HNUM := Am hnum
      have HA2 := Am ha2
      obtain ⟨c, hc, hh⟩ := Option.bind_eq_some_iff.mp hh
      have HC := Am hc
      have HH := Am hh
      clear hc hh
      clear q2 n1' hnum ha2 b61
      go_wp2_with (first | ((with_reducible refine Gd 7 rfl ?_); refine bF 7 HB1.out (cs := #[.int .i64 0, .int .i64 0, .int .i64 0, .int .i64 0, .int .i64 0, .int .i64 0]) (t := 69) ?_; clear HB1; intro g7 w_g7 GX_g7 GE_g7 HK_g7 HB1 BB_g7; obtain ⟨y0, y1, y2, y3, y4, y5, f0, f1, f2, f3, f4, f5⟩ := box69 HK_g7.out) | ((with_reducible refine Gd 31 rfl ?_); refine gen_l (fun W => W.heap[g7]? = some (.cells (cN n) 69 (0, 0)) ∧ Kd.R k69 69 W w.heap.size (fun _ => True) (.slice A4 all.length c4) all ∧ Kd.R (Kd.int .i64) 3 W w.heap.size (fun _ => True) (.slice A5 (op.length + 1) c5) ((op ++ [p]).map (fun (x : Nat) => (x : Int))) ∧ Below w.heap.size w W) ⟨set69_blk HK_g7.out n, Kd.R_below HS1.out (set69_bel BB_g7.out GX_g7.out n), Kd.R_below HO1.out (set69_bel BB_g7.out GX_g7.out n), set69_bel HB1.out GE_g7.out n⟩ ?_; rintro w2 ⟨hk, hs, ho, hb⟩; have HNE := Am (own_ne HS1.out GX_g7.out); have HK2 := Am hk; have HS2 := Am hs; have HO2 := Am ho; have HB2 := Am hb; clear hk hs ho hb y0 y1 y2 y3 y4 y5 f0 f1 f2 f3 f4 f5 HK_g7 BB_g7 HS1 HO1 HB1; obtain ⟨y0, y1, y2, y3, y4, y5, f0, f1, f2, f3, f4, f5⟩ := box69 HK2.out) | ((with_reducible refine gate_builtin (b := .append) (xs := #[.tmp 30, .tmp 32]) rfl ?_); at_builtin; refine Kd.R_append k69 (w0 := w) w.heap.size rfl (.tmp 30) (.tmp 32) 22 69 (.agg #[(.int .i64 0), (.int .i64 0), (.int .i64 0), (.int .i64 0), (.int .i64 0), (.int .i64 0)]) 48 rfl Tryz.underlying22 info69 rfl (by decide) (by omega) (.slice A4 all.length c4) all n [.int .i64 n.f0, .int .i64 n.f1, .int .i64 n.f2, .int .i64 n.f3, .int .i64 n.f4, .int .i64 n.f5] (fun _ => True) (fun _ => False) rfl rfl (k69_mkM _ _ _ n) (fun _ hk => hk.elim) (fun _ _ => trivial) HS2.out HB2.out HB2.out.size (by have := HQ.out; omega) ?_; intro v4 w3 ho hb hg hat; have HO3 := Am (Kd.R_over HO2.out HS2.out ne3 hg); have HK3 := Am (grown_blk hg HK2.out HNE.out); obtain ⟨g4, d4, rfl, hg4, -, -⟩ := Kd.R_form ho (by simp); rw [List.length_append, List.length_singleton] at ho ⊢; have HS3 := Am ho; have HB3 := Am hb; have HG4 := Am hg4; clear ho hb hg hat hg4 HS2 HO2 HB2 HK2 y0 y1 y2 y3 y4 y5 f0 f1 f2 f3 f4 f5; obtain ⟨y0, y1, y2, y3, y4, y5, f0, f1, f2, f3, f4, f5⟩ := box69 HK3.out; obtain ⟨z4, z5⟩ := el69 HS3.out HPL.out; rw [HM.out] at z4 z5; obtain ⟨⟨u4, hu4⟩, hf4, ⟨u5, hu5⟩, hf5, -, -, ⟨hR4, hG4⟩, ⟨hR5, hG5⟩, -⟩ := put69 HS3.out HPL.out (all.length : Int); have P4 := Am (And.intro hR4 hG4); have P5 := Am (And.intro hR5 hG5); clear hR4 hG4 hR5 hG5; obtain ⟨a5, ea5, hx5⟩ := Kd.at_int (Kd.R_reads' HO3.out).2.2 (op.length : Int) (by omega) (by simp; omega); cases ea5; rw [HX5.out, Int.toNat_natCast] at hx5; have p7 : (p < all.length + 1) = True := eq_true HPL.out; have p8 : ((p : Int) < (all.length : Int) + 1) = True := eq_true (by have := HPL.out; omega); have p9 : (0 ≤ (p : Int)) = True := eq_true (by omega)))
      refine (larchref16_number.calls 40 s ((i : Int) + 1) v j _ HNUM.out).mono ?_
      rintro _ wA ⟨rfl, hd⟩
      have HS4 : Aside0 (Kd.R k69 69 wA w.heap.size (fun _ => True) (.slice (some ⟨g4, 0, none⟩) (all.length + 1) d4) all1) := ⟨by rw [← HA1.out]; exact Kd.R_below P4.out.1 hd.below⟩
      have HO4 := Am (Kd.R_below (Kd.R_over HO3.out HS3.out ne3 P4.out.2) hd.below)
      have HB4 := Am (bel_t (grown_below P4.out.2 HB3.out HG4.out) hd.below)
      exact dd6
     ·rw [if_neg n1', Option.bind_some] at hh
      dsimp only at hh
      by_cases q2 : 0 ≤ (i : Int) ∧ (i : Int) < s.size ∧ bt s i = 41
      rotate_left
      ·rw [if_neg q2] at hh; cases hh
      rw [if_pos q2] at hh
      have e41 : (b != 41) = false := by rw [← hb, byte_at c0 q2.2.2]; rfl
      have e1 : (n.f1 == 0) = false := by simpa using n1'
      have i3 : wrap64 ((i : Int) + 1) = (i : Int) + 1 := Go.IntWalk.wrap64_in _ (by have := HSZ.out; omega)
      obtain ⟨c, hc, hh⟩ := Option.bind_eq_some_iff.mp hh
      have HC := Am hc
      have HH := Am hh
      clear hc hh
      clear q2 n1'
      go_wp2_with (first | ((with_reducible refine Gd 7 rfl ?_); refine bF 7 HB1.out (cs := #[.int .i64 0, .int .i64 0, .int .i64 0, .int .i64 0, .int .i64 0, .int .i64 0]) (t := 69) ?_; clear HB1; intro g7 w_g7 GX_g7 GE_g7 HK_g7 HB1 BB_g7; obtain ⟨y0, y1, y2, y3, y4, y5, f0, f1, f2, f3, f4, f5⟩ := box69 HK_g7.out) | ((with_reducible refine Gd 31 rfl ?_); refine gen_l (fun W => W.heap[g7]? = some (.cells (cN n) 69 (0, 0)) ∧ Kd.R k69 69 W w.heap.size (fun _ => True) (.slice A4 all.length c4) all ∧ Kd.R (Kd.int .i64) 3 W w.heap.size (fun _ => True) (.slice A5 (op.length + 1) c5) ((op ++ [p]).map (fun (x : Nat) => (x : Int))) ∧ Below w.heap.size w W) ⟨set69_blk HK_g7.out n, Kd.R_below HS1.out (set69_bel BB_g7.out GX_g7.out n), Kd.R_below HO1.out (set69_bel BB_g7.out GX_g7.out n), set69_bel HB1.out GE_g7.out n⟩ ?_; rintro w2 ⟨hk, hs, ho, hb⟩; have HNE := Am (own_ne HS1.out GX_g7.out); have HK2 := Am hk; have HS2 := Am hs; have HO2 := Am ho; have HB2 := Am hb; clear hk hs ho hb y0 y1 y2 y3 y4 y5 f0 f1 f2 f3 f4 f5 HK_g7 BB_g7 HS1 HO1 HB1; obtain ⟨y0, y1, y2, y3, y4, y5, f0, f1, f2, f3, f4, f5⟩ := box69 HK2.out) | ((with_reducible refine gate_builtin (b := .append) (xs := #[.tmp 30, .tmp 32]) rfl ?_); at_builtin; refine Kd.R_append k69 (w0 := w) w.heap.size rfl (.tmp 30) (.tmp 32) 22 69 (.agg #[(.int .i64 0), (.int .i64 0), (.int .i64 0), (.int .i64 0), (.int .i64 0), (.int .i64 0)]) 48 rfl Tryz.underlying22 info69 rfl (by decide) (by omega) (.slice A4 all.length c4) all n [.int .i64 n.f0, .int .i64 n.f1, .int .i64 n.f2, .int .i64 n.f3, .int .i64 n.f4, .int .i64 n.f5] (fun _ => True) (fun _ => False) rfl rfl (k69_mkM _ _ _ n) (fun _ hk => hk.elim) (fun _ _ => trivial) HS2.out HB2.out HB2.out.size (by have := HQ.out; omega) ?_; intro v4 w3 ho hb hg hat; have HO3 := Am (Kd.R_over HO2.out HS2.out ne3 hg); have HK3 := Am (grown_blk hg HK2.out HNE.out); obtain ⟨g4, d4, rfl, hg4, -, -⟩ := Kd.R_form ho (by simp); rw [List.length_append, List.length_singleton] at ho ⊢; have HS3 := Am ho; have HB3 := Am hb; have HG4 := Am hg4; clear ho hb hg hat hg4 HS2 HO2 HB2 HK2 y0 y1 y2 y3 y4 y5 f0 f1 f2 f3 f4 f5; obtain ⟨y0, y1, y2, y3, y4, y5, f0, f1, f2, f3, f4, f5⟩ := box69 HK3.out; obtain ⟨z4, z5⟩ := el69 HS3.out HPL.out; rw [HM.out] at z4 z5; obtain ⟨⟨u4, hu4⟩, hf4, ⟨u5, hu5⟩, hf5, -, -, ⟨hR4, hG4⟩, ⟨hR5, hG5⟩, -⟩ := put69 HS3.out HPL.out (all.length : Int); have P4 := Am (And.intro hR4 hG4); have P5 := Am (And.intro hR5 hG5); clear hR4 hG4 hR5 hG5; obtain ⟨a5, ea5, hx5⟩ := Kd.at_int (Kd.R_reads' HO3.out).2.2 (op.length : Int) (by omega) (by simp; omega); cases ea5; rw [HX5.out, Int.toNat_natCast] at hx5; have p7 : (p < all.length + 1) = True := eq_true HPL.out; have p8 : ((p : Int) < (all.length : Int) + 1) = True := eq_true (by have := HPL.out; omega); have p9 : (0 ≤ (p : Int)) = True := eq_true (by omega)))
      have HS4 : Aside0 (Kd.R k69 69 _ w.heap.size (fun _ => True) (.slice (some ⟨g4, 0, none⟩) (all.length + 1) d4) all1) := ⟨by rw [← HA1.out]; exact P4.out.1⟩
      have HO4 := Am (Kd.R_over HO3.out HS3.out ne3 P4.out.2)
      have HB4 := Am (grown_below P4.out.2 HB3.out HG4.out)
      exact dd7
    ·rw [lkN, hm, if_neg e4] at hh
     have e4' : (m.f4 == -1) = false := by simpa using e4
     obtain ⟨all1, ha1⟩ : ∃ l, (all ++ [n]).set p { m with f5 := (all.length : Int) } = l := ⟨_, rfl⟩
     rw [ha1] at hh
     rw [← hm] at ha1
     have HA1 := Am ha1
     clear ha1 hm e4
     by_cases n1' : n.f1 = 0
     ·rw [if_pos n1'] at hh
      by_cases b61 : b = 61
      rotate_left
      ·rw [if_neg b61] at hh; cases hh
      rw [if_pos b61] at hh
      obtain ⟨⟨a2, e2⟩, hr2, hh⟩ := Option.bind_eq_some_iff.mp hh
      obtain ⟨⟨v, e0⟩, hnum, hr2⟩ := Option.bind_eq_some_iff.mp hr2
      obtain ⟨ha2, rfl⟩ : all1.set all.length { all1.getD all.length z69 with f3 := v } = a2 ∧ e0 = e2 := by injection hr2 with hr2; injection hr2 with h1 h2; exact ⟨h1, h2⟩
      dsimp only at hh
      by_cases q2 : 0 ≤ e0 ∧ e0 < s.size ∧ bt s e0 = 41
      rotate_left
      ·rw [if_neg q2] at hh; cases hh
      rw [if_pos q2] at hh
      obtain ⟨j, rfl⟩ : ∃ j : Nat, e0 = j := ⟨e0.toNat, by omega⟩
      have j0 : j < s.size := by omega
      obtain ⟨b2, jb⟩ : ∃ b2 : Int, ((s[j]'j0).toNat : Int) = b2 := ⟨_, rfl⟩
      have e41 : (b2 != 41) = false := by rw [← jb, byte_at j0 q2.2.2]; rfl
      have e61 : (b != 61) = false := by rw [b61]; rfl
      obtain ⟨j1, j2, j2', j3, j4, j5⟩ := j_facts j0 HSZ.out
      have e1 : (n.f1 == 0) = true := by simpa using n1'
      have i3 : wrap64 ((i : Int) + 1) = (i : Int) + 1 := Go.IntWalk.wrap64_in _ (by have := HSZ.out; omega)
      have HNUM := Am hnum
      have HA2 := Am ha2
      obtain ⟨c, hc, hh⟩ := Option.bind_eq_some_iff.mp hh
      have HC := Am hc
      have HH := Am hh
      clear hc hh
      clear q2 n1' hnum ha2 b61
      go_wp2_with (first | ((with_reducible refine Gd 7 rfl ?_); refine bF 7 HB1.out (cs := #[.int .i64 0, .int .i64 0, .int .i64 0, .int .i64 0, .int .i64 0, .int .i64 0]) (t := 69) ?_; clear HB1; intro g7 w_g7 GX_g7 GE_g7 HK_g7 HB1 BB_g7; obtain ⟨y0, y1, y2, y3, y4, y5, f0, f1, f2, f3, f4, f5⟩ := box69 HK_g7.out) | ((with_reducible refine Gd 31 rfl ?_); refine gen_l (fun W => W.heap[g7]? = some (.cells (cN n) 69 (0, 0)) ∧ Kd.R k69 69 W w.heap.size (fun _ => True) (.slice A4 all.length c4) all ∧ Kd.R (Kd.int .i64) 3 W w.heap.size (fun _ => True) (.slice A5 (op.length + 1) c5) ((op ++ [p]).map (fun (x : Nat) => (x : Int))) ∧ Below w.heap.size w W) ⟨set69_blk HK_g7.out n, Kd.R_below HS1.out (set69_bel BB_g7.out GX_g7.out n), Kd.R_below HO1.out (set69_bel BB_g7.out GX_g7.out n), set69_bel HB1.out GE_g7.out n⟩ ?_; rintro w2 ⟨hk, hs, ho, hb⟩; have HNE := Am (own_ne HS1.out GX_g7.out); have HK2 := Am hk; have HS2 := Am hs; have HO2 := Am ho; have HB2 := Am hb; clear hk hs ho hb y0 y1 y2 y3 y4 y5 f0 f1 f2 f3 f4 f5 HK_g7 BB_g7 HS1 HO1 HB1; obtain ⟨y0, y1, y2, y3, y4, y5, f0, f1, f2, f3, f4, f5⟩ := box69 HK2.out) | ((with_reducible refine gate_builtin (b := .append) (xs := #[.tmp 30, .tmp 32]) rfl ?_); at_builtin; refine Kd.R_append k69 (w0 := w) w.heap.size rfl (.tmp 30) (.tmp 32) 22 69 (.agg #[(.int .i64 0), (.int .i64 0), (.int .i64 0), (.int .i64 0), (.int .i64 0), (.int .i64 0)]) 48 rfl Tryz.underlying22 info69 rfl (by decide) (by omega) (.slice A4 all.length c4) all n [.int .i64 n.f0, .int .i64 n.f1, .int .i64 n.f2, .int .i64 n.f3, .int .i64 n.f4, .int .i64 n.f5] (fun _ => True) (fun _ => False) rfl rfl (k69_mkM _ _ _ n) (fun _ hk => hk.elim) (fun _ _ => trivial) HS2.out HB2.out HB2.out.size (by have := HQ.out; omega) ?_; intro v4 w3 ho hb hg hat; have HO3 := Am (Kd.R_over HO2.out HS2.out ne3 hg); have HK3 := Am (grown_blk hg HK2.out HNE.out); obtain ⟨g4, d4, rfl, hg4, -, -⟩ := Kd.R_form ho (by simp); rw [List.length_append, List.length_singleton] at ho ⊢; have HS3 := Am ho; have HB3 := Am hb; have HG4 := Am hg4; clear ho hb hg hat hg4 HS2 HO2 HB2 HK2 y0 y1 y2 y3 y4 y5 f0 f1 f2 f3 f4 f5; obtain ⟨y0, y1, y2, y3, y4, y5, f0, f1, f2, f3, f4, f5⟩ := box69 HK3.out; obtain ⟨z4, z5⟩ := el69 HS3.out HPL.out; rw [HM.out] at z4 z5; obtain ⟨⟨u4, hu4⟩, hf4, ⟨u5, hu5⟩, hf5, -, -, ⟨hR4, hG4⟩, ⟨hR5, hG5⟩, -⟩ := put69 HS3.out HPL.out (all.length : Int); have P4 := Am (And.intro hR4 hG4); have P5 := Am (And.intro hR5 hG5); clear hR4 hG4 hR5 hG5; obtain ⟨a5, ea5, hx5⟩ := Kd.at_int (Kd.R_reads' HO3.out).2.2 (op.length : Int) (by omega) (by simp; omega); cases ea5; rw [HX5.out, Int.toNat_natCast] at hx5; have p7 : (p < all.length + 1) = True := eq_true HPL.out; have p8 : ((p : Int) < (all.length : Int) + 1) = True := eq_true (by have := HPL.out; omega); have p9 : (0 ≤ (p : Int)) = True := eq_true (by omega)))
      refine (larchref16_number.calls 40 s ((i : Int) + 1) v j _ HNUM.out).mono ?_
      rintro _ wA ⟨rfl, hd⟩
      have HS4 : Aside0 (Kd.R k69 69 wA w.heap.size (fun _ => True) (.slice (some ⟨g4, 0, none⟩) (all.length + 1) d4) all1) := ⟨by rw [← HA1.out]; exact Kd.R_below P5.out.1 hd.below⟩
      have HO4 := Am (Kd.R_below (Kd.R_over HO3.out HS3.out ne3 P5.out.2) hd.below)
      have HB4 := Am (bel_t (grown_below P5.out.2 HB3.out HG4.out) hd.below)
      exact dd6
     ·rw [if_neg n1', Option.bind_some] at hh
      dsimp only at hh
      by_cases q2 : 0 ≤ (i : Int) ∧ (i : Int) < s.size ∧ bt s i = 41
      rotate_left
      ·rw [if_neg q2] at hh; cases hh
      rw [if_pos q2] at hh
      have e41 : (b != 41) = false := by rw [← hb, byte_at c0 q2.2.2]; rfl
      have e1 : (n.f1 == 0) = false := by simpa using n1'
      have i3 : wrap64 ((i : Int) + 1) = (i : Int) + 1 := Go.IntWalk.wrap64_in _ (by have := HSZ.out; omega)
      obtain ⟨c, hc, hh⟩ := Option.bind_eq_some_iff.mp hh
      have HC := Am hc
      have HH := Am hh
      clear hc hh
      clear q2 n1'
      go_wp2_with (first | ((with_reducible refine Gd 7 rfl ?_); refine bF 7 HB1.out (cs := #[.int .i64 0, .int .i64 0, .int .i64 0, .int .i64 0, .int .i64 0, .int .i64 0]) (t := 69) ?_; clear HB1; intro g7 w_g7 GX_g7 GE_g7 HK_g7 HB1 BB_g7; obtain ⟨y0, y1, y2, y3, y4, y5, f0, f1, f2, f3, f4, f5⟩ := box69 HK_g7.out) | ((with_reducible refine Gd 31 rfl ?_); refine gen_l (fun W => W.heap[g7]? = some (.cells (cN n) 69 (0, 0)) ∧ Kd.R k69 69 W w.heap.size (fun _ => True) (.slice A4 all.length c4) all ∧ Kd.R (Kd.int .i64) 3 W w.heap.size (fun _ => True) (.slice A5 (op.length + 1) c5) ((op ++ [p]).map (fun (x : Nat) => (x : Int))) ∧ Below w.heap.size w W) ⟨set69_blk HK_g7.out n, Kd.R_below HS1.out (set69_bel BB_g7.out GX_g7.out n), Kd.R_below HO1.out (set69_bel BB_g7.out GX_g7.out n), set69_bel HB1.out GE_g7.out n⟩ ?_; rintro w2 ⟨hk, hs, ho, hb⟩; have HNE := Am (own_ne HS1.out GX_g7.out); have HK2 := Am hk; have HS2 := Am hs; have HO2 := Am ho; have HB2 := Am hb; clear hk hs ho hb y0 y1 y2 y3 y4 y5 f0 f1 f2 f3 f4 f5 HK_g7 BB_g7 HS1 HO1 HB1; obtain ⟨y0, y1, y2, y3, y4, y5, f0, f1, f2, f3, f4, f5⟩ := box69 HK2.out) | ((with_reducible refine gate_builtin (b := .append) (xs := #[.tmp 30, .tmp 32]) rfl ?_); at_builtin; refine Kd.R_append k69 (w0 := w) w.heap.size rfl (.tmp 30) (.tmp 32) 22 69 (.agg #[(.int .i64 0), (.int .i64 0), (.int .i64 0), (.int .i64 0), (.int .i64 0), (.int .i64 0)]) 48 rfl Tryz.underlying22 info69 rfl (by decide) (by omega) (.slice A4 all.length c4) all n [.int .i64 n.f0, .int .i64 n.f1, .int .i64 n.f2, .int .i64 n.f3, .int .i64 n.f4, .int .i64 n.f5] (fun _ => True) (fun _ => False) rfl rfl (k69_mkM _ _ _ n) (fun _ hk => hk.elim) (fun _ _ => trivial) HS2.out HB2.out HB2.out.size (by have := HQ.out; omega) ?_; intro v4 w3 ho hb hg hat; have HO3 := Am (Kd.R_over HO2.out HS2.out ne3 hg); have HK3 := Am (grown_blk hg HK2.out HNE.out); obtain ⟨g4, d4, rfl, hg4, -, -⟩ := Kd.R_form ho (by simp); rw [List.length_append, List.length_singleton] at ho ⊢; have HS3 := Am ho; have HB3 := Am hb; have HG4 := Am hg4; clear ho hb hg hat hg4 HS2 HO2 HB2 HK2 y0 y1 y2 y3 y4 y5 f0 f1 f2 f3 f4 f5; obtain ⟨y0, y1, y2, y3, y4, y5, f0, f1, f2, f3, f4, f5⟩ := box69 HK3.out; obtain ⟨z4, z5⟩ := el69 HS3.out HPL.out; rw [HM.out] at z4 z5; obtain ⟨⟨u4, hu4⟩, hf4, ⟨u5, hu5⟩, hf5, -, -, ⟨hR4, hG4⟩, ⟨hR5, hG5⟩, -⟩ := put69 HS3.out HPL.out (all.length : Int); have P4 := Am (And.intro hR4 hG4); have P5 := Am (And.intro hR5 hG5); clear hR4 hG4 hR5 hG5; obtain ⟨a5, ea5, hx5⟩ := Kd.at_int (Kd.R_reads' HO3.out).2.2 (op.length : Int) (by omega) (by simp; omega); cases ea5; rw [HX5.out, Int.toNat_natCast] at hx5; have p7 : (p < all.length + 1) = True := eq_true HPL.out; have p8 : ((p : Int) < (all.length : Int) + 1) = True := eq_true (by have := HPL.out; omega); have p9 : (0 ≤ (p : Int)) = True := eq_true (by omega)))
      have HS4 : Aside0 (Kd.R k69 69 _ w.heap.size (fun _ => True) (.slice (some ⟨g4, 0, none⟩) (all.length + 1) d4) all1) := ⟨by rw [← HA1.out]; exact P5.out.1⟩
      have HO4 := Am (Kd.R_over HO3.out HS3.out ne3 P5.out.2)
      have HB4 := Am (grown_below P5.out.2 HB3.out HG4.out)
      exact dd7
end
section
open Go.Proofs.YtaabbaemfnecgaaGreat.V
def belowB (m : ByteArray) : ByteArray := (⟨#[40, 105, 110, 102, 58, 49, 32, 40, 105, 110, 102, 58, 49, 32]⟩ : ByteArray) ++ m ++ (⟨#[32, 40, 105, 110, 102, 58, 49, 41, 41, 32, 40, 105, 110, 102, 58, 49, 41, 41]⟩ : ByteArray)
theorem below_calls (m : ByteArray) (r : List S69) (w : World) (hm : m.size ≤ 1000000) (h : larchref16_Read.f (belowB m) = some r) :
  Calls Tryz.prog 46 #[.string m] w fun e w' => ∃ v, e = .returned v ∧ Kd.R k69 69 w' w.heap.size (fun _ => True) v r ∧ Below w.heap.size w w' := by
 have H := Am h
 have q1 : (9223372036854775807 < 14 + m.size) = False := eq_false (by omega)
 have q2 : (9223372036854775807 < 14 + m.size + 18) = False := eq_false (by omega)
 have q3 : (14 + m.size > 9223372036854775807) = False := eq_false (by omega)
 have q4 : (14 + m.size + 18 > 9223372036854775807) = False := eq_false (by omega)
 have q5 : ¬ (9223372036854775807 < 14 + m.size) := by omega
 have q6 : ¬ (9223372036854775807 < 14 + m.size + 18) := by omega
 clear h hm
 go_enter Tryz.func46, Tryz.ntmps46
 go_wp2_with (fail)
 refine (larchref16_Read.calls (belowB m) r _ H.out).mono ?_
 rintro _ w1 ⟨v1, rfl, hR, hb⟩
 have HR := Am hR
 have HB := Am hb
 clear hR hb
 go_wp2
 go_ret
 exact ⟨_, rfl, HR.out, HB.out⟩
def txt1 : ByteArray := ⟨#[40, 50, 58, 49, 32, 40, 49, 58, 49, 61, 49, 48, 41, 32, 40, 51, 58, 48, 32, 40, 50, 58, 49, 61, 50, 48, 41, 32, 40, 51, 58, 49, 61, 51, 48, 41, 41, 41]⟩
def txt2 : ByteArray := ⟨#[40, 51, 58, 49, 32, 40, 50, 58, 48, 32, 40, 49, 58, 49, 61, 49, 48, 41, 32, 40, 50, 58, 49, 61, 50, 48, 41, 41, 32, 40, 52, 58, 48, 32, 40, 51, 58, 49, 61, 51, 48, 41, 32, 40, 52, 58, 49, 61, 52, 48, 41, 41, 41]⟩
def T1 : List S69 := [⟨0, 1, 1, 0, 1, 8⟩, ⟨0, 1, 1, 0, 2, 7⟩, ⟨2, 0, 1, 0, 3, 4⟩, ⟨1, 0, 1, 10, -1, -1⟩, ⟨3, 0, 0, 0, 5, 6⟩, ⟨2, 0, 1, 20, -1, -1⟩, ⟨3, 0, 1, 30, -1, -1⟩, ⟨0, 1, 1, 0, -1, -1⟩, ⟨0, 1, 1, 0, -1, -1⟩]
def T3 : List S69 := [⟨0, 1, 1, 0, 1, 10⟩, ⟨0, 1, 1, 0, 2, 9⟩, ⟨3, 0, 1, 0, 3, 6⟩, ⟨2, 0, 0, 0, 4, 5⟩, ⟨1, 0, 1, 10, -1, -1⟩, ⟨2, 0, 1, 20, -1, -1⟩, ⟨4, 0, 0, 0, 7, 8⟩, ⟨3, 0, 1, 30, -1, -1⟩, ⟨4, 0, 1, 40, -1, -1⟩, ⟨0, 1, 1, 0, -1, -1⟩, ⟨0, 1, 1, 0, -1, -1⟩]
theorem txt1_read : larchref16_Read.f (belowB txt1) = some T1 := by kernel_rfl
theorem txt2_read : larchref16_Read.f (belowB txt2) = some T3 := by kernel_rfl
end
section
open Go.Proofs.YtaabbaemfnecgaaGreat.V
def L3 : List S71 := [⟨1, 10⟩, ⟨2, 20⟩, ⟨3, 30⟩]
theorem l3_at {w W : World} {A : Option Addr} (h : Kd.C k71 w A 3 L3) (hb : Below w.heap.size w W) : ∃ ad, A = some ad ∧ W.cell? ad = some (.int .i64 1) ∧ W.cell? ⟨ad.block, ad.off + 1, none⟩ = some (.int .i64 10) ∧ W.cell? ⟨ad.block, ad.off + 2, none⟩ = some (.int .i64 2) ∧ W.cell? ⟨ad.block, ad.off + 2 + 1, none⟩ = some (.int .i64 20) ∧ W.cell? ⟨ad.block, ad.off + 4, none⟩ = some (.int .i64 3) ∧ W.cell? ⟨ad.block, ad.off + 4 + 1, none⟩ = some (.int .i64 30) := by
 obtain ⟨ad, e, h0, h1⟩ := at_T71 (Kd.C_below h hb) 0 (by decide) (by decide)
 obtain ⟨ad1, e1, h2, h3⟩ := at_T71 (Kd.C_below h hb) 1 (by decide) (by decide)
 obtain ⟨ad2, e2, h4, h5⟩ := at_T71 (Kd.C_below h hb) 2 (by decide) (by decide)
 subst e
 cases e1
 cases e2
 exact ⟨ad, rfl, by simpa [rd_T71, L3, Addr.add] using h0, by simpa [rd_T71, L3, Addr.add] using h1, h2, h3, h4, h5⟩
theorem cellB {w W : World} (hb : Below w.heap.size w W) {a : Addr} {v : Value} (h : w.cell? a = some v) : W.cell? a = some v := (hb.cell (blt w a h)).trans h
section
variable {P : Program} {ops : Array Oper} {Q : Exit → Act → World → Prop}
theorem goesV_ {oi : Oper} {N : Option Tmp} {a : Act} {w : World} {K : Act → World → Prop} {f : FuncId} {fn : Func} {o : Operand} {as_ : Array Operand} {ts : Array TypeId} (hf : P.funcs[f]? = some fn) (hname : (fn.name == "runtime.NumGoroutine") = false) (hb : fn.body.isSome = true) (args : Array Value)
  (hw : Region.wanted oi (yielded ops a.tmps) = true) (hN : oi.dst = N) (hop : oi.op = .call { callee := .value o, args := as_, argTypes := ts }) (hv : a.eval o = .func (.func f) #[] #[]) (hargs : as_.map a.eval = args)
  (h : Calls P f args w fun e w' => ∃ v, e = .returned v ∧ K (a.put N v) w') : if Region.wanted oi (yielded ops a.tmps) = true then Oper.wp P oi a w K Q else K (a.put N undef) w := by
 refine call_ f args hw hN ?_ h
 have he := enters_ hf hname hb args w
 unfold execOp
 simp [hop, resolve, Deferred.ofValue, invoke, hv, hargs, he]
end
theorem bx2 {w : World} {g : Nat} {t : TypeId} {a b : Value} (h : w.heap[g]? = some (.cells #[a, b] t (0, 0))) : w.cell? ⟨g, 0, none⟩ = some a ∧ w.cell? ⟨g, 1, none⟩ = some b := ⟨blk_cell h 0, blk_cell h 1⟩
theorem bsf_calls (A0 : Option Addr) (c0 : Nat) (w : World) (hr0 : Kd.C k71 w A0 3 L3) :
  Calls Tryz.prog 170 #[.slice A0 3 c0, .agg #[.int .i64 4, .int .i64 0], .func (.func 90) #[] #[]] w (RB w (.tuple #[.int .i64 3, .bool false])) := by
 have HR := Am hr0
 have HB := Br w
 clear hr0
 go_enter Tryz.func170, Tryz.ntmps170
 go_wp2_with (((with_reducible refine Gd 4 rfl ?_); refine bF 4 HB.out (cs := #[.int .i64 4, .int .i64 0]) (t := 71) ?_; clear HB; intro g4 w_g4 GX_g4 GE_g4 HK_g4 HB BB_g4))
 go_loopg [9, 10] 4 (fun kq v9 v10 w' => ((kq = 4 ∧ v9 = .int .i64 0 ∧ v10 = .int .i64 3) ∨ (kq = 3 ∧ v9 = .int .i64 2 ∧ v10 = .int .i64 3) ∨ (kq = 2 ∧ v9 = .int .i64 3 ∧ v10 = .int .i64 3)) ∧ Aside0 (w'.heap[g4]? = some (.cells #[.int .i64 4, .int .i64 0] 71 (0, 0))) ∧ Aside0 (Below w.heap.size w w'))
 case atStart => exact ⟨.inl ⟨rfl, rfl, rfl⟩, HK_g4, HB⟩
 case round =>
  clear HB HK_g4
  obtain ⟨ho, HK, HB⟩ := hrel
  obtain ⟨ad, rfl, x0, x1, x2, x3, x4, x5⟩ := l3_at HR.out HB.out
  obtain ⟨y0, y1⟩ := bx2 HK.out
  rcases ho with ⟨rfl, rfl, rfl⟩ | ⟨rfl, rfl, rfl⟩ | ⟨rfl, rfl, rfl⟩
  ·go_wp2_with (fail)
   refine sT 8 [7] (S := fun W' => Below wr.heap.size wr W') ((Below.refl _ _).drew) fun hHeld => ?_
   refine gen_any (fun W => Below wr.heap.size wr W) hHeld (fun w2 hHeld => ?_)
   refine pu 0 24 ?_
   refine pu 1 25 ?_
   refine pu 2 26 ?_
   refine pu 3 27 ?_
   refine ta 4 28 hHeld (hy := by intro w' hs; have e0 := cellB hs x2; have e1 := cellB hs x3; exact gz) ?_
   refine ta 5 29 hHeld (hy := by intro w' hs; have e0 := cellB hs y0; have e1 := cellB hs y1; exact gz) ?_
   refine on 6 30 fun K hK => ?_
   refine goesV_ Tryz.func90 (by kernel_rfl) rfl #[.agg #[.int .i64 2, .int .i64 20], .agg #[.int .i64 4, .int .i64 0]] (by rfl) rfl rfl (by rfl) (by (try simp only [List.map_toArray, List.map_cons, List.map_nil]); first | done | rfl) ?_
   refine (model_byKey.calls 2 20 4 0 (-1) _ (by rfl)).mono ?_
   rintro _ w3 ⟨rfl, hb3⟩
   refine ⟨_, rfl, ?_⟩
   refine hK.out _ _ (bel_t hHeld hb3) (fun hHeld => ?_)
   clear hK K hb3
   refine nm 30 ?_
   refine pu 7 31 ?_
   refine done_ (by kernel_rfl) ?_
   have HK3 := Am (blkB hHeld HK.out)
   have HB3 := Am (bel_t HB.out hHeld)
   clear hHeld HK HB x0 x1 x2 x3 x4 x5 y0 y1
   go_wp2
   go_roundg 3
   case measure => omega
   case rel => exact ⟨.inr (.inl ⟨rfl, rfl, rfl⟩), HK3, HB3⟩
  ·go_wp2_with (fail)
   refine sT 8 [7] (S := fun W' => Below wr.heap.size wr W') ((Below.refl _ _).drew) fun hHeld => ?_
   refine gen_any (fun W => Below wr.heap.size wr W) hHeld (fun w2 hHeld => ?_)
   refine pu 0 24 ?_
   refine pu 1 25 ?_
   refine pu 2 26 ?_
   refine pu 3 27 ?_
   refine ta 4 28 hHeld (hy := by intro w' hs; have e0 := cellB hs x4; have e1 := cellB hs x5; exact gz) ?_
   refine ta 5 29 hHeld (hy := by intro w' hs; have e0 := cellB hs y0; have e1 := cellB hs y1; exact gz) ?_
   refine on 6 30 fun K hK => ?_
   refine goesV_ Tryz.func90 (by kernel_rfl) rfl #[.agg #[.int .i64 3, .int .i64 30], .agg #[.int .i64 4, .int .i64 0]] (by rfl) rfl rfl (by rfl) (by (try simp only [List.map_toArray, List.map_cons, List.map_nil]); first | done | rfl) ?_
   refine (model_byKey.calls 3 30 4 0 (-1) _ (by rfl)).mono ?_
   rintro _ w3 ⟨rfl, hb3⟩
   refine ⟨_, rfl, ?_⟩
   refine hK.out _ _ (bel_t hHeld hb3) (fun hHeld => ?_)
   clear hK K hb3
   refine nm 30 ?_
   refine pu 7 31 ?_
   refine done_ (by kernel_rfl) ?_
   have HK3 := Am (blkB hHeld HK.out)
   have HB3 := Am (bel_t HB.out hHeld)
   clear hHeld HK HB x0 x1 x2 x3 x4 x5 y0 y1
   go_wp2
   go_roundg 2
   case measure => omega
   case rel => exact ⟨.inr (.inr ⟨rfl, rfl, rfl⟩), HK3, HB3⟩
  ·go_wp2_with (fail)
   refine sT 16 [] (S := fun W' => Below wr.heap.size wr W') ((Below.refl _ _).drew) fun hHeld => ?_
   refine gen_any (fun W => Below wr.heap.size wr W) hHeld (fun w2 hHeld => ?_)
   refine pu 0 35 ?_
   refine pu 1 36 ?_
   refine pu 2 37 ?_
   refine pu 3 38 ?_
   refine pu 4 39 ?_
   refine po 5 40 ?_
   refine po 6 41 ?_
   refine po 7 42 ?_
   refine po 8 43 ?_
   refine po 9 44 ?_
   refine po 10 45 ?_
   refine po 11 46 ?_
   refine po 12 47 ?_
   refine pu 13 48 ?_
   refine pu 14 6 ?_
   refine pu 15 7 ?_
   refine done_ (by kernel_rfl) ?_
   go_wp2
   go_ret2
   exact ⟨rfl, bel_t HB.out hHeld⟩
end
end Go.Proofs.YtaabbaemfnecgaaGreat.T
