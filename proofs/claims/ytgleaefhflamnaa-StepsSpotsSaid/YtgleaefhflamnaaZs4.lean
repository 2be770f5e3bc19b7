/- A part of the proof: see YtgleaefhflamnaaLawStepsSpots. -/
import Derived.Test.YtgleaefhflamnaaZs3
set_option linter.unusedVariables false
set_option linter.unusedSimpArgs false
namespace Go.Proofs.Ytgleaefhflamnaa.T
open Go.RowKit Go.Proofs.YtgleaefhflamnaaW.PrintWords Go.Proofs.YtgleaefhflamnaaW.PrintLast Go.Proofs.YtgleaefhflamnaaW.PrintMore
attribute [local go_sem] max2_int min2_int max_two min_two max_three min_three max_four min_four   -- for this text's walks alone
set_option linter.unusedVariables false
set_option linter.unusedSimpArgs false
mutual
def larchref16_node.j0 : Nat → Int → Bool → Int → Int → Int → Int → Int → Int → Option (Bool)
 | 0, _, _, _, _, _, _, _, _ => none
 | k + 1, x1, x5, x509000, x509001, x509002, x509003, x509004, x509005 => if x5 = true then (larchref16_node.j1 k x5 false x509000 x509001 x509002 x509003 x509004 x509005) else (if x509004 < 1 then (larchref16_node.j1 k x5 true x509000 x509001 x509002 x509003 x509004 x509005) else (if x509004 ≥ x1 then (larchref16_node.j1 k x5 true x509000 x509001 x509002 x509003 x509004 x509005) else (if x509005 < 1 then (larchref16_node.j1 k x5 true x509000 x509001 x509002 x509003 x509004 x509005) else (if x509005 ≥ x1 then (larchref16_node.j1 k x5 true x509000 x509001 x509002 x509003 x509004 x509005) else (larchref16_node.j1 k x5 (x509004 == x509005) x509000 x509001 x509002 x509003 x509004 x509005)))))
def larchref16_node.j1 : Nat → Bool → Bool → Int → Int → Int → Int → Int → Int → Option (Bool)
 | 0, _, _, _, _, _, _, _, _ => none
 | k + 1, x5, x44, x509000, x509001, x509002, x509003, x509004, x509005 => if x44 = true then (some false) else (if x509001 = 0 then (if x509001 = 1 then (if x509000 = 0 then (if x509003 = 0 then (if x5 = true then (if x509002 ≥ 0 then (some (decide (x509002 ≤ 1000000))) else (some false)) else (if x509002 ≥ 0 then (some (decide (x509002 ≤ 1000000))) else (some false))) else (some false)) else (some false)) else (if x5 = true then (if x509002 ≥ 0 then (some (decide (x509002 ≤ 1000000))) else (some false)) else (if x509003 = 0 then (if x509002 ≥ 0 then (some (decide (x509002 ≤ 1000000))) else (some false)) else (some false)))) else (if x509001 = 1 then (if x509000 = 0 then (if x509003 = 0 then (if x5 = true then (if x509002 ≥ 0 then (some (decide (x509002 ≤ 1000000))) else (some false)) else (if x509002 ≥ 0 then (some (decide (x509002 ≤ 1000000))) else (some false))) else (some false)) else (some false)) else (some false)))
end
def larchref16_node.f (k : Nat) (a0_0 : Int) (a0_1 : Int) (a0_2 : Int) (a0_3 : Int) (a0_4 : Int) (a0_5 : Int) (a1 : Int) : Option (Bool) := if a0_4 = (-1) then (larchref16_node.j0 k a1 (a0_5 == (-1)) a0_0 a0_1 a0_2 a0_3 a0_4 a0_5) else (larchref16_node.j0 k a1 false a0_0 a0_1 a0_2 a0_3 a0_4 a0_5)
theorem larchref16_node.mono_l : ∀ k, (∀ y0 y1 y2 y3 y4 y5 y6 y7, LeO (larchref16_node.j0 k y0 y1 y2 y3 y4 y5 y6 y7) (larchref16_node.j0 (k + 1) y0 y1 y2 y3 y4 y5 y6 y7)) ∧ (∀ y0 y1 y2 y3 y4 y5 y6 y7, LeO (larchref16_node.j1 k y0 y1 y2 y3 y4 y5 y6 y7) (larchref16_node.j1 (k + 1) y0 y1 y2 y3 y4 y5 y6 y7))
 | 0 => ⟨fun _ _ _ _ _ _ _ _ r h => by simp [larchref16_node.j0] at h, fun _ _ _ _ _ _ _ _ r h => by simp [larchref16_node.j1] at h⟩
 | k + 1 => by
  obtain ⟨ih0, ih1⟩ := larchref16_node.mono_l k
  refine ⟨?_, ?_⟩
  ·intro y0 y1 y2 y3 y4 y5 y6 y7
   unfold larchref16_node.j0
   repeat' first
   | (with_reducible exact ih0 _ _ _ _ _ _ _ _)
   | (with_reducible exact ih1 _ _ _ _ _ _ _ _)
   | (with_reducible exact LeO.refl _)
   | (with_reducible exact LeO.none _)
   | (with_reducible refine LeO.ite ?_ ?_)
   | (with_reducible refine LeO.bind ?_ (fun _ => ?_))
   | exact ih0 _ _ _ _ _ _ _ _
   | exact ih1 _ _ _ _ _ _ _ _
   | exact LeO.none _
   | refine LeO.ite ?_ ?_
   | refine LeO.bind ?_ (fun _ => ?_)
  ·intro y0 y1 y2 y3 y4 y5 y6 y7
   unfold larchref16_node.j1
   repeat' first
   | (with_reducible exact ih0 _ _ _ _ _ _ _ _)
   | (with_reducible exact ih1 _ _ _ _ _ _ _ _)
   | (with_reducible exact LeO.refl _)
   | (with_reducible exact LeO.none _)
   | (with_reducible refine LeO.ite ?_ ?_)
   | (with_reducible refine LeO.bind ?_ (fun _ => ?_))
   | exact ih0 _ _ _ _ _ _ _ _
   | exact ih1 _ _ _ _ _ _ _ _
   | exact LeO.none _
   | refine LeO.ite ?_ ?_
   | refine LeO.bind ?_ (fun _ => ?_)
theorem larchref16_node.mono : ∀ a0 a1 a2 a3 a4 a5 a6 k, LeO (larchref16_node.f k a0 a1 a2 a3 a4 a5 a6) (larchref16_node.f (k + 1) a0 a1 a2 a3 a4 a5 a6) := by
 intro a0 a1 a2 a3 a4 a5 a6 k
 obtain ⟨ih0, ih1⟩ := larchref16_node.mono_l k
 unfold larchref16_node.f
 repeat' first
   | (with_reducible exact ih0 _ _ _ _ _ _ _ _)
   | (with_reducible exact ih1 _ _ _ _ _ _ _ _)
   | (with_reducible exact LeO.refl _)
   | (with_reducible exact LeO.none _)
   | (with_reducible refine LeO.ite ?_ ?_)
   | (with_reducible refine LeO.bind ?_ (fun _ => ?_))
   | exact ih0 _ _ _ _ _ _ _ _
   | exact ih1 _ _ _ _ _ _ _ _
   | exact LeO.none _
   | refine LeO.ite ?_ ?_
   | refine LeO.bind ?_ (fun _ => ?_)
set_option maxHeartbeats 8000000 in
set_option maxRecDepth 100000 in
theorem larchref16_node.calls (k : Nat) (a0_0 : Int) (a0_1 : Int) (a0_2 : Int) (a0_3 : Int) (a0_4 : Int) (a0_5 : Int) (a1 : Int) (r : Bool) (w : World) (h : larchref16_node.f k a0_0 a0_1 a0_2 a0_3 a0_4 a0_5 a1 = some r) :
  Calls Try.prog 75 #[.agg #[.int .i64 a0_0, .int .i64 a0_1, .int .i64 a0_2, .int .i64 a0_3, .int .i64 a0_4, .int .i64 a0_5], .int .i64 a1] w fun e w' => e = .returned (.bool r) ∧ Below w.heap.size w w' := by
 have hu34 := Try.underlying34
 have HB := Am (Below.refl w.heap.size w)
 have H : (if a0_4 = (-1) then (larchref16_node.j0 k a1 (a0_5 == (-1)) a0_0 a0_1 a0_2 a0_3 a0_4 a0_5) else (larchref16_node.j0 k a1 false a0_0 a0_1 a0_2 a0_3 a0_4 a0_5)) = some r := h
 clear h
 have HC3 := Am H
 clear H
 go_enter Try.func75, Try.ntmps75
 go_upto_region 1 with (first | ((with_reducible refine gate_dst (N := 2) rfl ?_); refine box_event ?hg (N := 2) ?hd (cs := #[.int .i64 a0_0, .int .i64 a0_1, .int .i64 a0_2, .int .i64 a0_3, .int .i64 a0_4, .int .i64 a0_5]) (t := 34) ?hr ?_; (case hd => rfl); (case hg => rfl); (case hr => first | (go_simp; done) | (go_simp; rfl)); intro gb508 hg w4 hbox hb; have n0_ := Am (below_step (by repeat (first | (with_reducible first | exact HB.out | apply ba | apply bn | apply bd) | exact HB.out)) hb); have n1_ := Am (hbox); have n2_ := Am ((by rw [hg]; exact (below_size (by repeat (first | (with_reducible first | exact HB.out | apply ba | apply bn | apply bd) | exact HB.out))) : w.heap.size ≤ gb508)); have n3_ := Am ((by rw [hg]; exact (below_size (by repeat (first | (with_reducible first | exact HB.out | apply ba | apply bn | apply bd) | exact HB.out))) : w.heap.size ≤ gb508)); clear HB; have HB := n0_; have BK508 := n1_; have GW508 := n2_; have GE508 := n3_; clear n0_ n1_ n2_ n3_; clear hb hbox hg))
 (try simp only [Act.put, sI, sZ, sS])
 go_cut [5] (fun v5 wc => ∃ (kq : Nat) (x5_2 : Bool), v5 = .bool x5_2 ∧ Aside0 (larchref16_node.j0 kq a1 x5_2 a0_0 a0_1 a0_2 a0_3 a0_4 a0_5 = some r) ∧ Aside0 (kq ≤ k) ∧ Aside0 (wc.heap[gb508]? = some (.cells #[.int .i64 a0_0, .int .i64 a0_1, .int .i64 a0_2, .int .i64 a0_3, .int .i64 a0_4, .int .i64 a0_5] 34 (0, 0))) ∧ Aside0 (Below w.heap.size w wc))
 case first =>
  have H := HC3.out
  clear HC3
  by_cases c5 : a0_4 = (-1)
  ·rw [if_pos c5] at H
   have c5b0 : (a0_4 == (-1)) = true := beq_iff_eq.mpr c5
   have c5b1 : (a0_4 != (-1)) = false := bne_eq_false_iff_eq.mpr c5
   clear c5
   (first | rw [c5b0] | (simp only [i64_w, i32_w]; rw [c5b0]) | skip)
   have H' := Am H
   clear H
   have hcz6_0 : w4.cell? ⟨gb508, 0, none⟩ = some (.int .i64 a0_0) := (blk_cell BK508.out 0).trans rfl
   have hcz6_1 : w4.cell? ⟨gb508, 1, none⟩ = some (.int .i64 a0_1) := (blk_cell BK508.out 1).trans rfl
   have hcz6_2 : w4.cell? ⟨gb508, 2, none⟩ = some (.int .i64 a0_2) := (blk_cell BK508.out 2).trans rfl
   have hcz6_3 : w4.cell? ⟨gb508, 3, none⟩ = some (.int .i64 a0_3) := (blk_cell BK508.out 3).trans rfl
   have hcz6_4 : w4.cell? ⟨gb508, 4, none⟩ = some (.int .i64 a0_4) := (blk_cell BK508.out 4).trans rfl
   have hcz6_5 : w4.cell? ⟨gb508, 5, none⟩ = some (.int .i64 a0_5) := (blk_cell BK508.out 5).trans rfl
   have hfz6_0 := blk_frozen BK508.out 0
   have hfz6_1 := blk_frozen BK508.out 1
   have hfz6_2 := blk_frozen BK508.out 2
   have hfz6_3 := blk_frozen BK508.out 3
   have hfz6_4 := blk_frozen BK508.out 4
   have hfz6_5 := blk_frozen BK508.out 5
   go_wp2
   go_meet
   case rel => exact ⟨_, ((a0_5 == (-1))), (by first | rfl | (simp; done) | (simp [*]; done)), H', ⟨by first | omega | exact Nat.le_refl _⟩, ⟨by (with_reducible repeat (first | refine blk_drewN ?_ _ | refine blk_drew ?_ | refine blk_alloc ?_ _)); exact BK508.out⟩, ⟨by repeat (first | (with_reducible first | exact HB.out | apply ba | apply bn | apply bd | refine below_set ?_ GE508.out) | exact HB.out)⟩⟩
  ·rw [if_neg c5] at H
   have c5b0 : (a0_4 == (-1)) = false := beq_eq_false_iff_ne.mpr c5
   have c5b1 : (a0_4 != (-1)) = true := bne_iff_ne.mpr c5
   (first | rw [c5b0] | (simp only [i64_w, i32_w]; rw [c5b0]) | skip)
   have H' := Am H
   clear H
   have hcz7_0 : w4.cell? ⟨gb508, 0, none⟩ = some (.int .i64 a0_0) := (blk_cell BK508.out 0).trans rfl
   have hcz7_1 : w4.cell? ⟨gb508, 1, none⟩ = some (.int .i64 a0_1) := (blk_cell BK508.out 1).trans rfl
   have hcz7_2 : w4.cell? ⟨gb508, 2, none⟩ = some (.int .i64 a0_2) := (blk_cell BK508.out 2).trans rfl
   have hcz7_3 : w4.cell? ⟨gb508, 3, none⟩ = some (.int .i64 a0_3) := (blk_cell BK508.out 3).trans rfl
   have hcz7_4 : w4.cell? ⟨gb508, 4, none⟩ = some (.int .i64 a0_4) := (blk_cell BK508.out 4).trans rfl
   have hcz7_5 : w4.cell? ⟨gb508, 5, none⟩ = some (.int .i64 a0_5) := (blk_cell BK508.out 5).trans rfl
   have hfz7_0 := blk_frozen BK508.out 0
   have hfz7_1 := blk_frozen BK508.out 1
   have hfz7_2 := blk_frozen BK508.out 2
   have hfz7_3 := blk_frozen BK508.out 3
   have hfz7_4 := blk_frozen BK508.out 4
   have hfz7_5 := blk_frozen BK508.out 5
   go_wp2
   go_meet
   case rel => exact ⟨_, (false), (by first | rfl | (simp; done) | (simp [*]; done)), H', ⟨by first | omega | exact Nat.le_refl _⟩, ⟨by (with_reducible repeat (first | refine blk_drewN ?_ _ | refine blk_drew ?_ | refine blk_alloc ?_ _)); exact BK508.out⟩, ⟨by repeat (first | (with_reducible first | exact HB.out | apply ba | apply bn | apply bd | refine below_set ?_ GE508.out) | exact HB.out)⟩⟩
 case rest =>
  clear HC3
  try clear p2
  try clear c5
  try clear c5b0
  try clear c5b1
  try clear c7
  try clear hcz6_0
  try clear hcz6_1
  try clear hcz6_2
  try clear hcz6_3
  try clear hcz6_4
  try clear hcz6_5
  try clear hcz7_0
  try clear hcz7_1
  try clear hcz7_2
  try clear hcz7_3
  try clear hcz7_4
  try clear hcz7_5
  try clear hfz6_0
  try clear hfz6_1
  try clear hfz6_2
  try clear hfz6_3
  try clear hfz6_4
  try clear hfz6_5
  try clear hfz7_0
  try clear hfz7_1
  try clear hfz7_2
  try clear hfz7_3
  try clear hfz7_4
  try clear hfz7_5
  obtain ⟨kq, x5_2, rfl, HA, HJ2, BK508, HB⟩ := hcut
  cases kq with
  | zero => exact absurd HA.out (by simp [larchref16_node.j0])
  | succ kj2 =>
   have H := HA.out
   clear HA
   simp only [larchref16_node.j0] at H
   have HC8 := Am H
   clear H
   go_upto_region 2 with (fail)
   go_cut [44] (fun v44 wc => ∃ (kq : Nat) (x44_7 : Bool), v44 = .bool x44_7 ∧ Aside0 (larchref16_node.j1 kq x5_2 x44_7 a0_0 a0_1 a0_2 a0_3 a0_4 a0_5 = some r) ∧ Aside0 (kq ≤ kj2) ∧ Aside0 (wc.heap[gb508]? = some (.cells #[.int .i64 a0_0, .int .i64 a0_1, .int .i64 a0_2, .int .i64 a0_3, .int .i64 a0_4, .int .i64 a0_5] 34 (0, 0))) ∧ Aside0 (Below w.heap.size w wc))
   case first =>
    have H := HC8.out
    clear HC8
    by_cases c9 : x5_2 = true
    ·subst c9
     have H1 : (larchref16_node.j1 kj2 true false a0_0 a0_1 a0_2 a0_3 a0_4 a0_5) = some r := by rw [if_pos rfl] at H; exact H
     clear H
     have H := H1
     clear H1
     have H' := Am H
     clear H
     go_wp2
     go_meet
     case rel => exact ⟨_, (false), (by first | rfl | (simp; done) | (simp [*]; done)), H', ⟨by have := HJ2.out; first | omega | exact Nat.le_refl _⟩, ⟨by (with_reducible repeat (first | refine blk_drewN ?_ _ | refine blk_drew ?_ | refine blk_alloc ?_ _)); exact BK508.out⟩, ⟨by repeat (first | (with_reducible first | exact HB.out | apply ba | apply bn | apply bd | refine below_set ?_ GE508.out) | exact HB.out)⟩⟩
    ·replace c9 := Bool.eq_false_iff.mpr c9
     subst c9
     have H1 : (if a0_4 < 1 then (larchref16_node.j1 kj2 false true a0_0 a0_1 a0_2 a0_3 a0_4 a0_5) else (if a0_4 ≥ a1 then (larchref16_node.j1 kj2 false true a0_0 a0_1 a0_2 a0_3 a0_4 a0_5) else (if a0_5 < 1 then (larchref16_node.j1 kj2 false true a0_0 a0_1 a0_2 a0_3 a0_4 a0_5) else (if a0_5 ≥ a1 then (larchref16_node.j1 kj2 false true a0_0 a0_1 a0_2 a0_3 a0_4 a0_5) else (larchref16_node.j1 kj2 false (a0_4 == a0_5) a0_0 a0_1 a0_2 a0_3 a0_4 a0_5))))) = some r := by rw [if_neg (show ¬ (false = true) by decide)] at H; exact H
     clear H
     have H := H1
     clear H1
     by_cases c10 : a0_4 < 1
     ·rw [if_pos c10] at H
      have c10b0 : decide (a0_4 < 1) = true := decide_eq_true c10
      clear c10
      (first | rw [c10b0] | (simp only [i64_w, i32_w]; rw [c10b0]) | skip)
      have H' := Am H
      clear H
      have hcz11_0 : wc.cell? ⟨gb508, 0, none⟩ = some (.int .i64 a0_0) := (blk_cell BK508.out 0).trans rfl
      have hcz11_1 : wc.cell? ⟨gb508, 1, none⟩ = some (.int .i64 a0_1) := (blk_cell BK508.out 1).trans rfl
      have hcz11_2 : wc.cell? ⟨gb508, 2, none⟩ = some (.int .i64 a0_2) := (blk_cell BK508.out 2).trans rfl
      have hcz11_3 : wc.cell? ⟨gb508, 3, none⟩ = some (.int .i64 a0_3) := (blk_cell BK508.out 3).trans rfl
      have hcz11_4 : wc.cell? ⟨gb508, 4, none⟩ = some (.int .i64 a0_4) := (blk_cell BK508.out 4).trans rfl
      have hcz11_5 : wc.cell? ⟨gb508, 5, none⟩ = some (.int .i64 a0_5) := (blk_cell BK508.out 5).trans rfl
      have hfz11_0 := blk_frozen BK508.out 0
      have hfz11_1 := blk_frozen BK508.out 1
      have hfz11_2 := blk_frozen BK508.out 2
      have hfz11_3 := blk_frozen BK508.out 3
      have hfz11_4 := blk_frozen BK508.out 4
      have hfz11_5 := blk_frozen BK508.out 5
      go_wp2
      go_meet
      case rel => exact ⟨_, (true), (by first | rfl | (simp; done) | (simp [*]; done)), H', ⟨by have := HJ2.out; first | omega | exact Nat.le_refl _⟩, ⟨by (with_reducible repeat (first | refine blk_drewN ?_ _ | refine blk_drew ?_ | refine blk_alloc ?_ _)); exact BK508.out⟩, ⟨by repeat (first | (with_reducible first | exact HB.out | apply ba | apply bn | apply bd | refine below_set ?_ GE508.out) | exact HB.out)⟩⟩
     ·rw [if_neg c10] at H
      have c10b0 : decide (a0_4 < 1) = false := decide_eq_false c10
      clear c10
      (first | rw [c10b0] | (simp only [i64_w, i32_w]; rw [c10b0]) | skip)
      by_cases c12 : a0_4 ≥ a1
      ·rw [if_pos c12] at H
       have c12b0 : decide (a1 ≤ a0_4) = true := decide_eq_true c12
       clear c12
       have H' := Am H
       clear H
       have hcz13_0 : wc.cell? ⟨gb508, 0, none⟩ = some (.int .i64 a0_0) := (blk_cell BK508.out 0).trans rfl
       have hcz13_1 : wc.cell? ⟨gb508, 1, none⟩ = some (.int .i64 a0_1) := (blk_cell BK508.out 1).trans rfl
       have hcz13_2 : wc.cell? ⟨gb508, 2, none⟩ = some (.int .i64 a0_2) := (blk_cell BK508.out 2).trans rfl
       have hcz13_3 : wc.cell? ⟨gb508, 3, none⟩ = some (.int .i64 a0_3) := (blk_cell BK508.out 3).trans rfl
       have hcz13_4 : wc.cell? ⟨gb508, 4, none⟩ = some (.int .i64 a0_4) := (blk_cell BK508.out 4).trans rfl
       have hcz13_5 : wc.cell? ⟨gb508, 5, none⟩ = some (.int .i64 a0_5) := (blk_cell BK508.out 5).trans rfl
       have hfz13_0 := blk_frozen BK508.out 0
       have hfz13_1 := blk_frozen BK508.out 1
       have hfz13_2 := blk_frozen BK508.out 2
       have hfz13_3 := blk_frozen BK508.out 3
       have hfz13_4 := blk_frozen BK508.out 4
       have hfz13_5 := blk_frozen BK508.out 5
       go_wp2
       go_meet
       case rel => exact ⟨_, (true), (by first | rfl | (simp; done) | (simp [*]; done)), H', ⟨by have := HJ2.out; first | omega | exact Nat.le_refl _⟩, ⟨by (with_reducible repeat (first | refine blk_drewN ?_ _ | refine blk_drew ?_ | refine blk_alloc ?_ _)); exact BK508.out⟩, ⟨by repeat (first | (with_reducible first | exact HB.out | apply ba | apply bn | apply bd | refine below_set ?_ GE508.out) | exact HB.out)⟩⟩
      ·rw [if_neg c12] at H
       have c12b0 : decide (a1 ≤ a0_4) = false := decide_eq_false c12
       clear c12
       by_cases c14 : a0_5 < 1
       ·rw [if_pos c14] at H
        have c14b0 : decide (a0_5 < 1) = true := decide_eq_true c14
        clear c14
        have H' := Am H
        clear H
        have hcz15_0 : wc.cell? ⟨gb508, 0, none⟩ = some (.int .i64 a0_0) := (blk_cell BK508.out 0).trans rfl
        have hcz15_1 : wc.cell? ⟨gb508, 1, none⟩ = some (.int .i64 a0_1) := (blk_cell BK508.out 1).trans rfl
        have hcz15_2 : wc.cell? ⟨gb508, 2, none⟩ = some (.int .i64 a0_2) := (blk_cell BK508.out 2).trans rfl
        have hcz15_3 : wc.cell? ⟨gb508, 3, none⟩ = some (.int .i64 a0_3) := (blk_cell BK508.out 3).trans rfl
        have hcz15_4 : wc.cell? ⟨gb508, 4, none⟩ = some (.int .i64 a0_4) := (blk_cell BK508.out 4).trans rfl
        have hcz15_5 : wc.cell? ⟨gb508, 5, none⟩ = some (.int .i64 a0_5) := (blk_cell BK508.out 5).trans rfl
        have hfz15_0 := blk_frozen BK508.out 0
        have hfz15_1 := blk_frozen BK508.out 1
        have hfz15_2 := blk_frozen BK508.out 2
        have hfz15_3 := blk_frozen BK508.out 3
        have hfz15_4 := blk_frozen BK508.out 4
        have hfz15_5 := blk_frozen BK508.out 5
        go_wp2
        go_meet
        case rel => exact ⟨_, (true), (by first | rfl | (simp; done) | (simp [*]; done)), H', ⟨by have := HJ2.out; first | omega | exact Nat.le_refl _⟩, ⟨by (with_reducible repeat (first | refine blk_drewN ?_ _ | refine blk_drew ?_ | refine blk_alloc ?_ _)); exact BK508.out⟩, ⟨by repeat (first | (with_reducible first | exact HB.out | apply ba | apply bn | apply bd | refine below_set ?_ GE508.out) | exact HB.out)⟩⟩
       ·rw [if_neg c14] at H
        have c14b0 : decide (a0_5 < 1) = false := decide_eq_false c14
        clear c14
        by_cases c16 : a0_5 ≥ a1
        ·rw [if_pos c16] at H
         have c16b0 : decide (a1 ≤ a0_5) = true := decide_eq_true c16
         clear c16
         have H' := Am H
         clear H
         have hcz17_0 : wc.cell? ⟨gb508, 0, none⟩ = some (.int .i64 a0_0) := (blk_cell BK508.out 0).trans rfl
         have hcz17_1 : wc.cell? ⟨gb508, 1, none⟩ = some (.int .i64 a0_1) := (blk_cell BK508.out 1).trans rfl
         have hcz17_2 : wc.cell? ⟨gb508, 2, none⟩ = some (.int .i64 a0_2) := (blk_cell BK508.out 2).trans rfl
         have hcz17_3 : wc.cell? ⟨gb508, 3, none⟩ = some (.int .i64 a0_3) := (blk_cell BK508.out 3).trans rfl
         have hcz17_4 : wc.cell? ⟨gb508, 4, none⟩ = some (.int .i64 a0_4) := (blk_cell BK508.out 4).trans rfl
         have hcz17_5 : wc.cell? ⟨gb508, 5, none⟩ = some (.int .i64 a0_5) := (blk_cell BK508.out 5).trans rfl
         have hfz17_0 := blk_frozen BK508.out 0
         have hfz17_1 := blk_frozen BK508.out 1
         have hfz17_2 := blk_frozen BK508.out 2
         have hfz17_3 := blk_frozen BK508.out 3
         have hfz17_4 := blk_frozen BK508.out 4
         have hfz17_5 := blk_frozen BK508.out 5
         go_wp2
         go_meet
         case rel => exact ⟨_, (true), (by first | rfl | (simp; done) | (simp [*]; done)), H', ⟨by have := HJ2.out; first | omega | exact Nat.le_refl _⟩, ⟨by (with_reducible repeat (first | refine blk_drewN ?_ _ | refine blk_drew ?_ | refine blk_alloc ?_ _)); exact BK508.out⟩, ⟨by repeat (first | (with_reducible first | exact HB.out | apply ba | apply bn | apply bd | refine below_set ?_ GE508.out) | exact HB.out)⟩⟩
        ·rw [if_neg c16] at H
         have c16b0 : decide (a1 ≤ a0_5) = false := decide_eq_false c16
         clear c16
         have H' := Am H
         clear H
         have hcz18_0 : wc.cell? ⟨gb508, 0, none⟩ = some (.int .i64 a0_0) := (blk_cell BK508.out 0).trans rfl
         have hcz18_1 : wc.cell? ⟨gb508, 1, none⟩ = some (.int .i64 a0_1) := (blk_cell BK508.out 1).trans rfl
         have hcz18_2 : wc.cell? ⟨gb508, 2, none⟩ = some (.int .i64 a0_2) := (blk_cell BK508.out 2).trans rfl
         have hcz18_3 : wc.cell? ⟨gb508, 3, none⟩ = some (.int .i64 a0_3) := (blk_cell BK508.out 3).trans rfl
         have hcz18_4 : wc.cell? ⟨gb508, 4, none⟩ = some (.int .i64 a0_4) := (blk_cell BK508.out 4).trans rfl
         have hcz18_5 : wc.cell? ⟨gb508, 5, none⟩ = some (.int .i64 a0_5) := (blk_cell BK508.out 5).trans rfl
         have hfz18_0 := blk_frozen BK508.out 0
         have hfz18_1 := blk_frozen BK508.out 1
         have hfz18_2 := blk_frozen BK508.out 2
         have hfz18_3 := blk_frozen BK508.out 3
         have hfz18_4 := blk_frozen BK508.out 4
         have hfz18_5 := blk_frozen BK508.out 5
         go_wp2
         go_meet
         case rel => exact ⟨_, ((a0_4 == a0_5)), (by first | rfl | (simp; done) | (simp [*]; done)), H', ⟨by have := HJ2.out; first | omega | exact Nat.le_refl _⟩, ⟨by (with_reducible repeat (first | refine blk_drewN ?_ _ | refine blk_drew ?_ | refine blk_alloc ?_ _)); exact BK508.out⟩, ⟨by repeat (first | (with_reducible first | exact HB.out | apply ba | apply bn | apply bd | refine below_set ?_ GE508.out) | exact HB.out)⟩⟩
   case rest =>
    clear HC8
    try clear c1
    try clear p2
    try clear c5
    try clear c5b0
    try clear c5b1
    try clear c7
    try clear c9
    try clear c10
    try clear c10b0
    try clear c12
    try clear c12b0
    try clear c14
    try clear c14b0
    try clear c16
    try clear c16b0
    try clear hcz11_0
    try clear hcz11_1
    try clear hcz11_2
    try clear hcz11_3
    try clear hcz11_4
    try clear hcz11_5
    try clear hcz13_0
    try clear hcz13_1
    try clear hcz13_2
    try clear hcz13_3
    try clear hcz13_4
    try clear hcz13_5
    try clear hcz15_0
    try clear hcz15_1
    try clear hcz15_2
    try clear hcz15_3
    try clear hcz15_4
    try clear hcz15_5
    try clear hcz17_0
    try clear hcz17_1
    try clear hcz17_2
    try clear hcz17_3
    try clear hcz17_4
    try clear hcz17_5
    try clear hcz18_0
    try clear hcz18_1
    try clear hcz18_2
    try clear hcz18_3
    try clear hcz18_4
    try clear hcz18_5
    try clear hcz6_0
    try clear hcz6_1
    try clear hcz6_2
    try clear hcz6_3
    try clear hcz6_4
    try clear hcz6_5
    try clear hcz7_0
    try clear hcz7_1
    try clear hcz7_2
    try clear hcz7_3
    try clear hcz7_4
    try clear hcz7_5
    try clear hfz11_0
    try clear hfz11_1
    try clear hfz11_2
    try clear hfz11_3
    try clear hfz11_4
    try clear hfz11_5
    try clear hfz13_0
    try clear hfz13_1
    try clear hfz13_2
    try clear hfz13_3
    try clear hfz13_4
    try clear hfz13_5
    try clear hfz15_0
    try clear hfz15_1
    try clear hfz15_2
    try clear hfz15_3
    try clear hfz15_4
    try clear hfz15_5
    try clear hfz17_0
    try clear hfz17_1
    try clear hfz17_2
    try clear hfz17_3
    try clear hfz17_4
    try clear hfz17_5
    try clear hfz18_0
    try clear hfz18_1
    try clear hfz18_2
    try clear hfz18_3
    try clear hfz18_4
    try clear hfz18_5
    try clear hfz6_0
    try clear hfz6_1
    try clear hfz6_2
    try clear hfz6_3
    try clear hfz6_4
    try clear hfz6_5
    try clear hfz7_0
    try clear hfz7_1
    try clear hfz7_2
    try clear hfz7_3
    try clear hfz7_4
    try clear hfz7_5
    try clear p2
    obtain ⟨kq, x44_7, rfl, HA, HJ7, BK508, HB⟩ := hcut
    cases kq with
    | zero => exact absurd HA.out (by simp [larchref16_node.j1])
    | succ kj7 =>
     have H := HA.out
     clear HA
     simp only [larchref16_node.j1] at H
     by_cases c19 : x44_7 = true
     ·subst c19
      have H1 : (some false) = some r := by rw [if_pos rfl] at H; exact H
      clear H
      have H := H1
      clear H1
      obtain rfl := Option.some.inj H
      go_wp2
      go_ret
      exact ⟨by first | rfl | (simp [errW_none, errW_some] <;> rfl) | (simp [*, errW_none, errW_some] <;> rfl), by repeat (first | (with_reducible first | exact HB.out | apply ba | apply bn | apply bd | refine below_set ?_ GE508.out) | exact HB.out)⟩
     ·replace c19 := Bool.eq_false_iff.mpr c19
      subst c19
      have H1 : (if a0_1 = 0 then (if a0_1 = 1 then (if a0_0 = 0 then (if a0_3 = 0 then (if x5_2 = true then (if a0_2 ≥ 0 then (some (decide (a0_2 ≤ 1000000))) else (some false)) else (if a0_2 ≥ 0 then (some (decide (a0_2 ≤ 1000000))) else (some false))) else (some false)) else (some false)) else (if x5_2 = true then (if a0_2 ≥ 0 then (some (decide (a0_2 ≤ 1000000))) else (some false)) else (if a0_3 = 0 then (if a0_2 ≥ 0 then (some (decide (a0_2 ≤ 1000000))) else (some false)) else (some false)))) else (if a0_1 = 1 then (if a0_0 = 0 then (if a0_3 = 0 then (if x5_2 = true then (if a0_2 ≥ 0 then (some (decide (a0_2 ≤ 1000000))) else (some false)) else (if a0_2 ≥ 0 then (some (decide (a0_2 ≤ 1000000))) else (some false))) else (some false)) else (some false)) else (some false))) = some r := by rw [if_neg (show ¬ (false = true) by decide)] at H; exact H
      clear H
      have H := H1
      clear H1
      by_cases c20 : a0_1 = 0
      ·rw [if_pos c20] at H
       have c20b0 : (a0_1 == 0) = true := beq_iff_eq.mpr c20
       have c20b1 : (a0_1 != 0) = false := bne_eq_false_iff_eq.mpr c20
       clear c20
       by_cases c21 : a0_1 = 1
       ·rw [if_pos c21] at H
        have c21b0 : (a0_1 == 1) = true := beq_iff_eq.mpr c21
        have c21b1 : (a0_1 != 1) = false := bne_eq_false_iff_eq.mpr c21
        clear c21
        by_cases c22 : a0_0 = 0
        ·rw [if_pos c22] at H
         have c22b0 : (a0_0 == 0) = true := beq_iff_eq.mpr c22
         have c22b1 : (a0_0 != 0) = false := bne_eq_false_iff_eq.mpr c22
         clear c22
         by_cases c23 : a0_3 = 0
         ·rw [if_pos c23] at H
          have c23b0 : (a0_3 == 0) = true := beq_iff_eq.mpr c23
          have c23b1 : (a0_3 != 0) = false := bne_eq_false_iff_eq.mpr c23
          clear c23
          by_cases c24 : x5_2 = true
          ·subst c24
           have H1 : (if a0_2 ≥ 0 then (some (decide (a0_2 ≤ 1000000))) else (some false)) = some r := by rw [if_pos rfl] at H; exact H
           clear H
           have H := H1
           clear H1
           by_cases c25 : a0_2 ≥ 0
           ·rw [if_pos c25] at H
            have c25b0 : decide (0 ≤ a0_2) = true := decide_eq_true c25
            clear c25
            obtain rfl := Option.some.inj H
            have hcz26_0 : wc.cell? ⟨gb508, 0, none⟩ = some (.int .i64 a0_0) := (blk_cell BK508.out 0).trans rfl
            have hcz26_1 : wc.cell? ⟨gb508, 1, none⟩ = some (.int .i64 a0_1) := (blk_cell BK508.out 1).trans rfl
            have hcz26_2 : wc.cell? ⟨gb508, 2, none⟩ = some (.int .i64 a0_2) := (blk_cell BK508.out 2).trans rfl
            have hcz26_3 : wc.cell? ⟨gb508, 3, none⟩ = some (.int .i64 a0_3) := (blk_cell BK508.out 3).trans rfl
            have hcz26_4 : wc.cell? ⟨gb508, 4, none⟩ = some (.int .i64 a0_4) := (blk_cell BK508.out 4).trans rfl
            have hcz26_5 : wc.cell? ⟨gb508, 5, none⟩ = some (.int .i64 a0_5) := (blk_cell BK508.out 5).trans rfl
            have hfz26_0 := blk_frozen BK508.out 0
            have hfz26_1 := blk_frozen BK508.out 1
            have hfz26_2 := blk_frozen BK508.out 2
            have hfz26_3 := blk_frozen BK508.out 3
            have hfz26_4 := blk_frozen BK508.out 4
            have hfz26_5 := blk_frozen BK508.out 5
            go_wp2
            go_ret
            exact ⟨by first | rfl | (simp [errW_none, errW_some] <;> rfl) | (simp [*, errW_none, errW_some] <;> rfl), by repeat (first | (with_reducible first | exact HB.out | apply ba | apply bn | apply bd | refine below_set ?_ GE508.out) | exact HB.out)⟩
           ·rw [if_neg c25] at H
            have c25b0 : decide (0 ≤ a0_2) = false := decide_eq_false c25
            clear c25
            obtain rfl := Option.some.inj H
            have hcz27_0 : wc.cell? ⟨gb508, 0, none⟩ = some (.int .i64 a0_0) := (blk_cell BK508.out 0).trans rfl
            have hcz27_1 : wc.cell? ⟨gb508, 1, none⟩ = some (.int .i64 a0_1) := (blk_cell BK508.out 1).trans rfl
            have hcz27_2 : wc.cell? ⟨gb508, 2, none⟩ = some (.int .i64 a0_2) := (blk_cell BK508.out 2).trans rfl
            have hcz27_3 : wc.cell? ⟨gb508, 3, none⟩ = some (.int .i64 a0_3) := (blk_cell BK508.out 3).trans rfl
            have hcz27_4 : wc.cell? ⟨gb508, 4, none⟩ = some (.int .i64 a0_4) := (blk_cell BK508.out 4).trans rfl
            have hcz27_5 : wc.cell? ⟨gb508, 5, none⟩ = some (.int .i64 a0_5) := (blk_cell BK508.out 5).trans rfl
            have hfz27_0 := blk_frozen BK508.out 0
            have hfz27_1 := blk_frozen BK508.out 1
            have hfz27_2 := blk_frozen BK508.out 2
            have hfz27_3 := blk_frozen BK508.out 3
            have hfz27_4 := blk_frozen BK508.out 4
            have hfz27_5 := blk_frozen BK508.out 5
            go_wp2
            go_ret
            exact ⟨by first | rfl | (simp [errW_none, errW_some] <;> rfl) | (simp [*, errW_none, errW_some] <;> rfl), by repeat (first | (with_reducible first | exact HB.out | apply ba | apply bn | apply bd | refine below_set ?_ GE508.out) | exact HB.out)⟩
          ·replace c24 := Bool.eq_false_iff.mpr c24
           subst c24
           have H1 : (if a0_2 ≥ 0 then (some (decide (a0_2 ≤ 1000000))) else (some false)) = some r := by rw [if_neg (show ¬ (false = true) by decide)] at H; exact H
           clear H
           have H := H1
           clear H1
           by_cases c28 : a0_2 ≥ 0
           ·rw [if_pos c28] at H
            have c28b0 : decide (0 ≤ a0_2) = true := decide_eq_true c28
            clear c28
            obtain rfl := Option.some.inj H
            have hcz29_0 : wc.cell? ⟨gb508, 0, none⟩ = some (.int .i64 a0_0) := (blk_cell BK508.out 0).trans rfl
            have hcz29_1 : wc.cell? ⟨gb508, 1, none⟩ = some (.int .i64 a0_1) := (blk_cell BK508.out 1).trans rfl
            have hcz29_2 : wc.cell? ⟨gb508, 2, none⟩ = some (.int .i64 a0_2) := (blk_cell BK508.out 2).trans rfl
            have hcz29_3 : wc.cell? ⟨gb508, 3, none⟩ = some (.int .i64 a0_3) := (blk_cell BK508.out 3).trans rfl
            have hcz29_4 : wc.cell? ⟨gb508, 4, none⟩ = some (.int .i64 a0_4) := (blk_cell BK508.out 4).trans rfl
            have hcz29_5 : wc.cell? ⟨gb508, 5, none⟩ = some (.int .i64 a0_5) := (blk_cell BK508.out 5).trans rfl
            have hfz29_0 := blk_frozen BK508.out 0
            have hfz29_1 := blk_frozen BK508.out 1
            have hfz29_2 := blk_frozen BK508.out 2
            have hfz29_3 := blk_frozen BK508.out 3
            have hfz29_4 := blk_frozen BK508.out 4
            have hfz29_5 := blk_frozen BK508.out 5
            go_wp2
            go_ret
            exact ⟨by first | rfl | (simp [errW_none, errW_some] <;> rfl) | (simp [*, errW_none, errW_some] <;> rfl), by repeat (first | (with_reducible first | exact HB.out | apply ba | apply bn | apply bd | refine below_set ?_ GE508.out) | exact HB.out)⟩
           ·rw [if_neg c28] at H
            have c28b0 : decide (0 ≤ a0_2) = false := decide_eq_false c28
            clear c28
            obtain rfl := Option.some.inj H
            have hcz30_0 : wc.cell? ⟨gb508, 0, none⟩ = some (.int .i64 a0_0) := (blk_cell BK508.out 0).trans rfl
            have hcz30_1 : wc.cell? ⟨gb508, 1, none⟩ = some (.int .i64 a0_1) := (blk_cell BK508.out 1).trans rfl
            have hcz30_2 : wc.cell? ⟨gb508, 2, none⟩ = some (.int .i64 a0_2) := (blk_cell BK508.out 2).trans rfl
            have hcz30_3 : wc.cell? ⟨gb508, 3, none⟩ = some (.int .i64 a0_3) := (blk_cell BK508.out 3).trans rfl
            have hcz30_4 : wc.cell? ⟨gb508, 4, none⟩ = some (.int .i64 a0_4) := (blk_cell BK508.out 4).trans rfl
            have hcz30_5 : wc.cell? ⟨gb508, 5, none⟩ = some (.int .i64 a0_5) := (blk_cell BK508.out 5).trans rfl
            have hfz30_0 := blk_frozen BK508.out 0
            have hfz30_1 := blk_frozen BK508.out 1
            have hfz30_2 := blk_frozen BK508.out 2
            have hfz30_3 := blk_frozen BK508.out 3
            have hfz30_4 := blk_frozen BK508.out 4
            have hfz30_5 := blk_frozen BK508.out 5
            go_wp2
            go_ret
            exact ⟨by first | rfl | (simp [errW_none, errW_some] <;> rfl) | (simp [*, errW_none, errW_some] <;> rfl), by repeat (first | (with_reducible first | exact HB.out | apply ba | apply bn | apply bd | refine below_set ?_ GE508.out) | exact HB.out)⟩
         ·rw [if_neg c23] at H
          have c23b0 : (a0_3 == 0) = false := beq_eq_false_iff_ne.mpr c23
          have c23b1 : (a0_3 != 0) = true := bne_iff_ne.mpr c23
          obtain rfl := Option.some.inj H
          have hcz31_0 : wc.cell? ⟨gb508, 0, none⟩ = some (.int .i64 a0_0) := (blk_cell BK508.out 0).trans rfl
          have hcz31_1 : wc.cell? ⟨gb508, 1, none⟩ = some (.int .i64 a0_1) := (blk_cell BK508.out 1).trans rfl
          have hcz31_2 : wc.cell? ⟨gb508, 2, none⟩ = some (.int .i64 a0_2) := (blk_cell BK508.out 2).trans rfl
          have hcz31_3 : wc.cell? ⟨gb508, 3, none⟩ = some (.int .i64 a0_3) := (blk_cell BK508.out 3).trans rfl
          have hcz31_4 : wc.cell? ⟨gb508, 4, none⟩ = some (.int .i64 a0_4) := (blk_cell BK508.out 4).trans rfl
          have hcz31_5 : wc.cell? ⟨gb508, 5, none⟩ = some (.int .i64 a0_5) := (blk_cell BK508.out 5).trans rfl
          have hfz31_0 := blk_frozen BK508.out 0
          have hfz31_1 := blk_frozen BK508.out 1
          have hfz31_2 := blk_frozen BK508.out 2
          have hfz31_3 := blk_frozen BK508.out 3
          have hfz31_4 := blk_frozen BK508.out 4
          have hfz31_5 := blk_frozen BK508.out 5
          go_wp2
          go_ret
          exact ⟨by first | rfl | (simp [errW_none, errW_some] <;> rfl) | (simp [*, errW_none, errW_some] <;> rfl), by repeat (first | (with_reducible first | exact HB.out | apply ba | apply bn | apply bd | refine below_set ?_ GE508.out) | exact HB.out)⟩
        ·rw [if_neg c22] at H
         have c22b0 : (a0_0 == 0) = false := beq_eq_false_iff_ne.mpr c22
         have c22b1 : (a0_0 != 0) = true := bne_iff_ne.mpr c22
         obtain rfl := Option.some.inj H
         have hcz32_0 : wc.cell? ⟨gb508, 0, none⟩ = some (.int .i64 a0_0) := (blk_cell BK508.out 0).trans rfl
         have hcz32_1 : wc.cell? ⟨gb508, 1, none⟩ = some (.int .i64 a0_1) := (blk_cell BK508.out 1).trans rfl
         have hcz32_2 : wc.cell? ⟨gb508, 2, none⟩ = some (.int .i64 a0_2) := (blk_cell BK508.out 2).trans rfl
         have hcz32_3 : wc.cell? ⟨gb508, 3, none⟩ = some (.int .i64 a0_3) := (blk_cell BK508.out 3).trans rfl
         have hcz32_4 : wc.cell? ⟨gb508, 4, none⟩ = some (.int .i64 a0_4) := (blk_cell BK508.out 4).trans rfl
         have hcz32_5 : wc.cell? ⟨gb508, 5, none⟩ = some (.int .i64 a0_5) := (blk_cell BK508.out 5).trans rfl
         have hfz32_0 := blk_frozen BK508.out 0
         have hfz32_1 := blk_frozen BK508.out 1
         have hfz32_2 := blk_frozen BK508.out 2
         have hfz32_3 := blk_frozen BK508.out 3
         have hfz32_4 := blk_frozen BK508.out 4
         have hfz32_5 := blk_frozen BK508.out 5
         go_wp2
         go_ret
         exact ⟨by first | rfl | (simp [errW_none, errW_some] <;> rfl) | (simp [*, errW_none, errW_some] <;> rfl), by repeat (first | (with_reducible first | exact HB.out | apply ba | apply bn | apply bd | refine below_set ?_ GE508.out) | exact HB.out)⟩
       ·rw [if_neg c21] at H
        have c21b0 : (a0_1 == 1) = false := beq_eq_false_iff_ne.mpr c21
        have c21b1 : (a0_1 != 1) = true := bne_iff_ne.mpr c21
        by_cases c33 : x5_2 = true
        ·subst c33
         have H1 : (if a0_2 ≥ 0 then (some (decide (a0_2 ≤ 1000000))) else (some false)) = some r := by rw [if_pos rfl] at H; exact H
         clear H
         have H := H1
         clear H1
         by_cases c34 : a0_2 ≥ 0
         ·rw [if_pos c34] at H
          have c34b0 : decide (0 ≤ a0_2) = true := decide_eq_true c34
          clear c34
          obtain rfl := Option.some.inj H
          have hcz35_0 : wc.cell? ⟨gb508, 0, none⟩ = some (.int .i64 a0_0) := (blk_cell BK508.out 0).trans rfl
          have hcz35_1 : wc.cell? ⟨gb508, 1, none⟩ = some (.int .i64 a0_1) := (blk_cell BK508.out 1).trans rfl
          have hcz35_2 : wc.cell? ⟨gb508, 2, none⟩ = some (.int .i64 a0_2) := (blk_cell BK508.out 2).trans rfl
          have hcz35_3 : wc.cell? ⟨gb508, 3, none⟩ = some (.int .i64 a0_3) := (blk_cell BK508.out 3).trans rfl
          have hcz35_4 : wc.cell? ⟨gb508, 4, none⟩ = some (.int .i64 a0_4) := (blk_cell BK508.out 4).trans rfl
          have hcz35_5 : wc.cell? ⟨gb508, 5, none⟩ = some (.int .i64 a0_5) := (blk_cell BK508.out 5).trans rfl
          have hfz35_0 := blk_frozen BK508.out 0
          have hfz35_1 := blk_frozen BK508.out 1
          have hfz35_2 := blk_frozen BK508.out 2
          have hfz35_3 := blk_frozen BK508.out 3
          have hfz35_4 := blk_frozen BK508.out 4
          have hfz35_5 := blk_frozen BK508.out 5
          go_wp2
          go_ret
          exact ⟨by first | rfl | (simp [errW_none, errW_some] <;> rfl) | (simp [*, errW_none, errW_some] <;> rfl), by repeat (first | (with_reducible first | exact HB.out | apply ba | apply bn | apply bd | refine below_set ?_ GE508.out) | exact HB.out)⟩
         ·rw [if_neg c34] at H
          have c34b0 : decide (0 ≤ a0_2) = false := decide_eq_false c34
          clear c34
          obtain rfl := Option.some.inj H
          have hcz36_0 : wc.cell? ⟨gb508, 0, none⟩ = some (.int .i64 a0_0) := (blk_cell BK508.out 0).trans rfl
          have hcz36_1 : wc.cell? ⟨gb508, 1, none⟩ = some (.int .i64 a0_1) := (blk_cell BK508.out 1).trans rfl
          have hcz36_2 : wc.cell? ⟨gb508, 2, none⟩ = some (.int .i64 a0_2) := (blk_cell BK508.out 2).trans rfl
          have hcz36_3 : wc.cell? ⟨gb508, 3, none⟩ = some (.int .i64 a0_3) := (blk_cell BK508.out 3).trans rfl
          have hcz36_4 : wc.cell? ⟨gb508, 4, none⟩ = some (.int .i64 a0_4) := (blk_cell BK508.out 4).trans rfl
          have hcz36_5 : wc.cell? ⟨gb508, 5, none⟩ = some (.int .i64 a0_5) := (blk_cell BK508.out 5).trans rfl
          have hfz36_0 := blk_frozen BK508.out 0
          have hfz36_1 := blk_frozen BK508.out 1
          have hfz36_2 := blk_frozen BK508.out 2
          have hfz36_3 := blk_frozen BK508.out 3
          have hfz36_4 := blk_frozen BK508.out 4
          have hfz36_5 := blk_frozen BK508.out 5
          go_wp2
          go_ret
          exact ⟨by first | rfl | (simp [errW_none, errW_some] <;> rfl) | (simp [*, errW_none, errW_some] <;> rfl), by repeat (first | (with_reducible first | exact HB.out | apply ba | apply bn | apply bd | refine below_set ?_ GE508.out) | exact HB.out)⟩
        ·replace c33 := Bool.eq_false_iff.mpr c33
         subst c33
         have H1 : (if a0_3 = 0 then (if a0_2 ≥ 0 then (some (decide (a0_2 ≤ 1000000))) else (some false)) else (some false)) = some r := by rw [if_neg (show ¬ (false = true) by decide)] at H; exact H
         clear H
         have H := H1
         clear H1
         by_cases c37 : a0_3 = 0
         ·rw [if_pos c37] at H
          have c37b0 : (a0_3 == 0) = true := beq_iff_eq.mpr c37
          have c37b1 : (a0_3 != 0) = false := bne_eq_false_iff_eq.mpr c37
          clear c37
          by_cases c38 : a0_2 ≥ 0
          ·rw [if_pos c38] at H
           have c38b0 : decide (0 ≤ a0_2) = true := decide_eq_true c38
           clear c38
           obtain rfl := Option.some.inj H
           have hcz39_0 : wc.cell? ⟨gb508, 0, none⟩ = some (.int .i64 a0_0) := (blk_cell BK508.out 0).trans rfl
           have hcz39_1 : wc.cell? ⟨gb508, 1, none⟩ = some (.int .i64 a0_1) := (blk_cell BK508.out 1).trans rfl
           have hcz39_2 : wc.cell? ⟨gb508, 2, none⟩ = some (.int .i64 a0_2) := (blk_cell BK508.out 2).trans rfl
           have hcz39_3 : wc.cell? ⟨gb508, 3, none⟩ = some (.int .i64 a0_3) := (blk_cell BK508.out 3).trans rfl
           have hcz39_4 : wc.cell? ⟨gb508, 4, none⟩ = some (.int .i64 a0_4) := (blk_cell BK508.out 4).trans rfl
           have hcz39_5 : wc.cell? ⟨gb508, 5, none⟩ = some (.int .i64 a0_5) := (blk_cell BK508.out 5).trans rfl
           have hfz39_0 := blk_frozen BK508.out 0
           have hfz39_1 := blk_frozen BK508.out 1
           have hfz39_2 := blk_frozen BK508.out 2
           have hfz39_3 := blk_frozen BK508.out 3
           have hfz39_4 := blk_frozen BK508.out 4
           have hfz39_5 := blk_frozen BK508.out 5
           go_wp2
           go_ret
           exact ⟨by first | rfl | (simp [errW_none, errW_some] <;> rfl) | (simp [*, errW_none, errW_some] <;> rfl), by repeat (first | (with_reducible first | exact HB.out | apply ba | apply bn | apply bd | refine below_set ?_ GE508.out) | exact HB.out)⟩
          ·rw [if_neg c38] at H
           have c38b0 : decide (0 ≤ a0_2) = false := decide_eq_false c38
           clear c38
           obtain rfl := Option.some.inj H
           have hcz40_0 : wc.cell? ⟨gb508, 0, none⟩ = some (.int .i64 a0_0) := (blk_cell BK508.out 0).trans rfl
           have hcz40_1 : wc.cell? ⟨gb508, 1, none⟩ = some (.int .i64 a0_1) := (blk_cell BK508.out 1).trans rfl
           have hcz40_2 : wc.cell? ⟨gb508, 2, none⟩ = some (.int .i64 a0_2) := (blk_cell BK508.out 2).trans rfl
           have hcz40_3 : wc.cell? ⟨gb508, 3, none⟩ = some (.int .i64 a0_3) := (blk_cell BK508.out 3).trans rfl
           have hcz40_4 : wc.cell? ⟨gb508, 4, none⟩ = some (.int .i64 a0_4) := (blk_cell BK508.out 4).trans rfl
           have hcz40_5 : wc.cell? ⟨gb508, 5, none⟩ = some (.int .i64 a0_5) := (blk_cell BK508.out 5).trans rfl
           have hfz40_0 := blk_frozen BK508.out 0
           have hfz40_1 := blk_frozen BK508.out 1
           have hfz40_2 := blk_frozen BK508.out 2
           have hfz40_3 := blk_frozen BK508.out 3
           have hfz40_4 := blk_frozen BK508.out 4
           have hfz40_5 := blk_frozen BK508.out 5
           go_wp2
           go_ret
           exact ⟨by first | rfl | (simp [errW_none, errW_some] <;> rfl) | (simp [*, errW_none, errW_some] <;> rfl), by repeat (first | (with_reducible first | exact HB.out | apply ba | apply bn | apply bd | refine below_set ?_ GE508.out) | exact HB.out)⟩
         ·rw [if_neg c37] at H
          have c37b0 : (a0_3 == 0) = false := beq_eq_false_iff_ne.mpr c37
          have c37b1 : (a0_3 != 0) = true := bne_iff_ne.mpr c37
          obtain rfl := Option.some.inj H
          have hcz41_0 : wc.cell? ⟨gb508, 0, none⟩ = some (.int .i64 a0_0) := (blk_cell BK508.out 0).trans rfl
          have hcz41_1 : wc.cell? ⟨gb508, 1, none⟩ = some (.int .i64 a0_1) := (blk_cell BK508.out 1).trans rfl
          have hcz41_2 : wc.cell? ⟨gb508, 2, none⟩ = some (.int .i64 a0_2) := (blk_cell BK508.out 2).trans rfl
          have hcz41_3 : wc.cell? ⟨gb508, 3, none⟩ = some (.int .i64 a0_3) := (blk_cell BK508.out 3).trans rfl
          have hcz41_4 : wc.cell? ⟨gb508, 4, none⟩ = some (.int .i64 a0_4) := (blk_cell BK508.out 4).trans rfl
          have hcz41_5 : wc.cell? ⟨gb508, 5, none⟩ = some (.int .i64 a0_5) := (blk_cell BK508.out 5).trans rfl
          have hfz41_0 := blk_frozen BK508.out 0
          have hfz41_1 := blk_frozen BK508.out 1
          have hfz41_2 := blk_frozen BK508.out 2
          have hfz41_3 := blk_frozen BK508.out 3
          have hfz41_4 := blk_frozen BK508.out 4
          have hfz41_5 := blk_frozen BK508.out 5
          go_wp2
          go_ret
          exact ⟨by first | rfl | (simp [errW_none, errW_some] <;> rfl) | (simp [*, errW_none, errW_some] <;> rfl), by repeat (first | (with_reducible first | exact HB.out | apply ba | apply bn | apply bd | refine below_set ?_ GE508.out) | exact HB.out)⟩
      ·rw [if_neg c20] at H
       have c20b0 : (a0_1 == 0) = false := beq_eq_false_iff_ne.mpr c20
       have c20b1 : (a0_1 != 0) = true := bne_iff_ne.mpr c20
       by_cases c42 : a0_1 = 1
       ·rw [if_pos c42] at H
        have c42b0 : (a0_1 == 1) = true := beq_iff_eq.mpr c42
        have c42b1 : (a0_1 != 1) = false := bne_eq_false_iff_eq.mpr c42
        clear c42
        by_cases c43 : a0_0 = 0
        ·rw [if_pos c43] at H
         have c43b0 : (a0_0 == 0) = true := beq_iff_eq.mpr c43
         have c43b1 : (a0_0 != 0) = false := bne_eq_false_iff_eq.mpr c43
         clear c43
         by_cases c44 : a0_3 = 0
         ·rw [if_pos c44] at H
          have c44b0 : (a0_3 == 0) = true := beq_iff_eq.mpr c44
          have c44b1 : (a0_3 != 0) = false := bne_eq_false_iff_eq.mpr c44
          clear c44
          by_cases c45 : x5_2 = true
          ·subst c45
           have H1 : (if a0_2 ≥ 0 then (some (decide (a0_2 ≤ 1000000))) else (some false)) = some r := by rw [if_pos rfl] at H; exact H
           clear H
           have H := H1
           clear H1
           by_cases c46 : a0_2 ≥ 0
           ·rw [if_pos c46] at H
            have c46b0 : decide (0 ≤ a0_2) = true := decide_eq_true c46
            clear c46
            obtain rfl := Option.some.inj H
            have hcz47_0 : wc.cell? ⟨gb508, 0, none⟩ = some (.int .i64 a0_0) := (blk_cell BK508.out 0).trans rfl
            have hcz47_1 : wc.cell? ⟨gb508, 1, none⟩ = some (.int .i64 a0_1) := (blk_cell BK508.out 1).trans rfl
            have hcz47_2 : wc.cell? ⟨gb508, 2, none⟩ = some (.int .i64 a0_2) := (blk_cell BK508.out 2).trans rfl
            have hcz47_3 : wc.cell? ⟨gb508, 3, none⟩ = some (.int .i64 a0_3) := (blk_cell BK508.out 3).trans rfl
            have hcz47_4 : wc.cell? ⟨gb508, 4, none⟩ = some (.int .i64 a0_4) := (blk_cell BK508.out 4).trans rfl
            have hcz47_5 : wc.cell? ⟨gb508, 5, none⟩ = some (.int .i64 a0_5) := (blk_cell BK508.out 5).trans rfl
            have hfz47_0 := blk_frozen BK508.out 0
            have hfz47_1 := blk_frozen BK508.out 1
            have hfz47_2 := blk_frozen BK508.out 2
            have hfz47_3 := blk_frozen BK508.out 3
            have hfz47_4 := blk_frozen BK508.out 4
            have hfz47_5 := blk_frozen BK508.out 5
            go_wp2
            go_ret
            exact ⟨by first | rfl | (simp [errW_none, errW_some] <;> rfl) | (simp [*, errW_none, errW_some] <;> rfl), by repeat (first | (with_reducible first | exact HB.out | apply ba | apply bn | apply bd | refine below_set ?_ GE508.out) | exact HB.out)⟩
           ·rw [if_neg c46] at H
            have c46b0 : decide (0 ≤ a0_2) = false := decide_eq_false c46
            clear c46
            obtain rfl := Option.some.inj H
            have hcz48_0 : wc.cell? ⟨gb508, 0, none⟩ = some (.int .i64 a0_0) := (blk_cell BK508.out 0).trans rfl
            have hcz48_1 : wc.cell? ⟨gb508, 1, none⟩ = some (.int .i64 a0_1) := (blk_cell BK508.out 1).trans rfl
            have hcz48_2 : wc.cell? ⟨gb508, 2, none⟩ = some (.int .i64 a0_2) := (blk_cell BK508.out 2).trans rfl
            have hcz48_3 : wc.cell? ⟨gb508, 3, none⟩ = some (.int .i64 a0_3) := (blk_cell BK508.out 3).trans rfl
            have hcz48_4 : wc.cell? ⟨gb508, 4, none⟩ = some (.int .i64 a0_4) := (blk_cell BK508.out 4).trans rfl
            have hcz48_5 : wc.cell? ⟨gb508, 5, none⟩ = some (.int .i64 a0_5) := (blk_cell BK508.out 5).trans rfl
            have hfz48_0 := blk_frozen BK508.out 0
            have hfz48_1 := blk_frozen BK508.out 1
            have hfz48_2 := blk_frozen BK508.out 2
            have hfz48_3 := blk_frozen BK508.out 3
            have hfz48_4 := blk_frozen BK508.out 4
            have hfz48_5 := blk_frozen BK508.out 5
            go_wp2
            go_ret
            exact ⟨by first | rfl | (simp [errW_none, errW_some] <;> rfl) | (simp [*, errW_none, errW_some] <;> rfl), by repeat (first | (with_reducible first | exact HB.out | apply ba | apply bn | apply bd | refine below_set ?_ GE508.out) | exact HB.out)⟩
          ·replace c45 := Bool.eq_false_iff.mpr c45
           subst c45
           have H1 : (if a0_2 ≥ 0 then (some (decide (a0_2 ≤ 1000000))) else (some false)) = some r := by rw [if_neg (show ¬ (false = true) by decide)] at H; exact H
           clear H
           have H := H1
           clear H1
           by_cases c49 : a0_2 ≥ 0
           ·rw [if_pos c49] at H
            have c49b0 : decide (0 ≤ a0_2) = true := decide_eq_true c49
            clear c49
            obtain rfl := Option.some.inj H
            have hcz50_0 : wc.cell? ⟨gb508, 0, none⟩ = some (.int .i64 a0_0) := (blk_cell BK508.out 0).trans rfl
            have hcz50_1 : wc.cell? ⟨gb508, 1, none⟩ = some (.int .i64 a0_1) := (blk_cell BK508.out 1).trans rfl
            have hcz50_2 : wc.cell? ⟨gb508, 2, none⟩ = some (.int .i64 a0_2) := (blk_cell BK508.out 2).trans rfl
            have hcz50_3 : wc.cell? ⟨gb508, 3, none⟩ = some (.int .i64 a0_3) := (blk_cell BK508.out 3).trans rfl
            have hcz50_4 : wc.cell? ⟨gb508, 4, none⟩ = some (.int .i64 a0_4) := (blk_cell BK508.out 4).trans rfl
            have hcz50_5 : wc.cell? ⟨gb508, 5, none⟩ = some (.int .i64 a0_5) := (blk_cell BK508.out 5).trans rfl
            have hfz50_0 := blk_frozen BK508.out 0
            have hfz50_1 := blk_frozen BK508.out 1
            have hfz50_2 := blk_frozen BK508.out 2
            have hfz50_3 := blk_frozen BK508.out 3
            have hfz50_4 := blk_frozen BK508.out 4
            have hfz50_5 := blk_frozen BK508.out 5
            go_wp2
            go_ret
            exact ⟨by first | rfl | (simp [errW_none, errW_some] <;> rfl) | (simp [*, errW_none, errW_some] <;> rfl), by repeat (first | (with_reducible first | exact HB.out | apply ba | apply bn | apply bd | refine below_set ?_ GE508.out) | exact HB.out)⟩
           ·rw [if_neg c49] at H
            have c49b0 : decide (0 ≤ a0_2) = false := decide_eq_false c49
            clear c49
            obtain rfl := Option.some.inj H
            have hcz51_0 : wc.cell? ⟨gb508, 0, none⟩ = some (.int .i64 a0_0) := (blk_cell BK508.out 0).trans rfl
            have hcz51_1 : wc.cell? ⟨gb508, 1, none⟩ = some (.int .i64 a0_1) := (blk_cell BK508.out 1).trans rfl
            have hcz51_2 : wc.cell? ⟨gb508, 2, none⟩ = some (.int .i64 a0_2) := (blk_cell BK508.out 2).trans rfl
            have hcz51_3 : wc.cell? ⟨gb508, 3, none⟩ = some (.int .i64 a0_3) := (blk_cell BK508.out 3).trans rfl
            have hcz51_4 : wc.cell? ⟨gb508, 4, none⟩ = some (.int .i64 a0_4) := (blk_cell BK508.out 4).trans rfl
            have hcz51_5 : wc.cell? ⟨gb508, 5, none⟩ = some (.int .i64 a0_5) := (blk_cell BK508.out 5).trans rfl
            have hfz51_0 := blk_frozen BK508.out 0
            have hfz51_1 := blk_frozen BK508.out 1
            have hfz51_2 := blk_frozen BK508.out 2
            have hfz51_3 := blk_frozen BK508.out 3
            have hfz51_4 := blk_frozen BK508.out 4
            have hfz51_5 := blk_frozen BK508.out 5
            go_wp2
            go_ret
            exact ⟨by first | rfl | (simp [errW_none, errW_some] <;> rfl) | (simp [*, errW_none, errW_some] <;> rfl), by repeat (first | (with_reducible first | exact HB.out | apply ba | apply bn | apply bd | refine below_set ?_ GE508.out) | exact HB.out)⟩
         ·rw [if_neg c44] at H
          have c44b0 : (a0_3 == 0) = false := beq_eq_false_iff_ne.mpr c44
          have c44b1 : (a0_3 != 0) = true := bne_iff_ne.mpr c44
          obtain rfl := Option.some.inj H
          have hcz52_0 : wc.cell? ⟨gb508, 0, none⟩ = some (.int .i64 a0_0) := (blk_cell BK508.out 0).trans rfl
          have hcz52_1 : wc.cell? ⟨gb508, 1, none⟩ = some (.int .i64 a0_1) := (blk_cell BK508.out 1).trans rfl
          have hcz52_2 : wc.cell? ⟨gb508, 2, none⟩ = some (.int .i64 a0_2) := (blk_cell BK508.out 2).trans rfl
          have hcz52_3 : wc.cell? ⟨gb508, 3, none⟩ = some (.int .i64 a0_3) := (blk_cell BK508.out 3).trans rfl
          have hcz52_4 : wc.cell? ⟨gb508, 4, none⟩ = some (.int .i64 a0_4) := (blk_cell BK508.out 4).trans rfl
          have hcz52_5 : wc.cell? ⟨gb508, 5, none⟩ = some (.int .i64 a0_5) := (blk_cell BK508.out 5).trans rfl
          have hfz52_0 := blk_frozen BK508.out 0
          have hfz52_1 := blk_frozen BK508.out 1
          have hfz52_2 := blk_frozen BK508.out 2
          have hfz52_3 := blk_frozen BK508.out 3
          have hfz52_4 := blk_frozen BK508.out 4
          have hfz52_5 := blk_frozen BK508.out 5
          go_wp2
          go_ret
          exact ⟨by first | rfl | (simp [errW_none, errW_some] <;> rfl) | (simp [*, errW_none, errW_some] <;> rfl), by repeat (first | (with_reducible first | exact HB.out | apply ba | apply bn | apply bd | refine below_set ?_ GE508.out) | exact HB.out)⟩
        ·rw [if_neg c43] at H
         have c43b0 : (a0_0 == 0) = false := beq_eq_false_iff_ne.mpr c43
         have c43b1 : (a0_0 != 0) = true := bne_iff_ne.mpr c43
         obtain rfl := Option.some.inj H
         have hcz53_0 : wc.cell? ⟨gb508, 0, none⟩ = some (.int .i64 a0_0) := (blk_cell BK508.out 0).trans rfl
         have hcz53_1 : wc.cell? ⟨gb508, 1, none⟩ = some (.int .i64 a0_1) := (blk_cell BK508.out 1).trans rfl
         have hcz53_2 : wc.cell? ⟨gb508, 2, none⟩ = some (.int .i64 a0_2) := (blk_cell BK508.out 2).trans rfl
         have hcz53_3 : wc.cell? ⟨gb508, 3, none⟩ = some (.int .i64 a0_3) := (blk_cell BK508.out 3).trans rfl
         have hcz53_4 : wc.cell? ⟨gb508, 4, none⟩ = some (.int .i64 a0_4) := (blk_cell BK508.out 4).trans rfl
         have hcz53_5 : wc.cell? ⟨gb508, 5, none⟩ = some (.int .i64 a0_5) := (blk_cell BK508.out 5).trans rfl
         have hfz53_0 := blk_frozen BK508.out 0
         have hfz53_1 := blk_frozen BK508.out 1
         have hfz53_2 := blk_frozen BK508.out 2
         have hfz53_3 := blk_frozen BK508.out 3
         have hfz53_4 := blk_frozen BK508.out 4
         have hfz53_5 := blk_frozen BK508.out 5
         go_wp2
         go_ret
         exact ⟨by first | rfl | (simp [errW_none, errW_some] <;> rfl) | (simp [*, errW_none, errW_some] <;> rfl), by repeat (first | (with_reducible first | exact HB.out | apply ba | apply bn | apply bd | refine below_set ?_ GE508.out) | exact HB.out)⟩
       ·rw [if_neg c42] at H
        have c42b0 : (a0_1 == 1) = false := beq_eq_false_iff_ne.mpr c42
        have c42b1 : (a0_1 != 1) = true := bne_iff_ne.mpr c42
        obtain rfl := Option.some.inj H
        have hcz54_0 : wc.cell? ⟨gb508, 0, none⟩ = some (.int .i64 a0_0) := (blk_cell BK508.out 0).trans rfl
        have hcz54_1 : wc.cell? ⟨gb508, 1, none⟩ = some (.int .i64 a0_1) := (blk_cell BK508.out 1).trans rfl
        have hcz54_2 : wc.cell? ⟨gb508, 2, none⟩ = some (.int .i64 a0_2) := (blk_cell BK508.out 2).trans rfl
        have hcz54_3 : wc.cell? ⟨gb508, 3, none⟩ = some (.int .i64 a0_3) := (blk_cell BK508.out 3).trans rfl
        have hcz54_4 : wc.cell? ⟨gb508, 4, none⟩ = some (.int .i64 a0_4) := (blk_cell BK508.out 4).trans rfl
        have hcz54_5 : wc.cell? ⟨gb508, 5, none⟩ = some (.int .i64 a0_5) := (blk_cell BK508.out 5).trans rfl
        have hfz54_0 := blk_frozen BK508.out 0
        have hfz54_1 := blk_frozen BK508.out 1
        have hfz54_2 := blk_frozen BK508.out 2
        have hfz54_3 := blk_frozen BK508.out 3
        have hfz54_4 := blk_frozen BK508.out 4
        have hfz54_5 := blk_frozen BK508.out 5
        go_wp2
        go_ret
        exact ⟨by first | rfl | (simp [errW_none, errW_some] <;> rfl) | (simp [*, errW_none, errW_some] <;> rfl), by repeat (first | (with_reducible first | exact HB.out | apply ba | apply bn | apply bd | refine below_set ?_ GE508.out) | exact HB.out)⟩
end Go.Proofs.Ytgleaefhflamnaa.T
namespace Go.Proofs.Ytgleaefhflamnaa.T
open Go.RowKit Go.Proofs.YtgleaefhflamnaaW.PrintWords Go.Proofs.YtgleaefhflamnaaW.PrintLast Go.Proofs.YtgleaefhflamnaaW.PrintMore
attribute [local go_sem] max2_int min2_int max_two min_two max_three min_three max_four min_four   -- for this text's walks alone
set_option linter.unusedVariables false
set_option linter.unusedSimpArgs false
mutual
def larchref16_Check.l0 : Nat → List (S34) → List Int → Int → Option (Int)
 | 0, _, _, _ => none
 | k + 1, x0, x3, x4 => if x4 < (x0.length : Int) then (if 0 ≤ x4 then ((larchref16_node.f k ((rd_T34 x0 x4).f0) ((rd_T34 x0 x4).f1) ((rd_T34 x0 x4).f2) ((rd_T34 x0 x4).f3) ((rd_T34 x0 x4).f4) ((rd_T34 x0 x4).f5) (x0.length : Int)).bind fun t513 => (if t513 = true then (if ((rd_T34 x0 x4).f4) = (-1) then (larchref16_Check.l0 k x0 x3 (wrap64 (x4 + 1))) else (if 0 ≤ ((rd_T34 x0 x4).f4) then (if ((rd_T34 x0 x4).f4) < (x3.length : Int) then ((some (x3.set (((rd_T34 x0 x4).f4) : Int).toNat (wrap64 ((rd x3 ((rd_T34 x0 x4).f4)) + 1)) : List Int)).bind fun y517 => (if 0 ≤ ((rd_T34 x0 x4).f5) then (if ((rd_T34 x0 x4).f5) < (x3.length : Int) then (larchref16_Check.l0 k x0 (y517.set (((rd_T34 x0 x4).f5) : Int).toNat (wrap64 ((rd y517 ((rd_T34 x0 x4).f5)) + 1))) (wrap64 (x4 + 1))) else (none)) else (none))) else (none)) else (none))) else (some 3))) else (none)) else (larchref16_Check.l1 k x0 x3 1)
def larchref16_Check.l1 : Nat → List (S34) → List Int → Int → Option (Int)
 | 0, _, _, _ => none
 | k + 1, x0, x3, x5 => if x5 < (x0.length : Int) then (if 0 ≤ x5 then (if x5 < (x3.length : Int) then (if (rd x3 x5) = 1 then (larchref16_Check.l1 k x0 x3 (wrap64 (x5 + 1))) else (some 3)) else (none)) else (none)) else (larchref16_Check.l2 k x0 0 (([0] : List Int)))
def larchref16_Check.l2 : Nat → List (S34) → Int → List Int → Option (Int)
 | 0, _, _, _ => none
 | k + 1, x0, x6, x7 => if (x7.length : Int) > 0 then (if 0 ≤ (wrap64 ((x7.length : Int) - 1)) then (if (wrap64 ((x7.length : Int) - 1)) < (x7.length : Int) then (if 0 ≤ (rd x7 (wrap64 ((x7.length : Int) - 1))) then (if (rd x7 (wrap64 ((x7.length : Int) - 1))) < (x0.length : Int) then (if (wrap64 ((x7.length : Int) - 1)) ≤ (x7.length : Int) then ((some (x7.take ((wrap64 ((x7.length : Int) - 1)) : Int).toNat : List Int)).bind fun y528 => (if ((rd_T34 x0 (rd x7 (wrap64 ((x7.length : Int) - 1)))).f4) = (-1) then (larchref16_Check.l2 k x0 (wrap64 (x6 + 1)) y528) else ((some (([(rd_T34 x0 (rd x7 (wrap64 ((x7.length : Int) - 1)))).f4, (rd_T34 x0 (rd x7 (wrap64 ((x7.length : Int) - 1)))).f5] : List Int) : List Int)).bind fun y531 => (if y528.length + y531.length < 17592186044416 then (larchref16_Check.l2 k x0 (wrap64 (x6 + 1)) (y528 ++ y531)) else (none))))) else (none)) else (none)) else (none)) else (none)) else (none)) else (if x6 = (x0.length : Int) then (some 0) else (some 3))
end
def larchref16_Check.f (k : Nat) (l0 : List (S34)) : Option (Int) := if (l0.length : Int) > 100000 then (some 2) else (if (l0.length : Int) = 0 then (some 3) else (if 0 ≤ (l0.length : Int) then (if ((l0.length : Int) : Int).toNat ≤ 35184372088832 then (larchref16_Check.l0 k l0 (List.replicate ((l0.length : Int) : Int).toNat 0) 0) else (none)) else (none)))
theorem larchref16_Check.mono_l : ∀ k, (∀ y0 y1 y2, LeO (larchref16_Check.l0 k y0 y1 y2) (larchref16_Check.l0 (k + 1) y0 y1 y2)) ∧ (∀ y0 y1 y2, LeO (larchref16_Check.l1 k y0 y1 y2) (larchref16_Check.l1 (k + 1) y0 y1 y2)) ∧ (∀ y0 y1 y2, LeO (larchref16_Check.l2 k y0 y1 y2) (larchref16_Check.l2 (k + 1) y0 y1 y2))
 | 0 => ⟨fun _ _ _ r h => by simp [larchref16_Check.l0] at h, fun _ _ _ r h => by simp [larchref16_Check.l1] at h, fun _ _ _ r h => by simp [larchref16_Check.l2] at h⟩
 | k + 1 => by
  obtain ⟨ih0, ih1, ih2⟩ := larchref16_Check.mono_l k
  refine ⟨?_, ?_, ?_⟩
  ·intro y0 y1 y2
   unfold larchref16_Check.l0
   repeat' first
   | (with_reducible exact ih0 _ _ _)
   | (with_reducible exact ih1 _ _ _)
   | (with_reducible exact ih2 _ _ _)
   | (with_reducible exact larchref16_node.mono _ _ _ _ _ _ _ _)
   | (with_reducible exact LeO.refl _)
   | (with_reducible exact LeO.none _)
   | (with_reducible refine LeO.ite ?_ ?_)
   | (with_reducible refine LeO.bind ?_ (fun _ => ?_))
   | exact ih0 _ _ _
   | exact ih1 _ _ _
   | exact ih2 _ _ _
   | exact larchref16_node.mono _ _ _ _ _ _ _ _
   | exact LeO.none _
   | refine LeO.ite ?_ ?_
   | refine LeO.bind ?_ (fun _ => ?_)
  ·intro y0 y1 y2
   unfold larchref16_Check.l1
   repeat' first
   | (with_reducible exact ih0 _ _ _)
   | (with_reducible exact ih1 _ _ _)
   | (with_reducible exact ih2 _ _ _)
   | (with_reducible exact larchref16_node.mono _ _ _ _ _ _ _ _)
   | (with_reducible exact LeO.refl _)
   | (with_reducible exact LeO.none _)
   | (with_reducible refine LeO.ite ?_ ?_)
   | (with_reducible refine LeO.bind ?_ (fun _ => ?_))
   | exact ih0 _ _ _
   | exact ih1 _ _ _
   | exact ih2 _ _ _
   | exact larchref16_node.mono _ _ _ _ _ _ _ _
   | exact LeO.none _
   | refine LeO.ite ?_ ?_
   | refine LeO.bind ?_ (fun _ => ?_)
  ·intro y0 y1 y2
   unfold larchref16_Check.l2
   repeat' first
   | (with_reducible exact ih0 _ _ _)
   | (with_reducible exact ih1 _ _ _)
   | (with_reducible exact ih2 _ _ _)
   | (with_reducible exact larchref16_node.mono _ _ _ _ _ _ _ _)
   | (with_reducible exact LeO.refl _)
   | (with_reducible exact LeO.none _)
   | (with_reducible refine LeO.ite ?_ ?_)
   | (with_reducible refine LeO.bind ?_ (fun _ => ?_))
   | exact ih0 _ _ _
   | exact ih1 _ _ _
   | exact ih2 _ _ _
   | exact larchref16_node.mono _ _ _ _ _ _ _ _
   | exact LeO.none _
   | refine LeO.ite ?_ ?_
   | refine LeO.bind ?_ (fun _ => ?_)
theorem larchref16_Check.mono : ∀ a0 k, LeO (larchref16_Check.f k a0) (larchref16_Check.f (k + 1) a0) := by
 intro a0 k
 obtain ⟨ih0, ih1, ih2⟩ := larchref16_Check.mono_l k
 unfold larchref16_Check.f
 repeat' first
   | (with_reducible exact ih0 _ _ _)
   | (with_reducible exact ih1 _ _ _)
   | (with_reducible exact ih2 _ _ _)
   | (with_reducible exact larchref16_node.mono _ _ _ _ _ _ _ _)
   | (with_reducible exact LeO.refl _)
   | (with_reducible exact LeO.none _)
   | (with_reducible refine LeO.ite ?_ ?_)
   | (with_reducible refine LeO.bind ?_ (fun _ => ?_))
   | exact ih0 _ _ _
   | exact ih1 _ _ _
   | exact ih2 _ _ _
   | exact larchref16_node.mono _ _ _ _ _ _ _ _
   | exact LeO.none _
   | refine LeO.ite ?_ ?_
   | refine LeO.bind ?_ (fun _ => ?_)
set_option maxHeartbeats 8000000 in
set_option maxRecDepth 100000 in
theorem larchref16_Check.calls (k : Nat) (A0 : Option Addr) (c0 : Nat) (l0 : List (S34)) (r : Int) (w : World) (hr0 : Kd.C k34 w A0 l0.length l0) (hc0 : l0.length ≤ c0) (h : larchref16_Check.f k l0 = some r) :
  Calls Try.prog 46 #[.slice A0 l0.length c0] w fun e w' => e = .returned (.int .i64 r) ∧ Below w.heap.size w w' := by
 have hu34 := Try.underlying34
 have HR0 := Am hr0
 have HC0 := Am hc0
 clear hr0 hc0
 have HB := Am (Below.refl w.heap.size w)
 have H : (if (l0.length : Int) > 100000 then (some 2) else (if (l0.length : Int) = 0 then (some 3) else (if 0 ≤ (l0.length : Int) then (if ((l0.length : Int) : Int).toNat ≤ 35184372088832 then (larchref16_Check.l0 k l0 (List.replicate ((l0.length : Int) : Int).toNat 0) 0) else (none)) else (none)))) = some r := h
 clear h
 by_cases c2 : (l0.length : Int) > 100000
 ·rw [if_pos c2] at H
  have c2b0 : decide (100000 < (l0.length : Int)) = true := decide_eq_true c2
  have c2b1 : decide (100000 < l0.length) = true := decide_eq_true (by omega)
  clear c2
  obtain rfl := Option.some.inj H
  go_enter Try.func46, Try.ntmps46
  go_wp2
  go_ret
  exact ⟨by first | rfl | (simp [errW_none, errW_some] <;> rfl) | (simp [*, errW_none, errW_some] <;> rfl), by repeat (first | (with_reducible first | exact HB.out | apply ba | apply bn | apply bd) | exact HB.out)⟩
 ·rw [if_neg c2] at H
  have c2b0 : decide (100000 < (l0.length : Int)) = false := decide_eq_false c2
  have c2b1 : decide (100000 < l0.length) = false := decide_eq_false (by omega)
  clear c2
  by_cases c3 : (l0.length : Int) = 0
  ·rw [if_pos c3] at H
   have c3b0 : ((l0.length : Int) == 0) = true := beq_iff_eq.mpr c3
   have c3b1 : ((l0.length : Int) != 0) = false := bne_eq_false_iff_eq.mpr c3
   clear c3
   obtain rfl := Option.some.inj H
   go_enter Try.func46, Try.ntmps46
   go_wp2
   go_ret
   exact ⟨by first | rfl | (simp [errW_none, errW_some] <;> rfl) | (simp [*, errW_none, errW_some] <;> rfl), by repeat (first | (with_reducible first | exact HB.out | apply ba | apply bn | apply bd) | exact HB.out)⟩
  ·rw [if_neg c3] at H
   have c3b0 : ((l0.length : Int) == 0) = false := beq_eq_false_iff_ne.mpr c3
   have c3b1 : ((l0.length : Int) != 0) = true := bne_iff_ne.mpr c3
   have c3b2 : ¬ (l0 = []) := fun h_ => c3 (by rw [h_]; rfl)
   by_cases c4 : 0 ≤ (l0.length : Int)
   ·rw [if_pos c4] at H
    have c4b0 := eq_true c4
    have c4b1 : decide (0 ≤ (l0.length : Int)) = true := decide_eq_true c4
    clear c4
    by_cases c5 : ((l0.length : Int) : Int).toNat ≤ 35184372088832
    ·rw [if_pos c5] at H
     have c5b0 := eq_true c5
     have c5b1 : decide (((l0.length : Int) : Int).toNat ≤ 35184372088832) = true := decide_eq_true c5
     clear c5
     obtain ⟨y509, hy509⟩ : ∃ y_ : List Int, y_ = (List.replicate ((l0.length : Int) : Int).toNat 0) := ⟨_, rfl⟩
     replace H : (larchref16_Check.l0 k l0 y509 0) = some r := by first | (rw [hy509]; with_reducible exact H) | (have H2_ := (Option.bind_some _ _).symm.trans H; rw [hy509]; with_reducible exact H2_) | (have H2_ := (Option.bind_some _ _).symm.trans H; with_reducible exact H2_) | with_reducible exact H | (rw [hy509]; exact H) | exact H
     have Ny509 := Am hy509
     clear hy509
     have H' := Am H
     clear H
     go_enter Try.func46, Try.ntmps46
     go_wp2_with (first | ((with_reducible refine gate_dst (N := 17) rfl ?_); refine Kd.R_make (Kd.int .i64) _ 3 rfl (N := 17) rfl 31 _ _ rfl (l0.length : Int) rfl rfl Try.underlying31 (.int .i64 0) 8 info3 rfl (by decide) (by omega) 0 (ok := fun _ => True) (okp := fun _ => True) rfl (fun _ hk => hk) trivial (of_decide_eq_true (by first | (with_reducible assumption) | assumption)) (Nat.le_trans (Nat.mul_le_mul_right _ (of_decide_eq_true (by first | (with_reducible assumption) | assumption) : (l0.length : Int).toNat ≤ 35184372088832)) (by omega)) (Below.refl _ _) (Nat.le_refl _) ?_; intro v510 w6 ho7 hb hg_ hnew_; clear hg_ hnew_; (first | rw [← Ny509.out] at ho7 | (simp only [Int.reduceToNat] at ho7; rw [← Ny509.out] at ho7)); have n0_ := Am (Kd.R_lower ho7 (below_size (by repeat (first | (with_reducible first | exact HB.out | apply ba | apply bn | apply bd) | exact HB.out)))); have n1_ := Am (below_step (by repeat (first | (with_reducible first | exact HB.out | apply ba | apply bn | apply bd) | exact HB.out)) hb); clear HB; have HO511 := n0_; have HB := n1_; clear n0_ n1_; clear hb ho7))
     go_loopg [4] k (fun kq v4 w' => ∃ (x3_1 : List Int) (x4_1 : Int), v4 = .int .i64 x4_1 ∧ Aside0 (larchref16_Check.l0 kq l0 x3_1 x4_1 = some r) ∧ Aside0 (kq ≤ k) ∧ Aside0 (Kd.R (Kd.int .i64) 3 w' w.heap.size (fun _ => True) v510 x3_1) ∧ Aside0 (Below w.heap.size w w'))
     case atStart => exact ⟨(y509), (0), (by first | rfl | (simp; done) | (simp [*]; done)), H', ⟨Nat.le_refl _⟩, ⟨by (with_reducible repeat (first | apply Kd.R_alloc | apply Kd.R_drewN | apply Kd.R_drew)); exact HO511.out⟩, ⟨by repeat (first | (with_reducible first | exact HB.out | apply ba | apply bn | apply bd) | exact HB.out)⟩⟩
     case round =>
      clear H'
      try clear c2
      try clear c2b0
      try clear c2b1
      try clear p2
      try clear c3
      try clear c3b0
      try clear c3b1
      try clear c3b2
      try clear c4
      try clear c4b0
      try clear c4b1
      try clear c5
      try clear c5b0
      try clear c5b1
      obtain ⟨x3_1, x4_1, rfl, HA, HK1, HO_3, HB⟩ := hrel
      cases gk with
      | zero => exact absurd HA.out (by simp [larchref16_Check.l0])
      | succ k1 =>
       have H := HA.out
       clear HA
       simp only [larchref16_Check.l0] at H
       by_cases c8 : x4_1 < (l0.length : Int)
       ·rw [if_pos c8] at H
        have c8b0 : decide (x4_1 < (l0.length : Int)) = true := decide_eq_true c8
        clear c8
        by_cases c9 : 0 ≤ x4_1
        ·rw [if_pos c9] at H
         have c9b0 : decide (0 ≤ x4_1) = true := decide_eq_true c9
         clear c9
         replace H := Option.bind_eq_some_iff.mp H
         obtain ⟨t513, A100, H⟩ := H
         replace H : (if t513 = true then (if ((rd_T34 l0 x4_1).f4) = (-1) then (larchref16_Check.l0 k1 l0 x3_1 (wrap64 (x4_1 + 1))) else (if 0 ≤ ((rd_T34 l0 x4_1).f4) then (if ((rd_T34 l0 x4_1).f4) < (x3_1.length : Int) then ((some (x3_1.set (((rd_T34 l0 x4_1).f4) : Int).toNat (wrap64 ((rd x3_1 ((rd_T34 l0 x4_1).f4)) + 1)) : List Int)).bind fun y517 => (if 0 ≤ ((rd_T34 l0 x4_1).f5) then (if ((rd_T34 l0 x4_1).f5) < (x3_1.length : Int) then (larchref16_Check.l0 k1 l0 (y517.set (((rd_T34 l0 x4_1).f5) : Int).toNat (wrap64 ((rd y517 ((rd_T34 l0 x4_1).f5)) + 1))) (wrap64 (x4_1 + 1))) else (none)) else (none))) else (none)) else (none))) else (some 3)) = some r := H
         have A10 := Am A100
         clear A100
         by_cases c11 : t513 = true
         ·subst c11
          have H1 : (if ((rd_T34 l0 x4_1).f4) = (-1) then (larchref16_Check.l0 k1 l0 x3_1 (wrap64 (x4_1 + 1))) else (if 0 ≤ ((rd_T34 l0 x4_1).f4) then (if ((rd_T34 l0 x4_1).f4) < (x3_1.length : Int) then ((some (x3_1.set (((rd_T34 l0 x4_1).f4) : Int).toNat (wrap64 ((rd x3_1 ((rd_T34 l0 x4_1).f4)) + 1)) : List Int)).bind fun y517 => (if 0 ≤ ((rd_T34 l0 x4_1).f5) then (if ((rd_T34 l0 x4_1).f5) < (x3_1.length : Int) then (larchref16_Check.l0 k1 l0 (y517.set (((rd_T34 l0 x4_1).f5) : Int).toNat (wrap64 ((rd y517 ((rd_T34 l0 x4_1).f5)) + 1))) (wrap64 (x4_1 + 1))) else (none)) else (none))) else (none)) else (none))) = some r := by rw [if_pos rfl] at H; exact H
          clear H
          have H := H1
          clear H1
          by_cases c12 : ((rd_T34 l0 x4_1).f4) = (-1)
          ·rw [if_pos c12] at H
           have c12b0 : (((rd_T34 l0 x4_1).f4) == (-1)) = true := beq_iff_eq.mpr c12
           have c12b1 : (((rd_T34 l0 x4_1).f4) != (-1)) = false := bne_eq_false_iff_eq.mpr c12
           clear c12
           have H' := Am H
           clear H
           have p512 : 0 ≤ (x4_1 : Int) := of_decide_eq_true (by first | (with_reducible assumption) | assumption)
           have q512 : x4_1 < (l0.length : Int) := of_decide_eq_true (by first | (with_reducible assumption) | assumption)
           obtain ⟨ad512, e512, hx512_0, hx512_1, hx512_2, hx512_3, hx512_4, hx512_5⟩ := at_T34 HR0.out x4_1 p512 q512
           cases e512
           replace hx512_0 := (HB.out.cell (blt w _ hx512_0)).trans hx512_0
           replace hx512_1 := (HB.out.cell (blt w _ hx512_1)).trans hx512_1
           replace hx512_2 := (HB.out.cell (blt w _ hx512_2)).trans hx512_2
           replace hx512_3 := (HB.out.cell (blt w _ hx512_3)).trans hx512_3
           replace hx512_4 := (HB.out.cell (blt w _ hx512_4)).trans hx512_4
           replace hx512_5 := (HB.out.cell (blt w _ hx512_5)).trans hx512_5
           replace p512 := eq_true p512
           replace q512 := eq_true q512
           go_wp2_with (first | ((with_reducible refine gate_callee (f := 75) rfl ?_); refine goesL_ (some 30) rfl rfl Try.func75 (by kernel_rfl) rfl #[.agg #[.int .i64 ((rd_T34 l0 x4_1).f0), .int .i64 ((rd_T34 l0 x4_1).f1), .int .i64 ((rd_T34 l0 x4_1).f2), .int .i64 ((rd_T34 l0 x4_1).f3), .int .i64 ((rd_T34 l0 x4_1).f4), .int .i64 ((rd_T34 l0 x4_1).f5)], .int .i64 (l0.length : Int)] rfl (by (try simp only [List.map_toArray, List.map_cons, List.map_nil]); first | done | rfl | (simp only [List.length_drop, List.length_take]; rfl)) ?_; (with_reducible refine (larchref16_node.calls k1 ((rd_T34 l0 x4_1).f0) ((rd_T34 l0 x4_1).f1) ((rd_T34 l0 x4_1).f2) ((rd_T34 l0 x4_1).f3) ((rd_T34 l0 x4_1).f4) ((rd_T34 l0 x4_1).f5) (l0.length : Int) true _ A10.out).mono ?_); rintro e w13 ⟨rfl, hb⟩; refine ⟨_, rfl, ?_⟩; have n0_ := Am (Kd.R_below (by (with_reducible repeat (first | apply Kd.R_alloc | apply Kd.R_drewN | apply Kd.R_drew)); exact HO_3.out) hb); have n1_ := Am (below_step (by repeat (first | (with_reducible first | exact HB.out | apply ba | apply bn | apply bd) | exact HB.out)) hb); clear HO_3; clear HB; have HO_3 := n0_; have HB := n1_; clear n0_ n1_; (try clear hb); (try clear hb2); (try clear hk); (try clear hi); have p514 : 0 ≤ (x4_1 : Int) := of_decide_eq_true (by first | (with_reducible assumption) | assumption); have q514 : x4_1 < (l0.length : Int) := of_decide_eq_true (by first | (with_reducible assumption) | assumption); obtain ⟨ad514, e514, hx514_0, hx514_1, hx514_2, hx514_3, hx514_4, hx514_5⟩ := at_T34 HR0.out x4_1 p514 q514; obtain rfl : ad512 = ad514 := (by injection e514); replace hx514_0 := (HB.out.cell (blt w _ hx514_0)).trans hx514_0; replace hx514_1 := (HB.out.cell (blt w _ hx514_1)).trans hx514_1; replace hx514_2 := (HB.out.cell (blt w _ hx514_2)).trans hx514_2; replace hx514_3 := (HB.out.cell (blt w _ hx514_3)).trans hx514_3; replace hx514_4 := (HB.out.cell (blt w _ hx514_4)).trans hx514_4; replace hx514_5 := (HB.out.cell (blt w _ hx514_5)).trans hx514_5; replace p514 := eq_true p514; replace q514 := eq_true q514))
           go_roundg k1
           case measure => have := HK1.out; omega
           case rel => exact ⟨(x3_1), (wrap64 (x4_1 + 1)), (by first | rfl | (simp; done) | (simp [*]; done)), H', ⟨by have := HK1.out; omega⟩, ⟨by (with_reducible repeat (first | apply Kd.R_alloc | apply Kd.R_drewN | apply Kd.R_drew)); exact HO_3.out⟩, ⟨by repeat (first | (with_reducible first | exact HB.out | apply ba | apply bn | apply bd) | exact HB.out)⟩⟩
          ·rw [if_neg c12] at H
           have c12b0 : (((rd_T34 l0 x4_1).f4) == (-1)) = false := beq_eq_false_iff_ne.mpr c12
           have c12b1 : (((rd_T34 l0 x4_1).f4) != (-1)) = true := bne_iff_ne.mpr c12
           by_cases c14 : 0 ≤ ((rd_T34 l0 x4_1).f4)
           ·rw [if_pos c14] at H
            have c14b0 : decide (0 ≤ ((rd_T34 l0 x4_1).f4)) = true := decide_eq_true c14
            clear c14
            by_cases c15 : ((rd_T34 l0 x4_1).f4) < (x3_1.length : Int)
            ·rw [if_pos c15] at H
             have c15b0 : decide (((rd_T34 l0 x4_1).f4) < (x3_1.length : Int)) = true := decide_eq_true c15
             clear c15
             obtain ⟨y517, hy517⟩ : ∃ y_ : List Int, y_ = (x3_1.set (((rd_T34 l0 x4_1).f4) : Int).toNat (wrap64 ((rd x3_1 ((rd_T34 l0 x4_1).f4)) + 1))) := ⟨_, rfl⟩
             replace H : (if 0 ≤ ((rd_T34 l0 x4_1).f5) then (if ((rd_T34 l0 x4_1).f5) < (x3_1.length : Int) then (larchref16_Check.l0 k1 l0 (y517.set (((rd_T34 l0 x4_1).f5) : Int).toNat (wrap64 ((rd y517 ((rd_T34 l0 x4_1).f5)) + 1))) (wrap64 (x4_1 + 1))) else (none)) else (none)) = some r := by first | (rw [hy517]; with_reducible exact H) | (have H2_ := (Option.bind_some _ _).symm.trans H; rw [hy517]; with_reducible exact H2_) | (have H2_ := (Option.bind_some _ _).symm.trans H; with_reducible exact H2_) | with_reducible exact H | (rw [hy517]; exact H) | exact H
             have Ny517 := Am hy517
             clear hy517
             by_cases c17 : 0 ≤ ((rd_T34 l0 x4_1).f5)
             ·rw [if_pos c17] at H
              have c17b0 : decide (0 ≤ ((rd_T34 l0 x4_1).f5)) = true := decide_eq_true c17
              clear c17
              by_cases c18 : ((rd_T34 l0 x4_1).f5) < (x3_1.length : Int)
              ·rw [if_pos c18] at H
               have c18b0 : decide (((rd_T34 l0 x4_1).f5) < (x3_1.length : Int)) = true := decide_eq_true c18
               clear c18
               obtain ⟨y520, hy520⟩ : ∃ y_ : List Int, y_ = (y517.set (((rd_T34 l0 x4_1).f5) : Int).toNat (wrap64 ((rd y517 ((rd_T34 l0 x4_1).f5)) + 1))) := ⟨_, rfl⟩
               replace H : (larchref16_Check.l0 k1 l0 y520 (wrap64 (x4_1 + 1))) = some r := by first | (rw [hy520]; with_reducible exact H) | (have H2_ := (Option.bind_some _ _).symm.trans H; rw [hy520]; with_reducible exact H2_) | (have H2_ := (Option.bind_some _ _).symm.trans H; with_reducible exact H2_) | with_reducible exact H | (rw [hy520]; exact H) | exact H
               have Ny520 := Am hy520
               clear hy520
               have H' := Am H
               clear H
               have p512 : 0 ≤ (x4_1 : Int) := of_decide_eq_true (by first | (with_reducible assumption) | assumption)
               have q512 : x4_1 < (l0.length : Int) := of_decide_eq_true (by first | (with_reducible assumption) | assumption)
               obtain ⟨ad512, e512, hx512_0, hx512_1, hx512_2, hx512_3, hx512_4, hx512_5⟩ := at_T34 HR0.out x4_1 p512 q512
               cases e512
               replace hx512_0 := (HB.out.cell (blt w _ hx512_0)).trans hx512_0
               replace hx512_1 := (HB.out.cell (blt w _ hx512_1)).trans hx512_1
               replace hx512_2 := (HB.out.cell (blt w _ hx512_2)).trans hx512_2
               replace hx512_3 := (HB.out.cell (blt w _ hx512_3)).trans hx512_3
               replace hx512_4 := (HB.out.cell (blt w _ hx512_4)).trans hx512_4
               replace hx512_5 := (HB.out.cell (blt w _ hx512_5)).trans hx512_5
               replace p512 := eq_true p512
               replace q512 := eq_true q512
               go_wp2_with (first | ((with_reducible refine gate_callee (f := 75) rfl ?_); refine goesL_ (some 30) rfl rfl Try.func75 (by kernel_rfl) rfl #[.agg #[.int .i64 ((rd_T34 l0 x4_1).f0), .int .i64 ((rd_T34 l0 x4_1).f1), .int .i64 ((rd_T34 l0 x4_1).f2), .int .i64 ((rd_T34 l0 x4_1).f3), .int .i64 ((rd_T34 l0 x4_1).f4), .int .i64 ((rd_T34 l0 x4_1).f5)], .int .i64 (l0.length : Int)] rfl (by (try simp only [List.map_toArray, List.map_cons, List.map_nil]); first | done | rfl | (simp only [List.length_drop, List.length_take]; rfl)) ?_; (with_reducible refine (larchref16_node.calls k1 ((rd_T34 l0 x4_1).f0) ((rd_T34 l0 x4_1).f1) ((rd_T34 l0 x4_1).f2) ((rd_T34 l0 x4_1).f3) ((rd_T34 l0 x4_1).f4) ((rd_T34 l0 x4_1).f5) (l0.length : Int) true _ A10.out).mono ?_); rintro e w20 ⟨rfl, hb⟩; refine ⟨_, rfl, ?_⟩; have n0_ := Am (Kd.R_below (by (with_reducible repeat (first | apply Kd.R_alloc | apply Kd.R_drewN | apply Kd.R_drew)); exact HO_3.out) hb); have n1_ := Am (below_step (by repeat (first | (with_reducible first | exact HB.out | apply ba | apply bn | apply bd) | exact HB.out)) hb); clear HO_3; clear HB; have HO_3 := n0_; have HB := n1_; clear n0_ n1_; (try clear hb); (try clear hb2); (try clear hk); (try clear hi); have p514 : 0 ≤ (x4_1 : Int) := of_decide_eq_true (by first | (with_reducible assumption) | assumption); have q514 : x4_1 < (l0.length : Int) := of_decide_eq_true (by first | (with_reducible assumption) | assumption); obtain ⟨ad514, e514, hx514_0, hx514_1, hx514_2, hx514_3, hx514_4, hx514_5⟩ := at_T34 HR0.out x4_1 p514 q514; obtain rfl : ad512 = ad514 := (by injection e514); replace hx514_0 := (HB.out.cell (blt w _ hx514_0)).trans hx514_0; replace hx514_1 := (HB.out.cell (blt w _ hx514_1)).trans hx514_1; replace hx514_2 := (HB.out.cell (blt w _ hx514_2)).trans hx514_2; replace hx514_3 := (HB.out.cell (blt w _ hx514_3)).trans hx514_3; replace hx514_4 := (HB.out.cell (blt w _ hx514_4)).trans hx514_4; replace hx514_5 := (HB.out.cell (blt w _ hx514_5)).trans hx514_5; replace p514 := eq_true p514; replace q514 := eq_true q514; have p515 : 0 ≤ (x4_1 : Int) := of_decide_eq_true (by first | (with_reducible assumption) | assumption); have q515 : x4_1 < (l0.length : Int) := of_decide_eq_true (by first | (with_reducible assumption) | assumption); obtain ⟨ad515, e515, hx515_0, hx515_1, hx515_2, hx515_3, hx515_4, hx515_5⟩ := at_T34 HR0.out x4_1 p515 q515; obtain rfl : ad512 = ad515 := (by injection e515); replace hx515_0 := (HB.out.cell (blt w _ hx515_0)).trans hx515_0; replace hx515_1 := (HB.out.cell (blt w _ hx515_1)).trans hx515_1; replace hx515_2 := (HB.out.cell (blt w _ hx515_2)).trans hx515_2; replace hx515_3 := (HB.out.cell (blt w _ hx515_3)).trans hx515_3; replace hx515_4 := (HB.out.cell (blt w _ hx515_4)).trans hx515_4; replace hx515_5 := (HB.out.cell (blt w _ hx515_5)).trans hx515_5; replace p515 := eq_true p515; replace q515 := eq_true q515; obtain ⟨Ao21, co21, eo21⟩ := Kd.R_slice HO_3.out; subst eo21; have p516 : 0 ≤ (((rd_T34 l0 x4_1).f4) : Int) := of_decide_eq_true (by first | (with_reducible assumption) | assumption); have q516 : ((rd_T34 l0 x4_1).f4) < (x3_1.length : Int) := of_decide_eq_true (by first | (with_reducible assumption) | assumption); obtain ⟨ad516, e516, hx516_0⟩ := Kd.at_int (Kd.R_reads' HO_3.out).2.2 ((rd_T34 l0 x4_1).f4) p516 q516; cases e516; replace p516 := eq_true p516; replace q516 := eq_true q516; have p16 : 0 ≤ (((rd_T34 l0 x4_1).f4) : Int) := of_decide_eq_true (by first | (with_reducible assumption) | assumption); have q16 : (((rd_T34 l0 x4_1).f4) : Int) < ((x3_1.length : Int) : Int) := of_decide_eq_true (by first | (with_reducible assumption) | assumption); obtain ⟨go16, co16, eo16, gb16, gl16, cl16, HG16⟩ := Kd.R_form HO_3.out (by omega); (first | cases eo16 | (injection eo16 with ea_ en_ ec_; (first | subst ea_ | (injection ea_ with ea_; subst ea_)); subst ec_; clear en_)); have GB16 := Am gb16; have GG16 := Am HG16; clear gb16 gl16 HG16; (first | simp only [add_plain] at hx516_0 | skip); obtain ⟨hx16_0, hf16_0⟩ := Kd.R_celln 0 HO_3.out (((rd_T34 l0 x4_1).f4) : Int) p16 q16; replace p16 := eq_true p16; replace q16 := eq_true q16; obtain ⟨hy22_, hz22_⟩ := Kd.R_celln 0 HO_3.out (((rd_T34 l0 x4_1).f4) : Int) (of_decide_eq_true (by first | (with_reducible assumption) | assumption)) (of_decide_eq_true (by first | (with_reducible assumption) | assumption)); have HP22 := Kd.R_putg HO_3.out (((rd_T34 l0 x4_1).f4) : Int) (wrap64 ((rd x3_1 ((rd_T34 l0 x4_1).f4)) + 1))) | ((with_reducible refine gate_store (t := 3) (p := 47) rfl ?_); refine store_event (t := 3) (p := 47) (v := ?vo_w23) (w1 := (w20.setCell ⟨go16, (((rd_T34 l0 x4_1).f4) : Int).toNat, none⟩ (.int .i64 (wrap64 ((rd x3_1 ((rd_T34 l0 x4_1).f4)) + 1))))) ?hg ?ho ?hn ?hr ?_; (case ho => rfl); (case hg => rfl); (case hn => rfl); (case hr => first | (go_simp; done) | (go_simp; rfl)); intro w23 hw; have hg : w20.grownBy w23 (some go16) := (by rw [hw]; exact HP22.2); have hp_ : Kd.R (Kd.int .i64) 3 w23 w.heap.size (fun _ => True) (.slice (some ⟨go16, 0, none⟩) x3_1.length co21) y517 := (by rw [hw, Ny517.out]; exact HP22.1); clear HP22; have n0_ := Am (hp_); have n1_ := Am ((by rw [hw]; exact below_set (HB.out) GB16.out : Below w.heap.size w w23)); clear HO_3; clear HB; have HO_3 := n0_; have HB := n1_; clear n0_ n1_; clear hg hw hp_; have p518 : 0 ≤ (x4_1 : Int) := of_decide_eq_true (by first | (with_reducible assumption) | assumption); have q518 : x4_1 < (l0.length : Int) := of_decide_eq_true (by first | (with_reducible assumption) | assumption); obtain ⟨ad518, e518, hx518_0, hx518_1, hx518_2, hx518_3, hx518_4, hx518_5⟩ := at_T34 HR0.out x4_1 p518 q518; obtain rfl : ad512 = ad518 := (by injection e518); replace hx518_0 := (HB.out.cell (blt w _ hx518_0)).trans hx518_0; replace hx518_1 := (HB.out.cell (blt w _ hx518_1)).trans hx518_1; replace hx518_2 := (HB.out.cell (blt w _ hx518_2)).trans hx518_2; replace hx518_3 := (HB.out.cell (blt w _ hx518_3)).trans hx518_3; replace hx518_4 := (HB.out.cell (blt w _ hx518_4)).trans hx518_4; replace hx518_5 := (HB.out.cell (blt w _ hx518_5)).trans hx518_5; replace p518 := eq_true p518; replace q518 := eq_true q518; have p519 : 0 ≤ (((rd_T34 l0 x4_1).f5) : Int) := of_decide_eq_true (by first | (with_reducible assumption) | assumption); have q519 : ((rd_T34 l0 x4_1).f5) < (y517.length : Int) := (by have h_ : (((rd_T34 l0 x4_1).f5) : Int) < ((x3_1.length : Int) : Int) := of_decide_eq_true (by first | (with_reducible assumption) | assumption); first | (have e_ := (Kd.R_reads' HO_3.out).1; omega) | simpa only [Ny517.out, List.length_set] using h_); have ql519 : ((((rd_T34 l0 x4_1).f5) : Int) < ((x3_1.length : Int) : Int)) = True := eq_true (of_decide_eq_true (by first | (with_reducible assumption) | assumption)); obtain ⟨ad519, e519, hx519_0⟩ := Kd.at_int (Kd.R_reads' HO_3.out).2.2 ((rd_T34 l0 x4_1).f5) p519 q519; obtain rfl : (⟨go16, 0, none⟩ : Addr) = ad519 := (by injection e519); (first | simp only [add_plain] at hx519_0 | simp only [add_at] at hx519_0 | simp only [Addr.add, Nat.zero_add] at hx519_0 | skip); replace p519 := eq_true p519; replace q519 := eq_true q519; have p19 : 0 ≤ (((rd_T34 l0 x4_1).f5) : Int) := of_decide_eq_true (by first | (with_reducible assumption) | assumption); have q19 : (((rd_T34 l0 x4_1).f5) : Int) < ((x3_1.length : Int) : Int) := of_decide_eq_true (by first | (with_reducible assumption) | assumption); obtain ⟨hx19_0, hf19_0⟩ := Kd.R_celln 0 HO_3.out (((rd_T34 l0 x4_1).f5) : Int) p19 q19; replace p19 := eq_true p19; replace q19 := eq_true q19; obtain ⟨hy24_, hz24_⟩ := Kd.R_celln 0 HO_3.out (((rd_T34 l0 x4_1).f5) : Int) (of_decide_eq_true (by first | (with_reducible assumption) | assumption)) (of_decide_eq_true (by first | (with_reducible assumption) | assumption)); have HP24 := Kd.R_putg HO_3.out (((rd_T34 l0 x4_1).f5) : Int) (wrap64 ((rd y517 ((rd_T34 l0 x4_1).f5)) + 1))) | ((with_reducible refine gate_store (t := 3) (p := 57) rfl ?_); refine store_event (t := 3) (p := 57) (v := ?vo_w25) (w1 := (w23.setCell ⟨go16, (((rd_T34 l0 x4_1).f5) : Int).toNat, none⟩ (.int .i64 (wrap64 ((rd y517 ((rd_T34 l0 x4_1).f5)) + 1))))) ?hg ?ho ?hn ?hr ?_; (case ho => rfl); (case hg => rfl); (case hn => rfl); (case hr => first | (go_simp; done) | (go_simp; rfl)); intro w25 hw; have hg : w23.grownBy w25 (some go16) := (by rw [hw]; exact HP24.2); have hp_ : Kd.R (Kd.int .i64) 3 w25 w.heap.size (fun _ => True) (.slice (some ⟨go16, 0, none⟩) x3_1.length co21) y520 := (by rw [hw, Ny520.out]; exact HP24.1); clear HP24; have n0_ := Am (hp_); have n1_ := Am ((by rw [hw]; exact below_set (HB.out) GB16.out : Below w.heap.size w w25)); clear HO_3; clear HB; have HO_3 := n0_; have HB := n1_; clear n0_ n1_; clear hg hw hp_))
               go_roundg k1
               case measure => have := HK1.out; omega
               case rel => exact ⟨(y520), (wrap64 (x4_1 + 1)), (by first | rfl | (simp; done) | (simp [*]; done)), H', ⟨by have := HK1.out; omega⟩, ⟨by (with_reducible repeat (first | apply Kd.R_alloc | apply Kd.R_drewN | apply Kd.R_drew)); exact HO_3.out⟩, ⟨by repeat (first | (with_reducible first | exact HB.out | apply ba | apply bn | apply bd) | exact HB.out)⟩⟩
              ·rw [if_neg c18] at H
               exact absurd H (by simp)
             ·rw [if_neg c17] at H
              exact absurd H (by simp)
            ·rw [if_neg c15] at H
             exact absurd H (by simp)
           ·rw [if_neg c14] at H
            exact absurd H (by simp)
         ·replace c11 := Bool.eq_false_iff.mpr c11
          subst c11
          have H1 : (some 3) = some r := by rw [if_neg (show ¬ (false = true) by decide)] at H; exact H
          clear H
          have H := H1
          clear H1
          obtain rfl := Option.some.inj H
          have p512 : 0 ≤ (x4_1 : Int) := of_decide_eq_true (by first | (with_reducible assumption) | assumption)
          have q512 : x4_1 < (l0.length : Int) := of_decide_eq_true (by first | (with_reducible assumption) | assumption)
          obtain ⟨ad512, e512, hx512_0, hx512_1, hx512_2, hx512_3, hx512_4, hx512_5⟩ := at_T34 HR0.out x4_1 p512 q512
          cases e512
          replace hx512_0 := (HB.out.cell (blt w _ hx512_0)).trans hx512_0
          replace hx512_1 := (HB.out.cell (blt w _ hx512_1)).trans hx512_1
          replace hx512_2 := (HB.out.cell (blt w _ hx512_2)).trans hx512_2
          replace hx512_3 := (HB.out.cell (blt w _ hx512_3)).trans hx512_3
          replace hx512_4 := (HB.out.cell (blt w _ hx512_4)).trans hx512_4
          replace hx512_5 := (HB.out.cell (blt w _ hx512_5)).trans hx512_5
          replace p512 := eq_true p512
          replace q512 := eq_true q512
          go_wp2_with (first | ((with_reducible refine gate_callee (f := 75) rfl ?_); refine goesL_ (some 30) rfl rfl Try.func75 (by kernel_rfl) rfl #[.agg #[.int .i64 ((rd_T34 l0 x4_1).f0), .int .i64 ((rd_T34 l0 x4_1).f1), .int .i64 ((rd_T34 l0 x4_1).f2), .int .i64 ((rd_T34 l0 x4_1).f3), .int .i64 ((rd_T34 l0 x4_1).f4), .int .i64 ((rd_T34 l0 x4_1).f5)], .int .i64 (l0.length : Int)] rfl (by (try simp only [List.map_toArray, List.map_cons, List.map_nil]); first | done | rfl | (simp only [List.length_drop, List.length_take]; rfl)) ?_; (with_reducible refine (larchref16_node.calls k1 ((rd_T34 l0 x4_1).f0) ((rd_T34 l0 x4_1).f1) ((rd_T34 l0 x4_1).f2) ((rd_T34 l0 x4_1).f3) ((rd_T34 l0 x4_1).f4) ((rd_T34 l0 x4_1).f5) (l0.length : Int) false _ A10.out).mono ?_); rintro e w26 ⟨rfl, hb⟩; refine ⟨_, rfl, ?_⟩; have n0_ := Am (Kd.R_below (by (with_reducible repeat (first | apply Kd.R_alloc | apply Kd.R_drewN | apply Kd.R_drew)); exact HO_3.out) hb); have n1_ := Am (below_step (by repeat (first | (with_reducible first | exact HB.out | apply ba | apply bn | apply bd) | exact HB.out)) hb); clear HO_3; clear HB; have HO_3 := n0_; have HB := n1_; clear n0_ n1_; (try clear hb); (try clear hb2); (try clear hk); (try clear hi)))
          go_ret
          exact ⟨by first | rfl | (simp [errW_none, errW_some] <;> rfl) | (simp [*, errW_none, errW_some] <;> rfl), by repeat (first | (with_reducible first | exact HB.out | apply ba | apply bn | apply bd) | exact HB.out)⟩
        ·rw [if_neg c9] at H
         exact absurd H (by simp)
       ·rw [if_neg c8] at H
        have c8b0 : decide (x4_1 < (l0.length : Int)) = false := decide_eq_false c8
        clear c8
        have H' := Am H
        clear H
        go_wp2
        go_loopg [5] k1 (fun kq v5 w' => ∃ (x5_2 : Int), v5 = .int .i64 x5_2 ∧ Aside0 (larchref16_Check.l1 kq l0 x3_1 x5_2 = some r) ∧ Aside0 (kq ≤ k1) ∧ Aside0 (Kd.R (Kd.int .i64) 3 w' w.heap.size (fun _ => True) v510 x3_1) ∧ Aside0 (Below w.heap.size w w'))
        case atStart => exact ⟨(1), (by first | rfl | (simp; done) | (simp [*]; done)), H', ⟨Nat.le_refl _⟩, ⟨by (with_reducible repeat (first | apply Kd.R_alloc | apply Kd.R_drewN | apply Kd.R_drew)); exact HO_3.out⟩, ⟨by repeat (first | (with_reducible first | exact HB.out | apply ba | apply bn | apply bd) | exact HB.out)⟩⟩
        case round =>
         clear H'
         try clear c1
         try clear p1
         try clear q1
         try clear hx1
         try clear hf1
         try clear c2
         try clear c2b0
         try clear c2b1
         try clear p2
         try clear c3
         try clear c3b0
         try clear c3b1
         try clear c3b2
         try clear c4
         try clear c4b0
         try clear c4b1
         try clear c5
         try clear c5b0
         try clear c5b1
         try clear p5
         try clear q5
         try clear hx5
         try clear p6
         try clear c7
         try clear c8
         try clear c8b0
         try clear c9
         try clear c9b0
         try clear c11
         try clear c12
         try clear c12b0
         try clear c12b1
         try clear c14
         try clear c14b0
         try clear c15
         try clear c15b0
         try clear p16
         try clear q16
         try clear hx16
         try clear hf16
         try clear c17
         try clear c17b0
         try clear c18
         try clear c18b0
         try clear p19
         try clear q19
         try clear hx19
         try clear hf19
         try clear hx16_0
         try clear hx19_0
         try clear hx512_0
         try clear hx512_1
         try clear hx512_2
         try clear hx512_3
         try clear hx512_4
         try clear hx512_5
         try clear hx514_0
         try clear hx514_1
         try clear hx514_2
         try clear hx514_3
         try clear hx514_4
         try clear hx514_5
         try clear hx515_0
         try clear hx515_1
         try clear hx515_2
         try clear hx515_3
         try clear hx515_4
         try clear hx515_5
         try clear hx516_0
         try clear hx518_0
         try clear hx518_1
         try clear hx518_2
         try clear hx518_3
         try clear hx518_4
         try clear hx518_5
         try clear hx519_0
         try clear p16
         try clear p19
         try clear p2
         try clear p512
         try clear p514
         try clear p515
         try clear p516
         try clear p518
         try clear p519
         try clear q16
         try clear q19
         try clear q512
         try clear q514
         try clear q515
         try clear q516
         try clear q518
         try clear q519
         obtain ⟨x5_2, rfl, HA, HK2, HO_3, HB⟩ := hrel
         cases gk with
         | zero => exact absurd HA.out (by simp [larchref16_Check.l1])
         | succ k2 =>
          have H := HA.out
          clear HA
          simp only [larchref16_Check.l1] at H
          by_cases c27 : x5_2 < (l0.length : Int)
          ·rw [if_pos c27] at H
           have c27b0 : decide (x5_2 < (l0.length : Int)) = true := decide_eq_true c27
           clear c27
           by_cases c28 : 0 ≤ x5_2
           ·rw [if_pos c28] at H
            have c28b0 : decide (0 ≤ x5_2) = true := decide_eq_true c28
            clear c28
            by_cases c29 : x5_2 < (x3_1.length : Int)
            ·rw [if_pos c29] at H
             have c29b0 : decide (x5_2 < (x3_1.length : Int)) = true := decide_eq_true c29
             clear c29
             by_cases c30 : (rd x3_1 x5_2) = 1
             ·rw [if_pos c30] at H
              have c30b0 : ((rd x3_1 x5_2) == 1) = true := beq_iff_eq.mpr c30
              have c30b1 : ((rd x3_1 x5_2) != 1) = false := bne_eq_false_iff_eq.mpr c30
              clear c30
              have H' := Am H
              clear H
              obtain ⟨Ao31, co31, eo31⟩ := Kd.R_slice HO_3.out
              subst eo31
              have p521 : 0 ≤ (x5_2 : Int) := of_decide_eq_true (by first | (with_reducible assumption) | assumption)
              have q521 : x5_2 < (x3_1.length : Int) := of_decide_eq_true (by first | (with_reducible assumption) | assumption)
              obtain ⟨ad521, e521, hx521_0⟩ := Kd.at_int (Kd.R_reads' HO_3.out).2.2 x5_2 p521 q521
              cases e521
              replace p521 := eq_true p521
              replace q521 := eq_true q521
              go_wp2
              go_roundg k2
              case measure => have := HK1.out; have := HK2.out; omega
              case rel => exact ⟨(wrap64 (x5_2 + 1)), (by first | rfl | (simp; done) | (simp [*]; done)), H', ⟨by have := HK1.out; have := HK2.out; omega⟩, ⟨by (with_reducible repeat (first | apply Kd.R_alloc | apply Kd.R_drewN | apply Kd.R_drew)); exact HO_3.out⟩, ⟨by repeat (first | (with_reducible first | exact HB.out | apply ba | apply bn | apply bd) | exact HB.out)⟩⟩
             ·rw [if_neg c30] at H
              have c30b0 : ((rd x3_1 x5_2) == 1) = false := beq_eq_false_iff_ne.mpr c30
              have c30b1 : ((rd x3_1 x5_2) != 1) = true := bne_iff_ne.mpr c30
              obtain rfl := Option.some.inj H
              obtain ⟨Ao32, co32, eo32⟩ := Kd.R_slice HO_3.out
              subst eo32
              have p521 : 0 ≤ (x5_2 : Int) := of_decide_eq_true (by first | (with_reducible assumption) | assumption)
              have q521 : x5_2 < (x3_1.length : Int) := of_decide_eq_true (by first | (with_reducible assumption) | assumption)
              obtain ⟨ad521, e521, hx521_0⟩ := Kd.at_int (Kd.R_reads' HO_3.out).2.2 x5_2 p521 q521
              cases e521
              replace p521 := eq_true p521
              replace q521 := eq_true q521
              go_wp2
              go_ret
              exact ⟨by first | rfl | (simp [errW_none, errW_some] <;> rfl) | (simp [*, errW_none, errW_some] <;> rfl), by repeat (first | (with_reducible first | exact HB.out | apply ba | apply bn | apply bd) | exact HB.out)⟩
            ·rw [if_neg c29] at H
             exact absurd H (by simp)
           ·rw [if_neg c28] at H
            exact absurd H (by simp)
          ·rw [if_neg c27] at H
           have c27b0 : decide (x5_2 < (l0.length : Int)) = false := decide_eq_false c27
           clear c27
           obtain ⟨y522, hy522⟩ : ∃ y_ : List Int, y_ = (([0] : List Int)) := ⟨_, rfl⟩
           replace H : (larchref16_Check.l2 k2 l0 0 y522) = some r := by first | (rw [hy522]; with_reducible exact H) | (have H2_ := (Option.bind_some _ _).symm.trans H; rw [hy522]; with_reducible exact H2_) | (have H2_ := (Option.bind_some _ _).symm.trans H; with_reducible exact H2_) | with_reducible exact H | (rw [hy522]; exact H) | exact H
           have Ny522 := Am hy522
           clear hy522
           have H' := Am H
           clear H
           go_wp2_with (first | ((with_reducible refine gate_dst (N := 69) rfl ?_); refine Kd.R_lit (Kd.int .i64) _ 3 ?hg (N := 69) ?hd (xs := ([0] : List Int)) (inner := [.int .i64 0]) (ok := fun _ => True) (okp := fun _ => True) ?hr ?hp (fun _ hk => hk) trivial (Below.refl _ _) (Nat.le_refl _) (by simp) ?_; (case hd => rfl); (case hg => rfl); (case hr => first | (go_simp; done) | (go_simp; rfl)); (case hp => exact (Reps.one (show Kd.M (Kd.int .i64) _ _ _ 0 [.int .i64 0] from rfl) (Reps.none _ _))); intro v523 w33 ho34 hb hg_ hnew_; clear hg_ hnew_; (first | rw [← Ny522.out] at ho34 | (simp only [Int.reduceToNat] at ho34; rw [← Ny522.out] at ho34)); have n0_ := Am (Kd.R_elder' (by (with_reducible repeat (first | apply Kd.R_alloc | apply Kd.R_drewN | apply Kd.R_drew)); exact HO_3.out) (Kd.R_base ho34) hb); have n1_ := Am (Kd.R_lower (Kd.R_new' ho34 (Kd.R_lt (by (with_reducible repeat (first | apply Kd.R_alloc | apply Kd.R_drewN | apply Kd.R_drew)); exact HO_3.out))) (below_size (by repeat (first | (with_reducible first | exact HB.out | apply ba | apply bn | apply bd) | exact HB.out)))); have n2_ := Am (below_step (by repeat (first | (with_reducible first | exact HB.out | apply ba | apply bn | apply bd) | exact HB.out)) hb); clear HO_3; clear HB; have HO_3 := n0_; have HO524 := n1_; have HB := n2_; clear n0_ n1_ n2_; clear hb ho34))
           go_loopg [6, 7] k2 (fun kq v6 v7 w' => ∃ (x6_3 : Int) (x7_3 : List Int), v6 = .int .i64 x6_3 ∧ Aside0 (larchref16_Check.l2 kq l0 x6_3 x7_3 = some r) ∧ Aside0 (kq ≤ k2) ∧ Aside0 (Kd.R (Kd.int .i64) 3 w' w.heap.size (fun _ => True) v7 x7_3) ∧ Aside0 (Below w.heap.size w w'))
           case atStart => exact ⟨(0), (y522), (by first | rfl | (simp; done) | (simp [*]; done)), H', ⟨Nat.le_refl _⟩, ⟨by (with_reducible repeat (first | apply Kd.R_alloc | apply Kd.R_drewN | apply Kd.R_drew)); exact Kd.R_mono HO524.out (fun _ hk => trivial)⟩, ⟨by repeat (first | (with_reducible first | exact HB.out | apply ba | apply bn | apply bd) | exact HB.out)⟩⟩
           case round =>
            clear H'
            try clear c1
            try clear p1
            try clear q1
            try clear hx1
            try clear hf1
            try clear c2
            try clear c2b0
            try clear c2b1
            try clear p2
            try clear c3
            try clear c3b0
            try clear c3b1
            try clear c3b2
            try clear c4
            try clear c4b0
            try clear c4b1
            try clear c5
            try clear c5b0
            try clear c5b1
            try clear p5
            try clear q5
            try clear hx5
            try clear p6
            try clear c7
            try clear c8
            try clear c8b0
            try clear c9
            try clear c9b0
            try clear c11
            try clear c12
            try clear c12b0
            try clear c12b1
            try clear c14
            try clear c14b0
            try clear c15
            try clear c15b0
            try clear p16
            try clear q16
            try clear hx16
            try clear hf16
            try clear c17
            try clear c17b0
            try clear c18
            try clear c18b0
            try clear p19
            try clear q19
            try clear hx19
            try clear hf19
            try clear c27
            try clear c27b0
            try clear c28
            try clear c28b0
            try clear c29
            try clear c29b0
            try clear c30
            try clear c30b0
            try clear c30b1
            try clear hx16_0
            try clear hx19_0
            try clear hx512_0
            try clear hx512_1
            try clear hx512_2
            try clear hx512_3
            try clear hx512_4
            try clear hx512_5
            try clear hx514_0
            try clear hx514_1
            try clear hx514_2
            try clear hx514_3
            try clear hx514_4
            try clear hx514_5
            try clear hx515_0
            try clear hx515_1
            try clear hx515_2
            try clear hx515_3
            try clear hx515_4
            try clear hx515_5
            try clear hx516_0
            try clear hx518_0
            try clear hx518_1
            try clear hx518_2
            try clear hx518_3
            try clear hx518_4
            try clear hx518_5
            try clear hx519_0
            try clear hx521_0
            try clear p1
            try clear p16
            try clear p19
            try clear p2
            try clear p5
            try clear p512
            try clear p514
            try clear p515
            try clear p516
            try clear p518
            try clear p519
            try clear p521
            try clear p6
            try clear q1
            try clear q16
            try clear q19
            try clear q5
            try clear q512
            try clear q514
            try clear q515
            try clear q516
            try clear q518
            try clear q519
            try clear q521
            obtain ⟨x6_3, x7_3, rfl, HA, HK3, HO_7, HB⟩ := hrel
            cases gk with
            | zero => exact absurd HA.out (by simp [larchref16_Check.l2])
            | succ k3 =>
             have H := HA.out
             clear HA
             simp only [larchref16_Check.l2] at H
             by_cases c35 : (x7_3.length : Int) > 0
             ·rw [if_pos c35] at H
              have c35b0 : decide (0 < (x7_3.length : Int)) = true := decide_eq_true c35
              have c35b1 : decide (0 < x7_3.length) = true := decide_eq_true (by omega)
              clear c35
              obtain ⟨ji36, hji36⟩ : ∃ j_ : Int, (wrap64 ((x7_3.length : Int) - 1)) = j_ := ⟨_, rfl⟩
              replace H : (if 0 ≤ (ji36) then (if (ji36) < (x7_3.length : Int) then (if 0 ≤ (rd x7_3 (ji36)) then (if (rd x7_3 (ji36)) < (l0.length : Int) then (if (ji36) ≤ (x7_3.length : Int) then ((some (x7_3.take ((ji36) : Int).toNat : List Int)).bind fun y528 => (if ((rd_T34 l0 (rd x7_3 (ji36))).f4) = (-1) then (larchref16_Check.l2 k3 l0 (wrap64 (x6_3 + 1)) y528) else ((some (([(rd_T34 l0 (rd x7_3 (ji36))).f4, (rd_T34 l0 (rd x7_3 (ji36))).f5] : List Int) : List Int)).bind fun y531 => (if y528.length + y531.length < 17592186044416 then (larchref16_Check.l2 k3 l0 (wrap64 (x6_3 + 1)) (y528 ++ y531)) else (none))))) else (none)) else (none)) else (none)) else (none)) else (none)) = some r := by first | (rw [hji36] at H; exact H) | (simp only [hji36] at H ⊢; exact H)
              have hji36w : (IntKind.i64.wrap ((x7_3.length : Int) - 1)) = ji36 := (i64_w _).trans hji36
              by_cases c37 : 0 ≤ (ji36)
              ·rw [if_pos c37] at H
               have c37b0 : decide (0 ≤ (ji36)) = true := decide_eq_true c37
               clear c37
               by_cases c38 : (ji36) < (x7_3.length : Int)
               ·rw [if_pos c38] at H
                have c38b0 : decide ((ji36) < (x7_3.length : Int)) = true := decide_eq_true c38
                clear c38
                by_cases c39 : 0 ≤ (rd x7_3 (ji36))
                ·rw [if_pos c39] at H
                 have c39b0 : decide (0 ≤ (rd x7_3 (ji36))) = true := decide_eq_true c39
                 clear c39
                 by_cases c40 : (rd x7_3 (ji36)) < (l0.length : Int)
                 ·rw [if_pos c40] at H
                  have c40b0 : decide ((rd x7_3 (ji36)) < (l0.length : Int)) = true := decide_eq_true c40
                  clear c40
                  by_cases c41 : (ji36) ≤ (x7_3.length : Int)
                  ·rw [if_pos c41] at H
                   have c41b0 := eq_true c41
                   have c41b1 : decide ((ji36) ≤ (x7_3.length : Int)) = true := decide_eq_true c41
                   clear c41
                   obtain ⟨y528, hy528⟩ : ∃ y_ : List Int, y_ = (x7_3.take ((ji36) : Int).toNat) := ⟨_, rfl⟩
                   replace H : (if ((rd_T34 l0 (rd x7_3 (ji36))).f4) = (-1) then (larchref16_Check.l2 k3 l0 (wrap64 (x6_3 + 1)) y528) else ((some (([(rd_T34 l0 (rd x7_3 (ji36))).f4, (rd_T34 l0 (rd x7_3 (ji36))).f5] : List Int) : List Int)).bind fun y531 => (if y528.length + y531.length < 17592186044416 then (larchref16_Check.l2 k3 l0 (wrap64 (x6_3 + 1)) (y528 ++ y531)) else (none)))) = some r := by first | (rw [hy528]; with_reducible exact H) | (have H2_ := (Option.bind_some _ _).symm.trans H; rw [hy528]; with_reducible exact H2_) | (have H2_ := (Option.bind_some _ _).symm.trans H; with_reducible exact H2_) | with_reducible exact H | (rw [hy528]; exact H) | exact H
                   have Ny528 := Am hy528
                   clear hy528
                   by_cases c42 : ((rd_T34 l0 (rd x7_3 (ji36))).f4) = (-1)
                   ·rw [if_pos c42] at H
                    have c42b0 : (((rd_T34 l0 (rd x7_3 (ji36))).f4) == (-1)) = true := beq_iff_eq.mpr c42
                    have c42b1 : (((rd_T34 l0 (rd x7_3 (ji36))).f4) != (-1)) = false := bne_eq_false_iff_eq.mpr c42
                    clear c42
                    have H' := Am H
                    clear H
                    obtain ⟨Ao43, co43, eo43⟩ := Kd.R_slice HO_7.out
                    subst eo43
                    have p525 : 0 ≤ ((ji36) : Int) := of_decide_eq_true (by first | (with_reducible assumption) | assumption)
                    have q525 : (ji36) < (x7_3.length : Int) := of_decide_eq_true (by first | (with_reducible assumption) | assumption)
                    obtain ⟨ad525, e525, hx525_0⟩ := Kd.at_int (Kd.R_reads' HO_7.out).2.2 (ji36) p525 q525
                    cases e525
                    replace p525 := eq_true p525
                    replace q525 := eq_true q525
                    have p526 : 0 ≤ ((rd x7_3 (ji36)) : Int) := of_decide_eq_true (by first | (with_reducible assumption) | assumption)
                    have q526 : (rd x7_3 (ji36)) < (l0.length : Int) := of_decide_eq_true (by first | (with_reducible assumption) | assumption)
                    obtain ⟨ad526, e526, hx526_0, hx526_1, hx526_2, hx526_3, hx526_4, hx526_5⟩ := at_T34 HR0.out (rd x7_3 (ji36)) p526 q526
                    cases e526
                    replace hx526_0 := (HB.out.cell (blt w _ hx526_0)).trans hx526_0
                    replace hx526_1 := (HB.out.cell (blt w _ hx526_1)).trans hx526_1
                    replace hx526_2 := (HB.out.cell (blt w _ hx526_2)).trans hx526_2
                    replace hx526_3 := (HB.out.cell (blt w _ hx526_3)).trans hx526_3
                    replace hx526_4 := (HB.out.cell (blt w _ hx526_4)).trans hx526_4
                    replace hx526_5 := (HB.out.cell (blt w _ hx526_5)).trans hx526_5
                    replace p526 := eq_true p526
                    replace q526 := eq_true q526
                    go_wp2_with (first | ((with_reducible refine gate_dst (N := 8) rfl ?_); refine box_event ?hg (N := 8) ?hd (cs := #[.int .i64 0, .int .i64 0, .int .i64 0, .int .i64 0, .int .i64 0, .int .i64 0]) (t := 34) ?hr ?_; (case hd => rfl); (case hg => rfl); (case hr => first | (go_simp; done) | (go_simp; rfl)); intro gb527 hg w44 hbox hb; have n0_ := Am (Kd.R_below (by (with_reducible repeat (first | apply Kd.R_alloc | apply Kd.R_drewN | apply Kd.R_drew)); exact HO_7.out) hb); have n1_ := Am (below_step (by repeat (first | (with_reducible first | exact HB.out | apply ba | apply bn | apply bd) | exact HB.out)) hb); have n2_ := Am (hbox); have n3_ := Am ((by rw [hg]; exact (below_size (by repeat (first | (with_reducible first | exact HB.out | apply ba | apply bn | apply bd) | exact HB.out))) : w.heap.size ≤ gb527)); have n4_ := Am ((by rw [hg]; exact (below_size (by repeat (first | (with_reducible first | exact HB.out | apply ba | apply bn | apply bd) | exact HB.out))) : w.heap.size ≤ gb527)); clear HO_7; clear HB; have HO_7 := n0_; have HB := n1_; have BK527 := n2_; have GW527 := n3_; have GE527 := n4_; clear n0_ n1_ n2_ n3_ n4_; clear hb hbox hg; have hcz45_0 : w44.cell? ⟨gb527, 0, none⟩ = some (.int .i64 0) := (blk_cell BK527.out 0).trans rfl; have hcz45_1 : w44.cell? ⟨gb527, 1, none⟩ = some (.int .i64 0) := (blk_cell BK527.out 1).trans rfl; have hcz45_2 : w44.cell? ⟨gb527, 2, none⟩ = some (.int .i64 0) := (blk_cell BK527.out 2).trans rfl; have hcz45_3 : w44.cell? ⟨gb527, 3, none⟩ = some (.int .i64 0) := (blk_cell BK527.out 3).trans rfl; have hcz45_4 : w44.cell? ⟨gb527, 4, none⟩ = some (.int .i64 0) := (blk_cell BK527.out 4).trans rfl; have hcz45_5 : w44.cell? ⟨gb527, 5, none⟩ = some (.int .i64 0) := (blk_cell BK527.out 5).trans rfl; have hfz45_0 := blk_frozen BK527.out 0; have hfz45_1 := blk_frozen BK527.out 1; have hfz45_2 := blk_frozen BK527.out 2; have hfz45_3 := blk_frozen BK527.out 3; have hfz45_4 := blk_frozen BK527.out 4; have hfz45_5 := blk_frozen BK527.out 5) | ((with_reducible refine gate_store (t := 34) (p := 8) rfl ?_); refine store_event (t := 34) (p := 8) (v := ?vo_w46) (w1 := ((((((w44.setCell ⟨gb527, 0, none⟩ (.int .i64 ((rd_T34 l0 (rd x7_3 (ji36))).f0))).setCell ⟨gb527, 1, none⟩ (.int .i64 ((rd_T34 l0 (rd x7_3 (ji36))).f1))).setCell ⟨gb527, 2, none⟩ (.int .i64 ((rd_T34 l0 (rd x7_3 (ji36))).f2))).setCell ⟨gb527, 3, none⟩ (.int .i64 ((rd_T34 l0 (rd x7_3 (ji36))).f3))).setCell ⟨gb527, 4, none⟩ (.int .i64 ((rd_T34 l0 (rd x7_3 (ji36))).f4))).setCell ⟨gb527, 5, none⟩ (.int .i64 ((rd_T34 l0 (rd x7_3 (ji36))).f5)))) ?hg ?ho ?hn ?hr ?_; (case ho => rfl); (case hg => rfl); (case hn => rfl); (case hr => first | (go_simp; done) | (go_simp; rfl)); intro w46 hw; have n0_ : Aside0 (Kd.R (Kd.int .i64) 3 w46 w.heap.size (fun _ => True) (.slice (some ad525) x7_3.length co43) x7_3) := ⟨(by rw [hw]; exact (by (with_reducible repeat (first | apply Kd.R_alloc | apply Kd.R_drewN | apply Kd.R_drew)); exact Kd.R_mono (Kd.R_far (p := ⟨gb527, 5, none⟩) (Kd.R_far (p := ⟨gb527, 4, none⟩) (Kd.R_far (p := ⟨gb527, 3, none⟩) (Kd.R_far (p := ⟨gb527, 2, none⟩) (Kd.R_far (p := ⟨gb527, 1, none⟩) (Kd.R_far (p := ⟨gb527, 0, none⟩) (Kd.R_types HO_7.out BK527.out (by decide)) (fun _ hk => hk.2) (.int .i64 ((rd_T34 l0 (rd x7_3 (ji36))).f0))) (fun _ hk => hk.2) (.int .i64 ((rd_T34 l0 (rd x7_3 (ji36))).f1))) (fun _ hk => hk.2) (.int .i64 ((rd_T34 l0 (rd x7_3 (ji36))).f2))) (fun _ hk => hk.2) (.int .i64 ((rd_T34 l0 (rd x7_3 (ji36))).f3))) (fun _ hk => hk.2) (.int .i64 ((rd_T34 l0 (rd x7_3 (ji36))).f4))) (fun _ hk => hk.2) (.int .i64 ((rd_T34 l0 (rd x7_3 (ji36))).f5))) (fun _ hk => trivial)))⟩; have n1_ : Aside0 (w46.heap[gb527]? = some (.cells #[.int .i64 ((rd_T34 l0 (rd x7_3 (ji36))).f0), .int .i64 ((rd_T34 l0 (rd x7_3 (ji36))).f1), .int .i64 ((rd_T34 l0 (rd x7_3 (ji36))).f2), .int .i64 ((rd_T34 l0 (rd x7_3 (ji36))).f3), .int .i64 ((rd_T34 l0 (rd x7_3 (ji36))).f4), .int .i64 ((rd_T34 l0 (rd x7_3 (ji36))).f5)] 34 (0, 0))) := ⟨(by rw [hw]; exact (by (with_reducible repeat (first | refine blk_drewN ?_ _ | refine blk_drew ?_ | refine blk_alloc ?_ _)); refine blk_put (cs := #[.int .i64 ((rd_T34 l0 (rd x7_3 (ji36))).f0), .int .i64 ((rd_T34 l0 (rd x7_3 (ji36))).f1), .int .i64 ((rd_T34 l0 (rd x7_3 (ji36))).f2), .int .i64 ((rd_T34 l0 (rd x7_3 (ji36))).f3), .int .i64 ((rd_T34 l0 (rd x7_3 (ji36))).f4), .int .i64 0]) ?_ 5 _ rfl; (with_reducible repeat (first | refine blk_drewN ?_ _ | refine blk_drew ?_ | refine blk_alloc ?_ _)); refine blk_put (cs := #[.int .i64 ((rd_T34 l0 (rd x7_3 (ji36))).f0), .int .i64 ((rd_T34 l0 (rd x7_3 (ji36))).f1), .int .i64 ((rd_T34 l0 (rd x7_3 (ji36))).f2), .int .i64 ((rd_T34 l0 (rd x7_3 (ji36))).f3), .int .i64 0, .int .i64 0]) ?_ 4 _ rfl; (with_reducible repeat (first | refine blk_drewN ?_ _ | refine blk_drew ?_ | refine blk_alloc ?_ _)); refine blk_put (cs := #[.int .i64 ((rd_T34 l0 (rd x7_3 (ji36))).f0), .int .i64 ((rd_T34 l0 (rd x7_3 (ji36))).f1), .int .i64 ((rd_T34 l0 (rd x7_3 (ji36))).f2), .int .i64 0, .int .i64 0, .int .i64 0]) ?_ 3 _ rfl; (with_reducible repeat (first | refine blk_drewN ?_ _ | refine blk_drew ?_ | refine blk_alloc ?_ _)); refine blk_put (cs := #[.int .i64 ((rd_T34 l0 (rd x7_3 (ji36))).f0), .int .i64 ((rd_T34 l0 (rd x7_3 (ji36))).f1), .int .i64 0, .int .i64 0, .int .i64 0, .int .i64 0]) ?_ 2 _ rfl; (with_reducible repeat (first | refine blk_drewN ?_ _ | refine blk_drew ?_ | refine blk_alloc ?_ _)); refine blk_put (cs := #[.int .i64 ((rd_T34 l0 (rd x7_3 (ji36))).f0), .int .i64 0, .int .i64 0, .int .i64 0, .int .i64 0, .int .i64 0]) ?_ 1 _ rfl; (with_reducible repeat (first | refine blk_drewN ?_ _ | refine blk_drew ?_ | refine blk_alloc ?_ _)); refine blk_put (cs := #[.int .i64 0, .int .i64 0, .int .i64 0, .int .i64 0, .int .i64 0, .int .i64 0]) ?_ 0 _ rfl; (with_reducible repeat (first | refine blk_drewN ?_ _ | refine blk_drew ?_ | refine blk_alloc ?_ _)); exact BK527.out))⟩; have n2_ : Aside0 (Below w.heap.size w w46) := ⟨(by rw [hw]; exact (by repeat (first | (with_reducible first | exact HB.out | apply ba | apply bn | apply bd | refine below_set ?_ GE527.out) | exact HB.out)))⟩; clear hw; clear HO_7; clear BK527; clear HB; have HO_7 := n0_; have BK527 := n1_; have HB := n2_; clear n0_ n1_ n2_; have q47 : ((ji36) : Int) ≤ ((x7_3.length : Int) : Int) := of_decide_eq_true (by first | (with_reducible assumption) | assumption); obtain ⟨i047, hi047, _, hsz47, _⟩ := info_parts info3; have hcut47 := cut_to (P := Try.prog) 31 3 .i64 Try.underlying31 hi047 (some ad525) x7_3.length co43 (ji36) (of_decide_eq_true (by first | (with_reducible assumption) | assumption)) q47 (Kd.R_reads' HO_7.out).2.1; have hr47 := Kd.R_take (m := ((ji36) : Int).toNat) HO_7.out (by omega); have hy47 : y528.length = ((ji36) : Int).toNat := (by rw [Ny528.out, List.length_take]; omega); rw [← Ny528.out] at hr47; rw [← hy47] at hr47 hcut47; clear hy47 hi047 hsz47 HO_7; have HO530 := Am hr47; clear hr47; replace q47 := eq_true q47; have hcz48_0 : w46.cell? ⟨gb527, 0, none⟩ = some (.int .i64 ((rd_T34 l0 (rd x7_3 (ji36))).f0)) := (blk_cell BK527.out 0).trans rfl; have hcz48_1 : w46.cell? ⟨gb527, 1, none⟩ = some (.int .i64 ((rd_T34 l0 (rd x7_3 (ji36))).f1)) := (blk_cell BK527.out 1).trans rfl; have hcz48_2 : w46.cell? ⟨gb527, 2, none⟩ = some (.int .i64 ((rd_T34 l0 (rd x7_3 (ji36))).f2)) := (blk_cell BK527.out 2).trans rfl; have hcz48_3 : w46.cell? ⟨gb527, 3, none⟩ = some (.int .i64 ((rd_T34 l0 (rd x7_3 (ji36))).f3)) := (blk_cell BK527.out 3).trans rfl; have hcz48_4 : w46.cell? ⟨gb527, 4, none⟩ = some (.int .i64 ((rd_T34 l0 (rd x7_3 (ji36))).f4)) := (blk_cell BK527.out 4).trans rfl; have hcz48_5 : w46.cell? ⟨gb527, 5, none⟩ = some (.int .i64 ((rd_T34 l0 (rd x7_3 (ji36))).f5)) := (blk_cell BK527.out 5).trans rfl; have hfz48_0 := blk_frozen BK527.out 0; have hfz48_1 := blk_frozen BK527.out 1; have hfz48_2 := blk_frozen BK527.out 2; have hfz48_3 := blk_frozen BK527.out 3; have hfz48_4 := blk_frozen BK527.out 4; have hfz48_5 := blk_frozen BK527.out 5))
                    go_roundg k3
                    case measure => have := HK1.out; have := HK2.out; have := HK3.out; omega
                    case rel => exact ⟨(wrap64 (x6_3 + 1)), (y528), (by first | rfl | (simp; done) | (simp [*]; done)), H', ⟨by have := HK1.out; have := HK2.out; have := HK3.out; omega⟩, ⟨by (with_reducible repeat (first | apply Kd.R_alloc | apply Kd.R_drewN | apply Kd.R_drew)); exact HO530.out⟩, ⟨by repeat (first | (with_reducible first | exact HB.out | apply ba | apply bn | apply bd | refine below_set ?_ GE527.out) | exact HB.out)⟩⟩
                   ·rw [if_neg c42] at H
                    have c42b0 : (((rd_T34 l0 (rd x7_3 (ji36))).f4) == (-1)) = false := beq_eq_false_iff_ne.mpr c42
                    have c42b1 : (((rd_T34 l0 (rd x7_3 (ji36))).f4) != (-1)) = true := bne_iff_ne.mpr c42
                    obtain ⟨y531, hy531⟩ : ∃ y_ : List Int, y_ = (([(rd_T34 l0 (rd x7_3 (ji36))).f4, (rd_T34 l0 (rd x7_3 (ji36))).f5] : List Int)) := ⟨_, rfl⟩
                    replace H : (if y528.length + y531.length < 17592186044416 then (larchref16_Check.l2 k3 l0 (wrap64 (x6_3 + 1)) (y528 ++ y531)) else (none)) = some r := by first | (rw [hy531]; with_reducible exact H) | (have H2_ := (Option.bind_some _ _).symm.trans H; rw [hy531]; with_reducible exact H2_) | (have H2_ := (Option.bind_some _ _).symm.trans H; with_reducible exact H2_) | with_reducible exact H | (rw [hy531]; exact H) | exact H
                    have Ny531 := Am hy531
                    clear hy531
                    by_cases c49 : y528.length + y531.length < 17592186044416
                    ·rw [if_pos c49] at H
                     have LMc49 := Am c49
                     clear c49
                     obtain ⟨y534, hy534⟩ : ∃ y_ : List Int, y_ = (y528 ++ y531) := ⟨_, rfl⟩
                     replace H : (larchref16_Check.l2 k3 l0 (wrap64 (x6_3 + 1)) y534) = some r := by first | (rw [hy534]; with_reducible exact H) | (have H2_ := (Option.bind_some _ _).symm.trans H; rw [hy534]; with_reducible exact H2_) | (have H2_ := (Option.bind_some _ _).symm.trans H; with_reducible exact H2_) | with_reducible exact H | (rw [hy534]; exact H) | exact H
                     have Ny534 := Am hy534
                     clear hy534
                     have H' := Am H
                     clear H
                     obtain ⟨Ao50, co50, eo50⟩ := Kd.R_slice HO_7.out
                     subst eo50
                     have p525 : 0 ≤ ((ji36) : Int) := of_decide_eq_true (by first | (with_reducible assumption) | assumption)
                     have q525 : (ji36) < (x7_3.length : Int) := of_decide_eq_true (by first | (with_reducible assumption) | assumption)
                     obtain ⟨ad525, e525, hx525_0⟩ := Kd.at_int (Kd.R_reads' HO_7.out).2.2 (ji36) p525 q525
                     cases e525
                     replace p525 := eq_true p525
                     replace q525 := eq_true q525
                     have p526 : 0 ≤ ((rd x7_3 (ji36)) : Int) := of_decide_eq_true (by first | (with_reducible assumption) | assumption)
                     have q526 : (rd x7_3 (ji36)) < (l0.length : Int) := of_decide_eq_true (by first | (with_reducible assumption) | assumption)
                     obtain ⟨ad526, e526, hx526_0, hx526_1, hx526_2, hx526_3, hx526_4, hx526_5⟩ := at_T34 HR0.out (rd x7_3 (ji36)) p526 q526
                     cases e526
                     replace hx526_0 := (HB.out.cell (blt w _ hx526_0)).trans hx526_0
                     replace hx526_1 := (HB.out.cell (blt w _ hx526_1)).trans hx526_1
                     replace hx526_2 := (HB.out.cell (blt w _ hx526_2)).trans hx526_2
                     replace hx526_3 := (HB.out.cell (blt w _ hx526_3)).trans hx526_3
                     replace hx526_4 := (HB.out.cell (blt w _ hx526_4)).trans hx526_4
                     replace hx526_5 := (HB.out.cell (blt w _ hx526_5)).trans hx526_5
                     replace p526 := eq_true p526
                     replace q526 := eq_true q526
                     go_wp2_with (first | ((with_reducible refine gate_dst (N := 8) rfl ?_); refine box_event ?hg (N := 8) ?hd (cs := #[.int .i64 0, .int .i64 0, .int .i64 0, .int .i64 0, .int .i64 0, .int .i64 0]) (t := 34) ?hr ?_; (case hd => rfl); (case hg => rfl); (case hr => first | (go_simp; done) | (go_simp; rfl)); intro gb527 hg w51 hbox hb; have n0_ := Am (Kd.R_below (by (with_reducible repeat (first | apply Kd.R_alloc | apply Kd.R_drewN | apply Kd.R_drew)); exact HO_7.out) hb); have n1_ := Am (below_step (by repeat (first | (with_reducible first | exact HB.out | apply ba | apply bn | apply bd) | exact HB.out)) hb); have n2_ := Am (hbox); have n3_ := Am ((by rw [hg]; exact (below_size (by repeat (first | (with_reducible first | exact HB.out | apply ba | apply bn | apply bd) | exact HB.out))) : w.heap.size ≤ gb527)); have n4_ := Am ((by rw [hg]; exact (below_size (by repeat (first | (with_reducible first | exact HB.out | apply ba | apply bn | apply bd) | exact HB.out))) : w.heap.size ≤ gb527)); clear HO_7; clear HB; have HO_7 := n0_; have HB := n1_; have BK527 := n2_; have GW527 := n3_; have GE527 := n4_; clear n0_ n1_ n2_ n3_ n4_; clear hb hbox hg; have hcz52_0 : w51.cell? ⟨gb527, 0, none⟩ = some (.int .i64 0) := (blk_cell BK527.out 0).trans rfl; have hcz52_1 : w51.cell? ⟨gb527, 1, none⟩ = some (.int .i64 0) := (blk_cell BK527.out 1).trans rfl; have hcz52_2 : w51.cell? ⟨gb527, 2, none⟩ = some (.int .i64 0) := (blk_cell BK527.out 2).trans rfl; have hcz52_3 : w51.cell? ⟨gb527, 3, none⟩ = some (.int .i64 0) := (blk_cell BK527.out 3).trans rfl; have hcz52_4 : w51.cell? ⟨gb527, 4, none⟩ = some (.int .i64 0) := (blk_cell BK527.out 4).trans rfl; have hcz52_5 : w51.cell? ⟨gb527, 5, none⟩ = some (.int .i64 0) := (blk_cell BK527.out 5).trans rfl; have hfz52_0 := blk_frozen BK527.out 0; have hfz52_1 := blk_frozen BK527.out 1; have hfz52_2 := blk_frozen BK527.out 2; have hfz52_3 := blk_frozen BK527.out 3; have hfz52_4 := blk_frozen BK527.out 4; have hfz52_5 := blk_frozen BK527.out 5) | ((with_reducible refine gate_store (t := 34) (p := 8) rfl ?_); refine store_event (t := 34) (p := 8) (v := ?vo_w53) (w1 := ((((((w51.setCell ⟨gb527, 0, none⟩ (.int .i64 ((rd_T34 l0 (rd x7_3 (ji36))).f0))).setCell ⟨gb527, 1, none⟩ (.int .i64 ((rd_T34 l0 (rd x7_3 (ji36))).f1))).setCell ⟨gb527, 2, none⟩ (.int .i64 ((rd_T34 l0 (rd x7_3 (ji36))).f2))).setCell ⟨gb527, 3, none⟩ (.int .i64 ((rd_T34 l0 (rd x7_3 (ji36))).f3))).setCell ⟨gb527, 4, none⟩ (.int .i64 ((rd_T34 l0 (rd x7_3 (ji36))).f4))).setCell ⟨gb527, 5, none⟩ (.int .i64 ((rd_T34 l0 (rd x7_3 (ji36))).f5)))) ?hg ?ho ?hn ?hr ?_; (case ho => rfl); (case hg => rfl); (case hn => rfl); (case hr => first | (go_simp; done) | (go_simp; rfl)); intro w53 hw; have n0_ : Aside0 (Kd.R (Kd.int .i64) 3 w53 w.heap.size (fun _ => True) (.slice (some ad525) x7_3.length co50) x7_3) := ⟨(by rw [hw]; exact (by (with_reducible repeat (first | apply Kd.R_alloc | apply Kd.R_drewN | apply Kd.R_drew)); exact Kd.R_mono (Kd.R_far (p := ⟨gb527, 5, none⟩) (Kd.R_far (p := ⟨gb527, 4, none⟩) (Kd.R_far (p := ⟨gb527, 3, none⟩) (Kd.R_far (p := ⟨gb527, 2, none⟩) (Kd.R_far (p := ⟨gb527, 1, none⟩) (Kd.R_far (p := ⟨gb527, 0, none⟩) (Kd.R_types HO_7.out BK527.out (by decide)) (fun _ hk => hk.2) (.int .i64 ((rd_T34 l0 (rd x7_3 (ji36))).f0))) (fun _ hk => hk.2) (.int .i64 ((rd_T34 l0 (rd x7_3 (ji36))).f1))) (fun _ hk => hk.2) (.int .i64 ((rd_T34 l0 (rd x7_3 (ji36))).f2))) (fun _ hk => hk.2) (.int .i64 ((rd_T34 l0 (rd x7_3 (ji36))).f3))) (fun _ hk => hk.2) (.int .i64 ((rd_T34 l0 (rd x7_3 (ji36))).f4))) (fun _ hk => hk.2) (.int .i64 ((rd_T34 l0 (rd x7_3 (ji36))).f5))) (fun _ hk => trivial)))⟩; have n1_ : Aside0 (w53.heap[gb527]? = some (.cells #[.int .i64 ((rd_T34 l0 (rd x7_3 (ji36))).f0), .int .i64 ((rd_T34 l0 (rd x7_3 (ji36))).f1), .int .i64 ((rd_T34 l0 (rd x7_3 (ji36))).f2), .int .i64 ((rd_T34 l0 (rd x7_3 (ji36))).f3), .int .i64 ((rd_T34 l0 (rd x7_3 (ji36))).f4), .int .i64 ((rd_T34 l0 (rd x7_3 (ji36))).f5)] 34 (0, 0))) := ⟨(by rw [hw]; exact (by (with_reducible repeat (first | refine blk_drewN ?_ _ | refine blk_drew ?_ | refine blk_alloc ?_ _)); refine blk_put (cs := #[.int .i64 ((rd_T34 l0 (rd x7_3 (ji36))).f0), .int .i64 ((rd_T34 l0 (rd x7_3 (ji36))).f1), .int .i64 ((rd_T34 l0 (rd x7_3 (ji36))).f2), .int .i64 ((rd_T34 l0 (rd x7_3 (ji36))).f3), .int .i64 ((rd_T34 l0 (rd x7_3 (ji36))).f4), .int .i64 0]) ?_ 5 _ rfl; (with_reducible repeat (first | refine blk_drewN ?_ _ | refine blk_drew ?_ | refine blk_alloc ?_ _)); refine blk_put (cs := #[.int .i64 ((rd_T34 l0 (rd x7_3 (ji36))).f0), .int .i64 ((rd_T34 l0 (rd x7_3 (ji36))).f1), .int .i64 ((rd_T34 l0 (rd x7_3 (ji36))).f2), .int .i64 ((rd_T34 l0 (rd x7_3 (ji36))).f3), .int .i64 0, .int .i64 0]) ?_ 4 _ rfl; (with_reducible repeat (first | refine blk_drewN ?_ _ | refine blk_drew ?_ | refine blk_alloc ?_ _)); refine blk_put (cs := #[.int .i64 ((rd_T34 l0 (rd x7_3 (ji36))).f0), .int .i64 ((rd_T34 l0 (rd x7_3 (ji36))).f1), .int .i64 ((rd_T34 l0 (rd x7_3 (ji36))).f2), .int .i64 0, .int .i64 0, .int .i64 0]) ?_ 3 _ rfl; (with_reducible repeat (first | refine blk_drewN ?_ _ | refine blk_drew ?_ | refine blk_alloc ?_ _)); refine blk_put (cs := #[.int .i64 ((rd_T34 l0 (rd x7_3 (ji36))).f0), .int .i64 ((rd_T34 l0 (rd x7_3 (ji36))).f1), .int .i64 0, .int .i64 0, .int .i64 0, .int .i64 0]) ?_ 2 _ rfl; (with_reducible repeat (first | refine blk_drewN ?_ _ | refine blk_drew ?_ | refine blk_alloc ?_ _)); refine blk_put (cs := #[.int .i64 ((rd_T34 l0 (rd x7_3 (ji36))).f0), .int .i64 0, .int .i64 0, .int .i64 0, .int .i64 0, .int .i64 0]) ?_ 1 _ rfl; (with_reducible repeat (first | refine blk_drewN ?_ _ | refine blk_drew ?_ | refine blk_alloc ?_ _)); refine blk_put (cs := #[.int .i64 0, .int .i64 0, .int .i64 0, .int .i64 0, .int .i64 0, .int .i64 0]) ?_ 0 _ rfl; (with_reducible repeat (first | refine blk_drewN ?_ _ | refine blk_drew ?_ | refine blk_alloc ?_ _)); exact BK527.out))⟩; have n2_ : Aside0 (Below w.heap.size w w53) := ⟨(by rw [hw]; exact (by repeat (first | (with_reducible first | exact HB.out | apply ba | apply bn | apply bd | refine below_set ?_ GE527.out) | exact HB.out)))⟩; clear hw; clear HO_7; clear BK527; clear HB; have HO_7 := n0_; have BK527 := n1_; have HB := n2_; clear n0_ n1_ n2_; have q54 : ((ji36) : Int) ≤ ((x7_3.length : Int) : Int) := of_decide_eq_true (by first | (with_reducible assumption) | assumption); obtain ⟨i054, hi054, _, hsz54, _⟩ := info_parts info3; have hcut54 := cut_to (P := Try.prog) 31 3 .i64 Try.underlying31 hi054 (some ad525) x7_3.length co50 (ji36) (of_decide_eq_true (by first | (with_reducible assumption) | assumption)) q54 (Kd.R_reads' HO_7.out).2.1; have hr54 := Kd.R_take (m := ((ji36) : Int).toNat) HO_7.out (by omega); have hy54 : y528.length = ((ji36) : Int).toNat := (by rw [Ny528.out, List.length_take]; omega); rw [← Ny528.out] at hr54; rw [← hy54] at hr54 hcut54; clear hy54 hi054 hsz54 HO_7; have HO530 := Am hr54; clear hr54; replace q54 := eq_true q54; have hcz55_0 : w53.cell? ⟨gb527, 0, none⟩ = some (.int .i64 ((rd_T34 l0 (rd x7_3 (ji36))).f0)) := (blk_cell BK527.out 0).trans rfl; have hcz55_1 : w53.cell? ⟨gb527, 1, none⟩ = some (.int .i64 ((rd_T34 l0 (rd x7_3 (ji36))).f1)) := (blk_cell BK527.out 1).trans rfl; have hcz55_2 : w53.cell? ⟨gb527, 2, none⟩ = some (.int .i64 ((rd_T34 l0 (rd x7_3 (ji36))).f2)) := (blk_cell BK527.out 2).trans rfl; have hcz55_3 : w53.cell? ⟨gb527, 3, none⟩ = some (.int .i64 ((rd_T34 l0 (rd x7_3 (ji36))).f3)) := (blk_cell BK527.out 3).trans rfl; have hcz55_4 : w53.cell? ⟨gb527, 4, none⟩ = some (.int .i64 ((rd_T34 l0 (rd x7_3 (ji36))).f4)) := (blk_cell BK527.out 4).trans rfl; have hcz55_5 : w53.cell? ⟨gb527, 5, none⟩ = some (.int .i64 ((rd_T34 l0 (rd x7_3 (ji36))).f5)) := (blk_cell BK527.out 5).trans rfl; have hfz55_0 := blk_frozen BK527.out 0; have hfz55_1 := blk_frozen BK527.out 1; have hfz55_2 := blk_frozen BK527.out 2; have hfz55_3 := blk_frozen BK527.out 3; have hfz55_4 := blk_frozen BK527.out 4; have hfz55_5 := blk_frozen BK527.out 5) | ((with_reducible refine gate_dst (N := 97) rfl ?_); refine Kd.R_lit (Kd.int .i64) _ 3 ?hg (N := 97) ?hd (xs := ([(rd_T34 l0 (rd x7_3 (ji36))).f4, (rd_T34 l0 (rd x7_3 (ji36))).f5] : List Int)) (inner := [.int .i64 ((rd_T34 l0 (rd x7_3 (ji36))).f4), .int .i64 ((rd_T34 l0 (rd x7_3 (ji36))).f5)]) (ok := fun _ => True) (okp := fun _ => True) ?hr ?hp (fun _ hk => hk) trivial (Below.refl _ _) (Nat.le_refl _) (by simp) ?_; (case hd => rfl); (case hg => rfl); (case hr => first | (go_simp; done) | (go_simp; rfl)); (case hp => exact (Reps.one (show Kd.M (Kd.int .i64) _ _ _ ((rd_T34 l0 (rd x7_3 (ji36))).f4) [.int .i64 ((rd_T34 l0 (rd x7_3 (ji36))).f4)] from rfl) (Reps.one (show Kd.M (Kd.int .i64) _ _ _ ((rd_T34 l0 (rd x7_3 (ji36))).f5) [.int .i64 ((rd_T34 l0 (rd x7_3 (ji36))).f5)] from rfl) (Reps.none _ _)))); intro v532 w56 ho57 hb hg_ hnew_; clear hg_ hnew_; (first | rw [← Ny531.out] at ho57 | (simp only [Int.reduceToNat] at ho57; rw [← Ny531.out] at ho57)); have n0_ := Am (Kd.R_elder' (by (with_reducible repeat (first | apply Kd.R_alloc | apply Kd.R_drewN | apply Kd.R_drew)); exact HO530.out) (Kd.R_base ho57) hb); have n1_ := Am (Kd.R_lower (Kd.R_new' ho57 (Kd.R_lt (by (with_reducible repeat (first | apply Kd.R_alloc | apply Kd.R_drewN | apply Kd.R_drew)); exact HO530.out))) (below_size (by repeat (first | (with_reducible first | exact HB.out | apply ba | apply bn | apply bd | refine below_set ?_ GE527.out) | exact HB.out)))); have n2_ := Am (blk_below (g := gb527) (o := .cells #[.int .i64 ((rd_T34 l0 (rd x7_3 (ji36))).f0), .int .i64 ((rd_T34 l0 (rd x7_3 (ji36))).f1), .int .i64 ((rd_T34 l0 (rd x7_3 (ji36))).f2), .int .i64 ((rd_T34 l0 (rd x7_3 (ji36))).f3), .int .i64 ((rd_T34 l0 (rd x7_3 (ji36))).f4), .int .i64 ((rd_T34 l0 (rd x7_3 (ji36))).f5)] 34 (0, 0)) (by (with_reducible repeat (first | refine blk_drewN ?_ _ | refine blk_drew ?_ | refine blk_alloc ?_ _)); exact BK527.out) hb); have n3_ := Am (below_step (by repeat (first | (with_reducible first | exact HB.out | apply ba | apply bn | apply bd | refine below_set ?_ GE527.out) | exact HB.out)) hb); clear HO530; clear BK527; clear HB; have HO530 := n0_; have HO533 := n1_; have BK527 := n2_; have HB := n3_; clear n0_ n1_ n2_ n3_; clear hb ho57; obtain ⟨Ao59, co59, eo59⟩ := Kd.R_slice HO533.out; subst eo59) | ((with_reducible refine gate_builtin (b := .append) (xs := #[.tmp 92, .tmp 97]) rfl ?_); at_builtin; refine Kd.R_append_rows (Kd.int .i64) (w0 := w) w.heap.size rfl (.tmp 92) (.tmp 97) 31 3 (.int .i64 0) 8 rfl Try.underlying31 info3 rfl (by decide) (by omega) (.slice (some ad525) y528.length co50) y528 y531 _ _ _ (fun k_ => some k_ ≠ (.slice Ao59 y531.length co59 : Value).ownBlock) (fun _ => False) rfl rfl ?aO ?aR (fun _ _ h => h) (fun _ h => h.elim) ?aF ?aB ?aS ?aL ?_; (case aR => repeat (first | exact (Kd.R_reads' HO533.out).2.2 | (with_reducible refine Kd.C_alloc ?_ _) | (with_reducible refine Kd.C_drewN ?_ _) | (with_reducible refine Kd.C_drew ?_))); (case aB => exact (by repeat (first | (with_reducible first | exact HB.out | apply ba | apply bn | apply bd | refine below_set ?_ GE527.out) | exact HB.out))); (case aF => exact (fun k_ hk => Kd.fresh' (Kd.R_lt (by (with_reducible repeat (first | apply Kd.R_alloc | apply Kd.R_drewN | apply Kd.R_drew)); exact HO533.out)) k_ hk)); (case aO => exact (by (with_reducible repeat (first | apply Kd.R_alloc | apply Kd.R_drewN | apply Kd.R_drew)); exact Kd.R_mono HO530.out (fun _ hk => hk.2))); (case aS => exact (below_size (by repeat (first | (with_reducible first | exact HB.out | apply ba | apply bn | apply bd | refine below_set ?_ GE527.out) | exact HB.out)))); (case aL => have := LMc49.out; omega); intro v535 w58 ho hb hg hat; rw [← Ny534.out] at ho; have n0_ := Am (blk_grown (g := gb527) (o := .cells #[.int .i64 ((rd_T34 l0 (rd x7_3 (ji36))).f0), .int .i64 ((rd_T34 l0 (rd x7_3 (ji36))).f1), .int .i64 ((rd_T34 l0 (rd x7_3 (ji36))).f2), .int .i64 ((rd_T34 l0 (rd x7_3 (ji36))).f3), .int .i64 ((rd_T34 l0 (rd x7_3 (ji36))).f4), .int .i64 ((rd_T34 l0 (rd x7_3 (ji36))).f5)] 34 (0, 0)) (by (with_reducible repeat (first | refine blk_drewN ?_ _ | refine blk_drew ?_ | refine blk_alloc ?_ _)); exact BK527.out) hg (Kd.R_ne HO530.out BK527.out (by decide))); have n1_ := Am (Kd.R_after (ok := (fun _ => True)) (by (with_reducible repeat (first | apply Kd.R_alloc | apply Kd.R_drewN | apply Kd.R_drew)); exact HO533.out) hg hat); have n2_ := Am (hb); have n3_ := Am (ho); clear BK527; clear HO533; clear HB; clear HO530; have BK527 := n0_; have HO533 := n1_; have HB := n2_; have HO536 := n3_; clear n0_ n1_ n2_ n3_; clear ho hb hg hat))
                     go_roundg k3
                     case measure => have := HK1.out; have := HK2.out; have := HK3.out; omega
                     case rel => exact ⟨(wrap64 (x6_3 + 1)), (y534), (by first | rfl | (simp; done) | (simp [*]; done)), H', ⟨by have := HK1.out; have := HK2.out; have := HK3.out; omega⟩, ⟨by (with_reducible repeat (first | apply Kd.R_alloc | apply Kd.R_drewN | apply Kd.R_drew)); exact Kd.R_mono HO536.out (fun _ hk => trivial)⟩, ⟨by repeat (first | (with_reducible first | exact HB.out | apply ba | apply bn | apply bd | refine below_set ?_ GE527.out) | exact HB.out)⟩⟩
                    ·rw [if_neg c49] at H
                     exact absurd H (by simp)
                  ·rw [if_neg c41] at H
                   exact absurd H (by simp)
                 ·rw [if_neg c40] at H
                  exact absurd H (by simp)
                ·rw [if_neg c39] at H
                 exact absurd H (by simp)
               ·rw [if_neg c38] at H
                exact absurd H (by simp)
              ·rw [if_neg c37] at H
               exact absurd H (by simp)
             ·rw [if_neg c35] at H
              have c35b0 : decide (0 < (x7_3.length : Int)) = false := decide_eq_false c35
              have c35b1 : decide (0 < x7_3.length) = false := decide_eq_false (by omega)
              clear c35
              by_cases c60 : x6_3 = (l0.length : Int)
              ·rw [if_pos c60] at H
               have c60b0 : (x6_3 == (l0.length : Int)) = true := beq_iff_eq.mpr c60
               have c60b1 : (x6_3 != (l0.length : Int)) = false := bne_eq_false_iff_eq.mpr c60
               clear c60
               obtain rfl := Option.some.inj H
               obtain ⟨Ao61, co61, eo61⟩ := Kd.R_slice HO_7.out
               subst eo61
               go_wp2
               go_ret
               exact ⟨by first | rfl | (simp [errW_none, errW_some] <;> rfl) | (simp [*, errW_none, errW_some] <;> rfl), by repeat (first | (with_reducible first | exact HB.out | apply ba | apply bn | apply bd) | exact HB.out)⟩
              ·rw [if_neg c60] at H
               have c60b0 : (x6_3 == (l0.length : Int)) = false := beq_eq_false_iff_ne.mpr c60
               have c60b1 : (x6_3 != (l0.length : Int)) = true := bne_iff_ne.mpr c60
               obtain rfl := Option.some.inj H
               obtain ⟨Ao62, co62, eo62⟩ := Kd.R_slice HO_7.out
               subst eo62
               go_wp2
               go_ret
               exact ⟨by first | rfl | (simp [errW_none, errW_some] <;> rfl) | (simp [*, errW_none, errW_some] <;> rfl), by repeat (first | (with_reducible first | exact HB.out | apply ba | apply bn | apply bd) | exact HB.out)⟩
    ·rw [if_neg c5] at H
     exact absurd H (by simp)
   ·rw [if_neg c4] at H
    exact absurd H (by simp)
def larchref16_Leaf.f (a0_0 : Int) (a0_1 : Int) (a0_2 : Int) (a0_3 : Int) (a0_4 : Int) (a0_5 : Int) : Option (Bool) := some (a0_4 == (-1))
set_option maxHeartbeats 8000000 in
set_option maxRecDepth 100000 in
theorem larchref16_Leaf.calls (a0_0 : Int) (a0_1 : Int) (a0_2 : Int) (a0_3 : Int) (a0_4 : Int) (a0_5 : Int) (r : Bool) (w : World) (h : larchref16_Leaf.f a0_0 a0_1 a0_2 a0_3 a0_4 a0_5 = some r) :
  Calls Try.prog 100 #[.agg #[.int .i64 a0_0, .int .i64 a0_1, .int .i64 a0_2, .int .i64 a0_3, .int .i64 a0_4, .int .i64 a0_5]] w fun e w' => e = .returned (.bool r) ∧ Below w.heap.size w w' := by
 have hu34 := Try.underlying34
 have HB := Am (Below.refl w.heap.size w)
 have H : (some (a0_4 == (-1))) = some r := h
 clear h
 obtain rfl := Option.some.inj H
 go_enter Try.func100, Try.ntmps100
 go_wp2_with (first | ((with_reducible refine gate_dst (N := 1) rfl ?_); refine box_event ?hg (N := 1) ?hd (cs := #[.int .i64 a0_0, .int .i64 a0_1, .int .i64 a0_2, .int .i64 a0_3, .int .i64 a0_4, .int .i64 a0_5]) (t := 34) ?hr ?_; (case hd => rfl); (case hg => rfl); (case hr => first | (go_simp; done) | (go_simp; rfl)); intro gb537 hg w2 hbox hb; have n0_ := Am (below_step (by repeat (first | (with_reducible first | exact HB.out | apply ba | apply bn | apply bd) | exact HB.out)) hb); have n1_ := Am (hbox); have n2_ := Am ((by rw [hg]; exact (below_size (by repeat (first | (with_reducible first | exact HB.out | apply ba | apply bn | apply bd) | exact HB.out))) : w.heap.size ≤ gb537)); have n3_ := Am ((by rw [hg]; exact (below_size (by repeat (first | (with_reducible first | exact HB.out | apply ba | apply bn | apply bd) | exact HB.out))) : w.heap.size ≤ gb537)); clear HB; have HB := n0_; have BK537 := n1_; have GW537 := n2_; have GE537 := n3_; clear n0_ n1_ n2_ n3_; clear hb hbox hg; have hcz3_0 : w2.cell? ⟨gb537, 0, none⟩ = some (.int .i64 a0_0) := (blk_cell BK537.out 0).trans rfl; have hcz3_1 : w2.cell? ⟨gb537, 1, none⟩ = some (.int .i64 a0_1) := (blk_cell BK537.out 1).trans rfl; have hcz3_2 : w2.cell? ⟨gb537, 2, none⟩ = some (.int .i64 a0_2) := (blk_cell BK537.out 2).trans rfl; have hcz3_3 : w2.cell? ⟨gb537, 3, none⟩ = some (.int .i64 a0_3) := (blk_cell BK537.out 3).trans rfl; have hcz3_4 : w2.cell? ⟨gb537, 4, none⟩ = some (.int .i64 a0_4) := (blk_cell BK537.out 4).trans rfl; have hcz3_5 : w2.cell? ⟨gb537, 5, none⟩ = some (.int .i64 a0_5) := (blk_cell BK537.out 5).trans rfl; have hfz3_0 := blk_frozen BK537.out 0; have hfz3_1 := blk_frozen BK537.out 1; have hfz3_2 := blk_frozen BK537.out 2; have hfz3_3 := blk_frozen BK537.out 3; have hfz3_4 := blk_frozen BK537.out 4; have hfz3_5 := blk_frozen BK537.out 5))
 go_ret
 exact ⟨by first | rfl | (simp [errW_none, errW_some] <;> rfl) | (simp [*, errW_none, errW_some] <;> rfl), by repeat (first | (with_reducible first | exact HB.out | apply ba | apply bn | apply bd | refine below_set ?_ GE537.out) | exact HB.out)⟩
def larchref16_end.f (a0_0 : Int) (a0_1 : Int) (a0_2 : Int) (a0_3 : Int) (a0_4 : Int) (a0_5 : Int) : Option (Bool) := (larchref16_Leaf.f a0_0 a0_1 a0_2 a0_3 a0_4 a0_5).bind fun t539 => (if t539 = true then (if a0_1 = 1 then (some (a0_2 == 1)) else (some false)) else (some false))
set_option maxHeartbeats 8000000 in
set_option maxRecDepth 100000 in
theorem larchref16_end.calls (a0_0 : Int) (a0_1 : Int) (a0_2 : Int) (a0_3 : Int) (a0_4 : Int) (a0_5 : Int) (r : Bool) (w : World) (h : larchref16_end.f a0_0 a0_1 a0_2 a0_3 a0_4 a0_5 = some r) :
  Calls Try.prog 98 #[.agg #[.int .i64 a0_0, .int .i64 a0_1, .int .i64 a0_2, .int .i64 a0_3, .int .i64 a0_4, .int .i64 a0_5]] w fun e w' => e = .returned (.bool r) ∧ Below w.heap.size w w' := by
 have hu34 := Try.underlying34
 have HB := Am (Below.refl w.heap.size w)
 have H : ((larchref16_Leaf.f a0_0 a0_1 a0_2 a0_3 a0_4 a0_5).bind fun t539 => (if t539 = true then (if a0_1 = 1 then (some (a0_2 == 1)) else (some false)) else (some false))) = some r := h
 clear h
 replace H := Option.bind_eq_some_iff.mp H
 obtain ⟨t539, A20, H⟩ := H
 replace H : (if t539 = true then (if a0_1 = 1 then (some (a0_2 == 1)) else (some false)) else (some false)) = some r := H
 have A2 := Am A20
 clear A20
 by_cases c3 : t539 = true
 ·subst c3
  have H1 : (if a0_1 = 1 then (some (a0_2 == 1)) else (some false)) = some r := by rw [if_pos rfl] at H; exact H
  clear H
  have H := H1
  clear H1
  by_cases c4 : a0_1 = 1
  ·rw [if_pos c4] at H
   have c4b0 : (a0_1 == 1) = true := beq_iff_eq.mpr c4
   have c4b1 : (a0_1 != 1) = false := bne_eq_false_iff_eq.mpr c4
   clear c4
   obtain rfl := Option.some.inj H
   go_enter Try.func98, Try.ntmps98
   go_wp2_with (first | ((with_reducible refine gate_dst (N := 1) rfl ?_); refine box_event ?hg (N := 1) ?hd (cs := #[.int .i64 a0_0, .int .i64 a0_1, .int .i64 a0_2, .int .i64 a0_3, .int .i64 a0_4, .int .i64 a0_5]) (t := 34) ?hr ?_; (case hd => rfl); (case hg => rfl); (case hr => first | (go_simp; done) | (go_simp; rfl)); intro gb538 hg w5 hbox hb; have n0_ := Am (below_step (by repeat (first | (with_reducible first | exact HB.out | apply ba | apply bn | apply bd) | exact HB.out)) hb); have n1_ := Am (hbox); have n2_ := Am ((by rw [hg]; exact (below_size (by repeat (first | (with_reducible first | exact HB.out | apply ba | apply bn | apply bd) | exact HB.out))) : w.heap.size ≤ gb538)); have n3_ := Am ((by rw [hg]; exact (below_size (by repeat (first | (with_reducible first | exact HB.out | apply ba | apply bn | apply bd) | exact HB.out))) : w.heap.size ≤ gb538)); clear HB; have HB := n0_; have BK538 := n1_; have GW538 := n2_; have GE538 := n3_; clear n0_ n1_ n2_ n3_; clear hb hbox hg; have hcz6_0 : w5.cell? ⟨gb538, 0, none⟩ = some (.int .i64 a0_0) := (blk_cell BK538.out 0).trans rfl; have hcz6_1 : w5.cell? ⟨gb538, 1, none⟩ = some (.int .i64 a0_1) := (blk_cell BK538.out 1).trans rfl; have hcz6_2 : w5.cell? ⟨gb538, 2, none⟩ = some (.int .i64 a0_2) := (blk_cell BK538.out 2).trans rfl; have hcz6_3 : w5.cell? ⟨gb538, 3, none⟩ = some (.int .i64 a0_3) := (blk_cell BK538.out 3).trans rfl; have hcz6_4 : w5.cell? ⟨gb538, 4, none⟩ = some (.int .i64 a0_4) := (blk_cell BK538.out 4).trans rfl; have hcz6_5 : w5.cell? ⟨gb538, 5, none⟩ = some (.int .i64 a0_5) := (blk_cell BK538.out 5).trans rfl; have hfz6_0 := blk_frozen BK538.out 0; have hfz6_1 := blk_frozen BK538.out 1; have hfz6_2 := blk_frozen BK538.out 2; have hfz6_3 := blk_frozen BK538.out 3; have hfz6_4 := blk_frozen BK538.out 4; have hfz6_5 := blk_frozen BK538.out 5) | ((with_reducible refine gate_callee (f := 100) rfl ?_); refine goesL_ (some 4) rfl rfl Try.func100 (by kernel_rfl) rfl #[.agg #[.int .i64 a0_0, .int .i64 a0_1, .int .i64 a0_2, .int .i64 a0_3, .int .i64 a0_4, .int .i64 a0_5]] rfl (by (try simp only [List.map_toArray, List.map_cons, List.map_nil]); first | done | rfl | (simp only [List.length_drop, List.length_take]; rfl)) ?_; (with_reducible refine (larchref16_Leaf.calls a0_0 a0_1 a0_2 a0_3 a0_4 a0_5 true _ A2.out).mono ?_); rintro e w7 ⟨rfl, hb⟩; refine ⟨_, rfl, ?_⟩; have n0_ := Am (blk_below (g := gb538) (o := .cells #[.int .i64 a0_0, .int .i64 a0_1, .int .i64 a0_2, .int .i64 a0_3, .int .i64 a0_4, .int .i64 a0_5] 34 (0, 0)) (by (with_reducible repeat (first | refine blk_drewN ?_ _ | refine blk_drew ?_ | refine blk_alloc ?_ _)); exact BK538.out) hb); have n1_ := Am (below_step (by repeat (first | (with_reducible first | exact HB.out | apply ba | apply bn | apply bd | refine below_set ?_ GE538.out) | exact HB.out)) hb); clear BK538; clear HB; have BK538 := n0_; have HB := n1_; clear n0_ n1_; (try clear hb); (try clear hb2); (try clear hk); (try clear hi); have hcz8_0 : w7.cell? ⟨gb538, 0, none⟩ = some (.int .i64 a0_0) := (blk_cell BK538.out 0).trans rfl; have hcz8_1 : w7.cell? ⟨gb538, 1, none⟩ = some (.int .i64 a0_1) := (blk_cell BK538.out 1).trans rfl; have hcz8_2 : w7.cell? ⟨gb538, 2, none⟩ = some (.int .i64 a0_2) := (blk_cell BK538.out 2).trans rfl; have hcz8_3 : w7.cell? ⟨gb538, 3, none⟩ = some (.int .i64 a0_3) := (blk_cell BK538.out 3).trans rfl; have hcz8_4 : w7.cell? ⟨gb538, 4, none⟩ = some (.int .i64 a0_4) := (blk_cell BK538.out 4).trans rfl; have hcz8_5 : w7.cell? ⟨gb538, 5, none⟩ = some (.int .i64 a0_5) := (blk_cell BK538.out 5).trans rfl; have hfz8_0 := blk_frozen BK538.out 0; have hfz8_1 := blk_frozen BK538.out 1; have hfz8_2 := blk_frozen BK538.out 2; have hfz8_3 := blk_frozen BK538.out 3; have hfz8_4 := blk_frozen BK538.out 4; have hfz8_5 := blk_frozen BK538.out 5))
   go_ret
   exact ⟨by first | rfl | (simp [errW_none, errW_some] <;> rfl) | (simp [*, errW_none, errW_some] <;> rfl), by repeat (first | (with_reducible first | exact HB.out | apply ba | apply bn | apply bd | refine below_set ?_ GE538.out) | exact HB.out)⟩
  ·rw [if_neg c4] at H
   have c4b0 : (a0_1 == 1) = false := beq_eq_false_iff_ne.mpr c4
   have c4b1 : (a0_1 != 1) = true := bne_iff_ne.mpr c4
   obtain rfl := Option.some.inj H
   go_enter Try.func98, Try.ntmps98
   go_wp2_with (first | ((with_reducible refine gate_dst (N := 1) rfl ?_); refine box_event ?hg (N := 1) ?hd (cs := #[.int .i64 a0_0, .int .i64 a0_1, .int .i64 a0_2, .int .i64 a0_3, .int .i64 a0_4, .int .i64 a0_5]) (t := 34) ?hr ?_; (case hd => rfl); (case hg => rfl); (case hr => first | (go_simp; done) | (go_simp; rfl)); intro gb538 hg w9 hbox hb; have n0_ := Am (below_step (by repeat (first | (with_reducible first | exact HB.out | apply ba | apply bn | apply bd) | exact HB.out)) hb); have n1_ := Am (hbox); have n2_ := Am ((by rw [hg]; exact (below_size (by repeat (first | (with_reducible first | exact HB.out | apply ba | apply bn | apply bd) | exact HB.out))) : w.heap.size ≤ gb538)); have n3_ := Am ((by rw [hg]; exact (below_size (by repeat (first | (with_reducible first | exact HB.out | apply ba | apply bn | apply bd) | exact HB.out))) : w.heap.size ≤ gb538)); clear HB; have HB := n0_; have BK538 := n1_; have GW538 := n2_; have GE538 := n3_; clear n0_ n1_ n2_ n3_; clear hb hbox hg; have hcz10_0 : w9.cell? ⟨gb538, 0, none⟩ = some (.int .i64 a0_0) := (blk_cell BK538.out 0).trans rfl; have hcz10_1 : w9.cell? ⟨gb538, 1, none⟩ = some (.int .i64 a0_1) := (blk_cell BK538.out 1).trans rfl; have hcz10_2 : w9.cell? ⟨gb538, 2, none⟩ = some (.int .i64 a0_2) := (blk_cell BK538.out 2).trans rfl; have hcz10_3 : w9.cell? ⟨gb538, 3, none⟩ = some (.int .i64 a0_3) := (blk_cell BK538.out 3).trans rfl; have hcz10_4 : w9.cell? ⟨gb538, 4, none⟩ = some (.int .i64 a0_4) := (blk_cell BK538.out 4).trans rfl; have hcz10_5 : w9.cell? ⟨gb538, 5, none⟩ = some (.int .i64 a0_5) := (blk_cell BK538.out 5).trans rfl; have hfz10_0 := blk_frozen BK538.out 0; have hfz10_1 := blk_frozen BK538.out 1; have hfz10_2 := blk_frozen BK538.out 2; have hfz10_3 := blk_frozen BK538.out 3; have hfz10_4 := blk_frozen BK538.out 4; have hfz10_5 := blk_frozen BK538.out 5) | ((with_reducible refine gate_callee (f := 100) rfl ?_); refine goesL_ (some 4) rfl rfl Try.func100 (by kernel_rfl) rfl #[.agg #[.int .i64 a0_0, .int .i64 a0_1, .int .i64 a0_2, .int .i64 a0_3, .int .i64 a0_4, .int .i64 a0_5]] rfl (by (try simp only [List.map_toArray, List.map_cons, List.map_nil]); first | done | rfl | (simp only [List.length_drop, List.length_take]; rfl)) ?_; (with_reducible refine (larchref16_Leaf.calls a0_0 a0_1 a0_2 a0_3 a0_4 a0_5 true _ A2.out).mono ?_); rintro e w11 ⟨rfl, hb⟩; refine ⟨_, rfl, ?_⟩; have n0_ := Am (blk_below (g := gb538) (o := .cells #[.int .i64 a0_0, .int .i64 a0_1, .int .i64 a0_2, .int .i64 a0_3, .int .i64 a0_4, .int .i64 a0_5] 34 (0, 0)) (by (with_reducible repeat (first | refine blk_drewN ?_ _ | refine blk_drew ?_ | refine blk_alloc ?_ _)); exact BK538.out) hb); have n1_ := Am (below_step (by repeat (first | (with_reducible first | exact HB.out | apply ba | apply bn | apply bd | refine below_set ?_ GE538.out) | exact HB.out)) hb); clear BK538; clear HB; have BK538 := n0_; have HB := n1_; clear n0_ n1_; (try clear hb); (try clear hb2); (try clear hk); (try clear hi); have hcz12_0 : w11.cell? ⟨gb538, 0, none⟩ = some (.int .i64 a0_0) := (blk_cell BK538.out 0).trans rfl; have hcz12_1 : w11.cell? ⟨gb538, 1, none⟩ = some (.int .i64 a0_1) := (blk_cell BK538.out 1).trans rfl; have hcz12_2 : w11.cell? ⟨gb538, 2, none⟩ = some (.int .i64 a0_2) := (blk_cell BK538.out 2).trans rfl; have hcz12_3 : w11.cell? ⟨gb538, 3, none⟩ = some (.int .i64 a0_3) := (blk_cell BK538.out 3).trans rfl; have hcz12_4 : w11.cell? ⟨gb538, 4, none⟩ = some (.int .i64 a0_4) := (blk_cell BK538.out 4).trans rfl; have hcz12_5 : w11.cell? ⟨gb538, 5, none⟩ = some (.int .i64 a0_5) := (blk_cell BK538.out 5).trans rfl; have hfz12_0 := blk_frozen BK538.out 0; have hfz12_1 := blk_frozen BK538.out 1; have hfz12_2 := blk_frozen BK538.out 2; have hfz12_3 := blk_frozen BK538.out 3; have hfz12_4 := blk_frozen BK538.out 4; have hfz12_5 := blk_frozen BK538.out 5))
   go_ret
   exact ⟨by first | rfl | (simp [errW_none, errW_some] <;> rfl) | (simp [*, errW_none, errW_some] <;> rfl), by repeat (first | (with_reducible first | exact HB.out | apply ba | apply bn | apply bd | refine below_set ?_ GE538.out) | exact HB.out)⟩
 ·replace c3 := Bool.eq_false_iff.mpr c3
  subst c3
  have H1 : (some false) = some r := by rw [if_neg (show ¬ (false = true) by decide)] at H; exact H
  clear H
  have H := H1
  clear H1
  obtain rfl := Option.some.inj H
  go_enter Try.func98, Try.ntmps98
  go_wp2_with (first | ((with_reducible refine gate_dst (N := 1) rfl ?_); refine box_event ?hg (N := 1) ?hd (cs := #[.int .i64 a0_0, .int .i64 a0_1, .int .i64 a0_2, .int .i64 a0_3, .int .i64 a0_4, .int .i64 a0_5]) (t := 34) ?hr ?_; (case hd => rfl); (case hg => rfl); (case hr => first | (go_simp; done) | (go_simp; rfl)); intro gb538 hg w13 hbox hb; have n0_ := Am (below_step (by repeat (first | (with_reducible first | exact HB.out | apply ba | apply bn | apply bd) | exact HB.out)) hb); have n1_ := Am (hbox); have n2_ := Am ((by rw [hg]; exact (below_size (by repeat (first | (with_reducible first | exact HB.out | apply ba | apply bn | apply bd) | exact HB.out))) : w.heap.size ≤ gb538)); have n3_ := Am ((by rw [hg]; exact (below_size (by repeat (first | (with_reducible first | exact HB.out | apply ba | apply bn | apply bd) | exact HB.out))) : w.heap.size ≤ gb538)); clear HB; have HB := n0_; have BK538 := n1_; have GW538 := n2_; have GE538 := n3_; clear n0_ n1_ n2_ n3_; clear hb hbox hg; have hcz14_0 : w13.cell? ⟨gb538, 0, none⟩ = some (.int .i64 a0_0) := (blk_cell BK538.out 0).trans rfl; have hcz14_1 : w13.cell? ⟨gb538, 1, none⟩ = some (.int .i64 a0_1) := (blk_cell BK538.out 1).trans rfl; have hcz14_2 : w13.cell? ⟨gb538, 2, none⟩ = some (.int .i64 a0_2) := (blk_cell BK538.out 2).trans rfl; have hcz14_3 : w13.cell? ⟨gb538, 3, none⟩ = some (.int .i64 a0_3) := (blk_cell BK538.out 3).trans rfl; have hcz14_4 : w13.cell? ⟨gb538, 4, none⟩ = some (.int .i64 a0_4) := (blk_cell BK538.out 4).trans rfl; have hcz14_5 : w13.cell? ⟨gb538, 5, none⟩ = some (.int .i64 a0_5) := (blk_cell BK538.out 5).trans rfl; have hfz14_0 := blk_frozen BK538.out 0; have hfz14_1 := blk_frozen BK538.out 1; have hfz14_2 := blk_frozen BK538.out 2; have hfz14_3 := blk_frozen BK538.out 3; have hfz14_4 := blk_frozen BK538.out 4; have hfz14_5 := blk_frozen BK538.out 5) | ((with_reducible refine gate_callee (f := 100) rfl ?_); refine goesL_ (some 4) rfl rfl Try.func100 (by kernel_rfl) rfl #[.agg #[.int .i64 a0_0, .int .i64 a0_1, .int .i64 a0_2, .int .i64 a0_3, .int .i64 a0_4, .int .i64 a0_5]] rfl (by (try simp only [List.map_toArray, List.map_cons, List.map_nil]); first | done | rfl | (simp only [List.length_drop, List.length_take]; rfl)) ?_; (with_reducible refine (larchref16_Leaf.calls a0_0 a0_1 a0_2 a0_3 a0_4 a0_5 false _ A2.out).mono ?_); rintro e w15 ⟨rfl, hb⟩; refine ⟨_, rfl, ?_⟩; have n0_ := Am (blk_below (g := gb538) (o := .cells #[.int .i64 a0_0, .int .i64 a0_1, .int .i64 a0_2, .int .i64 a0_3, .int .i64 a0_4, .int .i64 a0_5] 34 (0, 0)) (by (with_reducible repeat (first | refine blk_drewN ?_ _ | refine blk_drew ?_ | refine blk_alloc ?_ _)); exact BK538.out) hb); have n1_ := Am (below_step (by repeat (first | (with_reducible first | exact HB.out | apply ba | apply bn | apply bd | refine below_set ?_ GE538.out) | exact HB.out)) hb); clear BK538; clear HB; have BK538 := n0_; have HB := n1_; clear n0_ n1_; (try clear hb); (try clear hb2); (try clear hk); (try clear hi)))
  go_ret
  exact ⟨by first | rfl | (simp [errW_none, errW_some] <;> rfl) | (simp [*, errW_none, errW_some] <;> rfl), by repeat (first | (with_reducible first | exact HB.out | apply ba | apply bn | apply bd | refine below_set ?_ GE538.out) | exact HB.out)⟩
end Go.Proofs.Ytgleaefhflamnaa.T
namespace Go.Proofs.Ytgleaefhflamnaa.T
open Go.RowKit Go.Proofs.YtgleaefhflamnaaW.PrintWords Go.Proofs.YtgleaefhflamnaaW.PrintLast Go.Proofs.YtgleaefhflamnaaW.PrintMore
attribute [local go_sem] max2_int min2_int max_two min_two max_three min_three max_four min_four   -- for this text's walks alone
set_option linter.unusedVariables false
set_option linter.unusedSimpArgs false
def larchref16_top.f (l0 : List (S34)) (a1 : Int) : Option (Bool) := if 0 ≤ a1 then (if a1 < (l0.length : Int) then ((larchref16_Leaf.f ((rd_T34 l0 a1).f0) ((rd_T34 l0 a1).f1) ((rd_T34 l0 a1).f2) ((rd_T34 l0 a1).f3) ((rd_T34 l0 a1).f4) ((rd_T34 l0 a1).f5)).bind fun t542 => (if t542 = true then (some false) else (if ((rd_T34 l0 a1).f1) = 1 then (if ((rd_T34 l0 a1).f2) = 1 then (if 0 ≤ ((rd_T34 l0 a1).f5) then (if ((rd_T34 l0 a1).f5) < (l0.length : Int) then ((larchref16_end.f ((rd_T34 l0 ((rd_T34 l0 a1).f5)).f0) ((rd_T34 l0 ((rd_T34 l0 a1).f5)).f1) ((rd_T34 l0 ((rd_T34 l0 a1).f5)).f2) ((rd_T34 l0 ((rd_T34 l0 a1).f5)).f3) ((rd_T34 l0 ((rd_T34 l0 a1).f5)).f4) ((rd_T34 l0 ((rd_T34 l0 a1).f5)).f5)).bind fun t544 => (some t544)) else (none)) else (none)) else (some false)) else (some false)))) else (none)) else (none)
set_option maxHeartbeats 8000000 in
set_option maxRecDepth 100000 in
theorem larchref16_top.calls (A0 : Option Addr) (c0 : Nat) (l0 : List (S34)) (a1 : Int) (r : Bool) (w : World) (hr0 : Kd.C k34 w A0 l0.length l0) (hc0 : l0.length ≤ c0) (h : larchref16_top.f l0 a1 = some r) :
  Calls Try.prog 97 #[.slice A0 l0.length c0, .int .i64 a1] w fun e w' => e = .returned (.bool r) ∧ Below w.heap.size w w' := by
 have hu34 := Try.underlying34
 have HR0 := Am hr0
 have HC0 := Am hc0
 clear hr0 hc0
 have HB := Am (Below.refl w.heap.size w)
 have H : (if 0 ≤ a1 then (if a1 < (l0.length : Int) then ((larchref16_Leaf.f ((rd_T34 l0 a1).f0) ((rd_T34 l0 a1).f1) ((rd_T34 l0 a1).f2) ((rd_T34 l0 a1).f3) ((rd_T34 l0 a1).f4) ((rd_T34 l0 a1).f5)).bind fun t542 => (if t542 = true then (some false) else (if ((rd_T34 l0 a1).f1) = 1 then (if ((rd_T34 l0 a1).f2) = 1 then (if 0 ≤ ((rd_T34 l0 a1).f5) then (if ((rd_T34 l0 a1).f5) < (l0.length : Int) then ((larchref16_end.f ((rd_T34 l0 ((rd_T34 l0 a1).f5)).f0) ((rd_T34 l0 ((rd_T34 l0 a1).f5)).f1) ((rd_T34 l0 ((rd_T34 l0 a1).f5)).f2) ((rd_T34 l0 ((rd_T34 l0 a1).f5)).f3) ((rd_T34 l0 ((rd_T34 l0 a1).f5)).f4) ((rd_T34 l0 ((rd_T34 l0 a1).f5)).f5)).bind fun t544 => (some t544)) else (none)) else (none)) else (some false)) else (some false)))) else (none)) else (none)) = some r := h
 clear h
 by_cases c3 : 0 ≤ a1
 ·rw [if_pos c3] at H
  have c3b0 : decide (0 ≤ a1) = true := decide_eq_true c3
  clear c3
  by_cases c4 : a1 < (l0.length : Int)
  ·rw [if_pos c4] at H
   have c4b0 : decide (a1 < (l0.length : Int)) = true := decide_eq_true c4
   clear c4
   replace H := Option.bind_eq_some_iff.mp H
   obtain ⟨t542, A50, H⟩ := H
   replace H : (if t542 = true then (some false) else (if ((rd_T34 l0 a1).f1) = 1 then (if ((rd_T34 l0 a1).f2) = 1 then (if 0 ≤ ((rd_T34 l0 a1).f5) then (if ((rd_T34 l0 a1).f5) < (l0.length : Int) then ((larchref16_end.f ((rd_T34 l0 ((rd_T34 l0 a1).f5)).f0) ((rd_T34 l0 ((rd_T34 l0 a1).f5)).f1) ((rd_T34 l0 ((rd_T34 l0 a1).f5)).f2) ((rd_T34 l0 ((rd_T34 l0 a1).f5)).f3) ((rd_T34 l0 ((rd_T34 l0 a1).f5)).f4) ((rd_T34 l0 ((rd_T34 l0 a1).f5)).f5)).bind fun t544 => (some t544)) else (none)) else (none)) else (some false)) else (some false))) = some r := H
   have A5 := Am A50
   clear A50
   by_cases c6 : t542 = true
   ·subst c6
    have H1 : (some false) = some r := by rw [if_pos rfl] at H; exact H
    clear H
    have H := H1
    clear H1
    obtain rfl := Option.some.inj H
    have p540 : 0 ≤ (a1 : Int) := of_decide_eq_true (by first | (with_reducible assumption) | assumption)
    have q540 : a1 < (l0.length : Int) := of_decide_eq_true (by first | (with_reducible assumption) | assumption)
    obtain ⟨ad540, e540, hx540_0, hx540_1, hx540_2, hx540_3, hx540_4, hx540_5⟩ := at_T34 HR0.out a1 p540 q540
    cases e540
    replace p540 := eq_true p540
    replace q540 := eq_true q540
    go_enter Try.func97, Try.ntmps97
    go_wp2_with (first | ((with_reducible refine gate_dst (N := 5) rfl ?_); refine box_event ?hg (N := 5) ?hd (cs := #[.int .i64 0, .int .i64 0, .int .i64 0, .int .i64 0, .int .i64 0, .int .i64 0]) (t := 34) ?hr ?_; (case hd => rfl); (case hg => rfl); (case hr => first | (go_simp; done) | (go_simp; rfl)); intro gb541 hg w7 hbox hb; have n0_ := Am (below_step (by repeat (first | (with_reducible first | exact HB.out | apply ba | apply bn | apply bd) | exact HB.out)) hb); have n1_ := Am (hbox); have n2_ := Am ((by rw [hg]; exact (below_size (by repeat (first | (with_reducible first | exact HB.out | apply ba | apply bn | apply bd) | exact HB.out))) : w.heap.size ≤ gb541)); have n3_ := Am ((by rw [hg]; exact (below_size (by repeat (first | (with_reducible first | exact HB.out | apply ba | apply bn | apply bd) | exact HB.out))) : w.heap.size ≤ gb541)); clear HB; have HB := n0_; have BK541 := n1_; have GW541 := n2_; have GE541 := n3_; clear n0_ n1_ n2_ n3_; clear hb hbox hg; have hcz8_0 : w7.cell? ⟨gb541, 0, none⟩ = some (.int .i64 0) := (blk_cell BK541.out 0).trans rfl; have hcz8_1 : w7.cell? ⟨gb541, 1, none⟩ = some (.int .i64 0) := (blk_cell BK541.out 1).trans rfl; have hcz8_2 : w7.cell? ⟨gb541, 2, none⟩ = some (.int .i64 0) := (blk_cell BK541.out 2).trans rfl; have hcz8_3 : w7.cell? ⟨gb541, 3, none⟩ = some (.int .i64 0) := (blk_cell BK541.out 3).trans rfl; have hcz8_4 : w7.cell? ⟨gb541, 4, none⟩ = some (.int .i64 0) := (blk_cell BK541.out 4).trans rfl; have hcz8_5 : w7.cell? ⟨gb541, 5, none⟩ = some (.int .i64 0) := (blk_cell BK541.out 5).trans rfl; have hfz8_0 := blk_frozen BK541.out 0; have hfz8_1 := blk_frozen BK541.out 1; have hfz8_2 := blk_frozen BK541.out 2; have hfz8_3 := blk_frozen BK541.out 3; have hfz8_4 := blk_frozen BK541.out 4; have hfz8_5 := blk_frozen BK541.out 5) | ((with_reducible refine gate_callee (f := 100) rfl ?_); refine goesL_ (some 11) rfl rfl Try.func100 (by kernel_rfl) rfl #[.agg #[.int .i64 ((rd_T34 l0 a1).f0), .int .i64 ((rd_T34 l0 a1).f1), .int .i64 ((rd_T34 l0 a1).f2), .int .i64 ((rd_T34 l0 a1).f3), .int .i64 ((rd_T34 l0 a1).f4), .int .i64 ((rd_T34 l0 a1).f5)]] rfl (by (try simp only [List.map_toArray, List.map_cons, List.map_nil]); first | done | rfl | (simp only [List.length_drop, List.length_take]; rfl)) ?_; (with_reducible refine (larchref16_Leaf.calls ((rd_T34 l0 a1).f0) ((rd_T34 l0 a1).f1) ((rd_T34 l0 a1).f2) ((rd_T34 l0 a1).f3) ((rd_T34 l0 a1).f4) ((rd_T34 l0 a1).f5) true _ A5.out).mono ?_); rintro e w9 ⟨rfl, hb⟩; refine ⟨_, rfl, ?_⟩; have n0_ := Am (blk_below (g := gb541) (o := .cells #[.int .i64 ((rd_T34 l0 a1).f0), .int .i64 ((rd_T34 l0 a1).f1), .int .i64 ((rd_T34 l0 a1).f2), .int .i64 ((rd_T34 l0 a1).f3), .int .i64 ((rd_T34 l0 a1).f4), .int .i64 ((rd_T34 l0 a1).f5)] 34 (0, 0)) (by (with_reducible repeat (first | refine blk_drewN ?_ _ | refine blk_drew ?_ | refine blk_alloc ?_ _)); refine blk_put (cs := #[.int .i64 ((rd_T34 l0 a1).f0), .int .i64 ((rd_T34 l0 a1).f1), .int .i64 ((rd_T34 l0 a1).f2), .int .i64 ((rd_T34 l0 a1).f3), .int .i64 ((rd_T34 l0 a1).f4), .int .i64 0]) ?_ 5 _ rfl; (with_reducible repeat (first | refine blk_drewN ?_ _ | refine blk_drew ?_ | refine blk_alloc ?_ _)); refine blk_put (cs := #[.int .i64 ((rd_T34 l0 a1).f0), .int .i64 ((rd_T34 l0 a1).f1), .int .i64 ((rd_T34 l0 a1).f2), .int .i64 ((rd_T34 l0 a1).f3), .int .i64 0, .int .i64 0]) ?_ 4 _ rfl; (with_reducible repeat (first | refine blk_drewN ?_ _ | refine blk_drew ?_ | refine blk_alloc ?_ _)); refine blk_put (cs := #[.int .i64 ((rd_T34 l0 a1).f0), .int .i64 ((rd_T34 l0 a1).f1), .int .i64 ((rd_T34 l0 a1).f2), .int .i64 0, .int .i64 0, .int .i64 0]) ?_ 3 _ rfl; (with_reducible repeat (first | refine blk_drewN ?_ _ | refine blk_drew ?_ | refine blk_alloc ?_ _)); refine blk_put (cs := #[.int .i64 ((rd_T34 l0 a1).f0), .int .i64 ((rd_T34 l0 a1).f1), .int .i64 0, .int .i64 0, .int .i64 0, .int .i64 0]) ?_ 2 _ rfl; (with_reducible repeat (first | refine blk_drewN ?_ _ | refine blk_drew ?_ | refine blk_alloc ?_ _)); refine blk_put (cs := #[.int .i64 ((rd_T34 l0 a1).f0), .int .i64 0, .int .i64 0, .int .i64 0, .int .i64 0, .int .i64 0]) ?_ 1 _ rfl; (with_reducible repeat (first | refine blk_drewN ?_ _ | refine blk_drew ?_ | refine blk_alloc ?_ _)); refine blk_put (cs := #[.int .i64 0, .int .i64 0, .int .i64 0, .int .i64 0, .int .i64 0, .int .i64 0]) ?_ 0 _ rfl; (with_reducible repeat (first | refine blk_drewN ?_ _ | refine blk_drew ?_ | refine blk_alloc ?_ _)); exact BK541.out) hb); have n1_ := Am (below_step (by repeat (first | (with_reducible first | exact HB.out | apply ba | apply bn | apply bd | refine below_set ?_ GE541.out) | exact HB.out)) hb); clear BK541; clear HB; have BK541 := n0_; have HB := n1_; clear n0_ n1_; (try clear hb); (try clear hb2); (try clear hk); (try clear hi)))
    go_ret
    exact ⟨by first | rfl | (simp [errW_none, errW_some] <;> rfl) | (simp [*, errW_none, errW_some] <;> rfl), by repeat (first | (with_reducible first | exact HB.out | apply ba | apply bn | apply bd | refine below_set ?_ GE541.out) | exact HB.out)⟩
   ·replace c6 := Bool.eq_false_iff.mpr c6
    subst c6
    have H1 : (if ((rd_T34 l0 a1).f1) = 1 then (if ((rd_T34 l0 a1).f2) = 1 then (if 0 ≤ ((rd_T34 l0 a1).f5) then (if ((rd_T34 l0 a1).f5) < (l0.length : Int) then ((larchref16_end.f ((rd_T34 l0 ((rd_T34 l0 a1).f5)).f0) ((rd_T34 l0 ((rd_T34 l0 a1).f5)).f1) ((rd_T34 l0 ((rd_T34 l0 a1).f5)).f2) ((rd_T34 l0 ((rd_T34 l0 a1).f5)).f3) ((rd_T34 l0 ((rd_T34 l0 a1).f5)).f4) ((rd_T34 l0 ((rd_T34 l0 a1).f5)).f5)).bind fun t544 => (some t544)) else (none)) else (none)) else (some false)) else (some false)) = some r := by rw [if_neg (show ¬ (false = true) by decide)] at H; exact H
    clear H
    have H := H1
    clear H1
    by_cases c10 : ((rd_T34 l0 a1).f1) = 1
    ·rw [if_pos c10] at H
     have c10b0 : (((rd_T34 l0 a1).f1) == 1) = true := beq_iff_eq.mpr c10
     have c10b1 : (((rd_T34 l0 a1).f1) != 1) = false := bne_eq_false_iff_eq.mpr c10
     clear c10
     by_cases c11 : ((rd_T34 l0 a1).f2) = 1
     ·rw [if_pos c11] at H
      have c11b0 : (((rd_T34 l0 a1).f2) == 1) = true := beq_iff_eq.mpr c11
      have c11b1 : (((rd_T34 l0 a1).f2) != 1) = false := bne_eq_false_iff_eq.mpr c11
      clear c11
      by_cases c12 : 0 ≤ ((rd_T34 l0 a1).f5)
      ·rw [if_pos c12] at H
       have c12b0 : decide (0 ≤ ((rd_T34 l0 a1).f5)) = true := decide_eq_true c12
       clear c12
       by_cases c13 : ((rd_T34 l0 a1).f5) < (l0.length : Int)
       ·rw [if_pos c13] at H
        have c13b0 : decide (((rd_T34 l0 a1).f5) < (l0.length : Int)) = true := decide_eq_true c13
        clear c13
        replace H := Option.bind_eq_some_iff.mp H
        obtain ⟨t544, A140, H⟩ := H
        replace H : (some t544) = some r := H
        have A14 := Am A140
        clear A140
        obtain rfl := Option.some.inj H
        have p540 : 0 ≤ (a1 : Int) := of_decide_eq_true (by first | (with_reducible assumption) | assumption)
        have q540 : a1 < (l0.length : Int) := of_decide_eq_true (by first | (with_reducible assumption) | assumption)
        obtain ⟨ad540, e540, hx540_0, hx540_1, hx540_2, hx540_3, hx540_4, hx540_5⟩ := at_T34 HR0.out a1 p540 q540
        cases e540
        replace p540 := eq_true p540
        replace q540 := eq_true q540
        go_enter Try.func97, Try.ntmps97
        go_wp2_with (first | ((with_reducible refine gate_dst (N := 5) rfl ?_); refine box_event ?hg (N := 5) ?hd (cs := #[.int .i64 0, .int .i64 0, .int .i64 0, .int .i64 0, .int .i64 0, .int .i64 0]) (t := 34) ?hr ?_; (case hd => rfl); (case hg => rfl); (case hr => first | (go_simp; done) | (go_simp; rfl)); intro gb541 hg w15 hbox hb; have n0_ := Am (below_step (by repeat (first | (with_reducible first | exact HB.out | apply ba | apply bn | apply bd) | exact HB.out)) hb); have n1_ := Am (hbox); have n2_ := Am ((by rw [hg]; exact (below_size (by repeat (first | (with_reducible first | exact HB.out | apply ba | apply bn | apply bd) | exact HB.out))) : w.heap.size ≤ gb541)); have n3_ := Am ((by rw [hg]; exact (below_size (by repeat (first | (with_reducible first | exact HB.out | apply ba | apply bn | apply bd) | exact HB.out))) : w.heap.size ≤ gb541)); clear HB; have HB := n0_; have BK541 := n1_; have GW541 := n2_; have GE541 := n3_; clear n0_ n1_ n2_ n3_; clear hb hbox hg; have hcz16_0 : w15.cell? ⟨gb541, 0, none⟩ = some (.int .i64 0) := (blk_cell BK541.out 0).trans rfl; have hcz16_1 : w15.cell? ⟨gb541, 1, none⟩ = some (.int .i64 0) := (blk_cell BK541.out 1).trans rfl; have hcz16_2 : w15.cell? ⟨gb541, 2, none⟩ = some (.int .i64 0) := (blk_cell BK541.out 2).trans rfl; have hcz16_3 : w15.cell? ⟨gb541, 3, none⟩ = some (.int .i64 0) := (blk_cell BK541.out 3).trans rfl; have hcz16_4 : w15.cell? ⟨gb541, 4, none⟩ = some (.int .i64 0) := (blk_cell BK541.out 4).trans rfl; have hcz16_5 : w15.cell? ⟨gb541, 5, none⟩ = some (.int .i64 0) := (blk_cell BK541.out 5).trans rfl; have hfz16_0 := blk_frozen BK541.out 0; have hfz16_1 := blk_frozen BK541.out 1; have hfz16_2 := blk_frozen BK541.out 2; have hfz16_3 := blk_frozen BK541.out 3; have hfz16_4 := blk_frozen BK541.out 4; have hfz16_5 := blk_frozen BK541.out 5) | ((with_reducible refine gate_callee (f := 100) rfl ?_); refine goesL_ (some 11) rfl rfl Try.func100 (by kernel_rfl) rfl #[.agg #[.int .i64 ((rd_T34 l0 a1).f0), .int .i64 ((rd_T34 l0 a1).f1), .int .i64 ((rd_T34 l0 a1).f2), .int .i64 ((rd_T34 l0 a1).f3), .int .i64 ((rd_T34 l0 a1).f4), .int .i64 ((rd_T34 l0 a1).f5)]] rfl (by (try simp only [List.map_toArray, List.map_cons, List.map_nil]); first | done | rfl | (simp only [List.length_drop, List.length_take]; rfl)) ?_; (with_reducible refine (larchref16_Leaf.calls ((rd_T34 l0 a1).f0) ((rd_T34 l0 a1).f1) ((rd_T34 l0 a1).f2) ((rd_T34 l0 a1).f3) ((rd_T34 l0 a1).f4) ((rd_T34 l0 a1).f5) false _ A5.out).mono ?_); rintro e w17 ⟨rfl, hb⟩; refine ⟨_, rfl, ?_⟩; have n0_ := Am (blk_below (g := gb541) (o := .cells #[.int .i64 ((rd_T34 l0 a1).f0), .int .i64 ((rd_T34 l0 a1).f1), .int .i64 ((rd_T34 l0 a1).f2), .int .i64 ((rd_T34 l0 a1).f3), .int .i64 ((rd_T34 l0 a1).f4), .int .i64 ((rd_T34 l0 a1).f5)] 34 (0, 0)) (by (with_reducible repeat (first | refine blk_drewN ?_ _ | refine blk_drew ?_ | refine blk_alloc ?_ _)); refine blk_put (cs := #[.int .i64 ((rd_T34 l0 a1).f0), .int .i64 ((rd_T34 l0 a1).f1), .int .i64 ((rd_T34 l0 a1).f2), .int .i64 ((rd_T34 l0 a1).f3), .int .i64 ((rd_T34 l0 a1).f4), .int .i64 0]) ?_ 5 _ rfl; (with_reducible repeat (first | refine blk_drewN ?_ _ | refine blk_drew ?_ | refine blk_alloc ?_ _)); refine blk_put (cs := #[.int .i64 ((rd_T34 l0 a1).f0), .int .i64 ((rd_T34 l0 a1).f1), .int .i64 ((rd_T34 l0 a1).f2), .int .i64 ((rd_T34 l0 a1).f3), .int .i64 0, .int .i64 0]) ?_ 4 _ rfl; (with_reducible repeat (first | refine blk_drewN ?_ _ | refine blk_drew ?_ | refine blk_alloc ?_ _)); refine blk_put (cs := #[.int .i64 ((rd_T34 l0 a1).f0), .int .i64 ((rd_T34 l0 a1).f1), .int .i64 ((rd_T34 l0 a1).f2), .int .i64 0, .int .i64 0, .int .i64 0]) ?_ 3 _ rfl; (with_reducible repeat (first | refine blk_drewN ?_ _ | refine blk_drew ?_ | refine blk_alloc ?_ _)); refine blk_put (cs := #[.int .i64 ((rd_T34 l0 a1).f0), .int .i64 ((rd_T34 l0 a1).f1), .int .i64 0, .int .i64 0, .int .i64 0, .int .i64 0]) ?_ 2 _ rfl; (with_reducible repeat (first | refine blk_drewN ?_ _ | refine blk_drew ?_ | refine blk_alloc ?_ _)); refine blk_put (cs := #[.int .i64 ((rd_T34 l0 a1).f0), .int .i64 0, .int .i64 0, .int .i64 0, .int .i64 0, .int .i64 0]) ?_ 1 _ rfl; (with_reducible repeat (first | refine blk_drewN ?_ _ | refine blk_drew ?_ | refine blk_alloc ?_ _)); refine blk_put (cs := #[.int .i64 0, .int .i64 0, .int .i64 0, .int .i64 0, .int .i64 0, .int .i64 0]) ?_ 0 _ rfl; (with_reducible repeat (first | refine blk_drewN ?_ _ | refine blk_drew ?_ | refine blk_alloc ?_ _)); exact BK541.out) hb); have n1_ := Am (below_step (by repeat (first | (with_reducible first | exact HB.out | apply ba | apply bn | apply bd | refine below_set ?_ GE541.out) | exact HB.out)) hb); clear BK541; clear HB; have BK541 := n0_; have HB := n1_; clear n0_ n1_; (try clear hb); (try clear hb2); (try clear hk); (try clear hi); have hcz18_0 : w17.cell? ⟨gb541, 0, none⟩ = some (.int .i64 ((rd_T34 l0 a1).f0)) := (blk_cell BK541.out 0).trans rfl; have hcz18_1 : w17.cell? ⟨gb541, 1, none⟩ = some (.int .i64 ((rd_T34 l0 a1).f1)) := (blk_cell BK541.out 1).trans rfl; have hcz18_2 : w17.cell? ⟨gb541, 2, none⟩ = some (.int .i64 ((rd_T34 l0 a1).f2)) := (blk_cell BK541.out 2).trans rfl; have hcz18_3 : w17.cell? ⟨gb541, 3, none⟩ = some (.int .i64 ((rd_T34 l0 a1).f3)) := (blk_cell BK541.out 3).trans rfl; have hcz18_4 : w17.cell? ⟨gb541, 4, none⟩ = some (.int .i64 ((rd_T34 l0 a1).f4)) := (blk_cell BK541.out 4).trans rfl; have hcz18_5 : w17.cell? ⟨gb541, 5, none⟩ = some (.int .i64 ((rd_T34 l0 a1).f5)) := (blk_cell BK541.out 5).trans rfl; have hfz18_0 := blk_frozen BK541.out 0; have hfz18_1 := blk_frozen BK541.out 1; have hfz18_2 := blk_frozen BK541.out 2; have hfz18_3 := blk_frozen BK541.out 3; have hfz18_4 := blk_frozen BK541.out 4; have hfz18_5 := blk_frozen BK541.out 5; have p543 : 0 ≤ (((rd_T34 l0 a1).f5) : Int) := of_decide_eq_true (by first | (with_reducible assumption) | assumption); have q543 : ((rd_T34 l0 a1).f5) < (l0.length : Int) := of_decide_eq_true (by first | (with_reducible assumption) | assumption); obtain ⟨ad543, e543, hx543_0, hx543_1, hx543_2, hx543_3, hx543_4, hx543_5⟩ := at_T34 HR0.out ((rd_T34 l0 a1).f5) p543 q543; obtain rfl : ad540 = ad543 := (by injection e543); replace hx543_0 := (HB.out.cell (blt w _ hx543_0)).trans hx543_0; replace hx543_1 := (HB.out.cell (blt w _ hx543_1)).trans hx543_1; replace hx543_2 := (HB.out.cell (blt w _ hx543_2)).trans hx543_2; replace hx543_3 := (HB.out.cell (blt w _ hx543_3)).trans hx543_3; replace hx543_4 := (HB.out.cell (blt w _ hx543_4)).trans hx543_4; replace hx543_5 := (HB.out.cell (blt w _ hx543_5)).trans hx543_5; replace p543 := eq_true p543; replace q543 := eq_true q543) | (go_at_call 98; (with_reducible refine (larchref16_end.calls ((rd_T34 l0 ((rd_T34 l0 a1).f5)).f0) ((rd_T34 l0 ((rd_T34 l0 a1).f5)).f1) ((rd_T34 l0 ((rd_T34 l0 a1).f5)).f2) ((rd_T34 l0 ((rd_T34 l0 a1).f5)).f3) ((rd_T34 l0 ((rd_T34 l0 a1).f5)).f4) ((rd_T34 l0 ((rd_T34 l0 a1).f5)).f5) t544 _ A14.out).mono ?_); rintro e w19 ⟨rfl, hb⟩; have n0_ := Am (blk_below (g := gb541) (o := .cells #[.int .i64 ((rd_T34 l0 a1).f0), .int .i64 ((rd_T34 l0 a1).f1), .int .i64 ((rd_T34 l0 a1).f2), .int .i64 ((rd_T34 l0 a1).f3), .int .i64 ((rd_T34 l0 a1).f4), .int .i64 ((rd_T34 l0 a1).f5)] 34 (0, 0)) (by (with_reducible repeat (first | refine blk_drewN ?_ _ | refine blk_drew ?_ | refine blk_alloc ?_ _)); exact BK541.out) hb); have n1_ := Am (below_step (by repeat (first | (with_reducible first | exact HB.out | apply ba | apply bn | apply bd | refine below_set ?_ GE541.out) | exact HB.out)) hb); clear BK541; clear HB; have BK541 := n0_; have HB := n1_; clear n0_ n1_; (try clear hb); (try clear hb2); (try clear hk); (try clear hi)))
        go_ret
        exact ⟨by first | rfl | (simp [errW_none, errW_some] <;> rfl) | (simp [*, errW_none, errW_some] <;> rfl), by repeat (first | (with_reducible first | exact HB.out | apply ba | apply bn | apply bd | refine below_set ?_ GE541.out) | exact HB.out)⟩
       ·rw [if_neg c13] at H
        exact absurd H (by simp)
      ·rw [if_neg c12] at H
       exact absurd H (by simp)
     ·rw [if_neg c11] at H
      have c11b0 : (((rd_T34 l0 a1).f2) == 1) = false := beq_eq_false_iff_ne.mpr c11
      have c11b1 : (((rd_T34 l0 a1).f2) != 1) = true := bne_iff_ne.mpr c11
      obtain rfl := Option.some.inj H
      have p540 : 0 ≤ (a1 : Int) := of_decide_eq_true (by first | (with_reducible assumption) | assumption)
      have q540 : a1 < (l0.length : Int) := of_decide_eq_true (by first | (with_reducible assumption) | assumption)
      obtain ⟨ad540, e540, hx540_0, hx540_1, hx540_2, hx540_3, hx540_4, hx540_5⟩ := at_T34 HR0.out a1 p540 q540
      cases e540
      replace p540 := eq_true p540
      replace q540 := eq_true q540
      go_enter Try.func97, Try.ntmps97
      go_wp2_with (first | ((with_reducible refine gate_dst (N := 5) rfl ?_); refine box_event ?hg (N := 5) ?hd (cs := #[.int .i64 0, .int .i64 0, .int .i64 0, .int .i64 0, .int .i64 0, .int .i64 0]) (t := 34) ?hr ?_; (case hd => rfl); (case hg => rfl); (case hr => first | (go_simp; done) | (go_simp; rfl)); intro gb541 hg w20 hbox hb; have n0_ := Am (below_step (by repeat (first | (with_reducible first | exact HB.out | apply ba | apply bn | apply bd) | exact HB.out)) hb); have n1_ := Am (hbox); have n2_ := Am ((by rw [hg]; exact (below_size (by repeat (first | (with_reducible first | exact HB.out | apply ba | apply bn | apply bd) | exact HB.out))) : w.heap.size ≤ gb541)); have n3_ := Am ((by rw [hg]; exact (below_size (by repeat (first | (with_reducible first | exact HB.out | apply ba | apply bn | apply bd) | exact HB.out))) : w.heap.size ≤ gb541)); clear HB; have HB := n0_; have BK541 := n1_; have GW541 := n2_; have GE541 := n3_; clear n0_ n1_ n2_ n3_; clear hb hbox hg; have hcz21_0 : w20.cell? ⟨gb541, 0, none⟩ = some (.int .i64 0) := (blk_cell BK541.out 0).trans rfl; have hcz21_1 : w20.cell? ⟨gb541, 1, none⟩ = some (.int .i64 0) := (blk_cell BK541.out 1).trans rfl; have hcz21_2 : w20.cell? ⟨gb541, 2, none⟩ = some (.int .i64 0) := (blk_cell BK541.out 2).trans rfl; have hcz21_3 : w20.cell? ⟨gb541, 3, none⟩ = some (.int .i64 0) := (blk_cell BK541.out 3).trans rfl; have hcz21_4 : w20.cell? ⟨gb541, 4, none⟩ = some (.int .i64 0) := (blk_cell BK541.out 4).trans rfl; have hcz21_5 : w20.cell? ⟨gb541, 5, none⟩ = some (.int .i64 0) := (blk_cell BK541.out 5).trans rfl; have hfz21_0 := blk_frozen BK541.out 0; have hfz21_1 := blk_frozen BK541.out 1; have hfz21_2 := blk_frozen BK541.out 2; have hfz21_3 := blk_frozen BK541.out 3; have hfz21_4 := blk_frozen BK541.out 4; have hfz21_5 := blk_frozen BK541.out 5) | ((with_reducible refine gate_callee (f := 100) rfl ?_); refine goesL_ (some 11) rfl rfl Try.func100 (by kernel_rfl) rfl #[.agg #[.int .i64 ((rd_T34 l0 a1).f0), .int .i64 ((rd_T34 l0 a1).f1), .int .i64 ((rd_T34 l0 a1).f2), .int .i64 ((rd_T34 l0 a1).f3), .int .i64 ((rd_T34 l0 a1).f4), .int .i64 ((rd_T34 l0 a1).f5)]] rfl (by (try simp only [List.map_toArray, List.map_cons, List.map_nil]); first | done | rfl | (simp only [List.length_drop, List.length_take]; rfl)) ?_; (with_reducible refine (larchref16_Leaf.calls ((rd_T34 l0 a1).f0) ((rd_T34 l0 a1).f1) ((rd_T34 l0 a1).f2) ((rd_T34 l0 a1).f3) ((rd_T34 l0 a1).f4) ((rd_T34 l0 a1).f5) false _ A5.out).mono ?_); rintro e w22 ⟨rfl, hb⟩; refine ⟨_, rfl, ?_⟩; have n0_ := Am (blk_below (g := gb541) (o := .cells #[.int .i64 ((rd_T34 l0 a1).f0), .int .i64 ((rd_T34 l0 a1).f1), .int .i64 ((rd_T34 l0 a1).f2), .int .i64 ((rd_T34 l0 a1).f3), .int .i64 ((rd_T34 l0 a1).f4), .int .i64 ((rd_T34 l0 a1).f5)] 34 (0, 0)) (by (with_reducible repeat (first | refine blk_drewN ?_ _ | refine blk_drew ?_ | refine blk_alloc ?_ _)); refine blk_put (cs := #[.int .i64 ((rd_T34 l0 a1).f0), .int .i64 ((rd_T34 l0 a1).f1), .int .i64 ((rd_T34 l0 a1).f2), .int .i64 ((rd_T34 l0 a1).f3), .int .i64 ((rd_T34 l0 a1).f4), .int .i64 0]) ?_ 5 _ rfl; (with_reducible repeat (first | refine blk_drewN ?_ _ | refine blk_drew ?_ | refine blk_alloc ?_ _)); refine blk_put (cs := #[.int .i64 ((rd_T34 l0 a1).f0), .int .i64 ((rd_T34 l0 a1).f1), .int .i64 ((rd_T34 l0 a1).f2), .int .i64 ((rd_T34 l0 a1).f3), .int .i64 0, .int .i64 0]) ?_ 4 _ rfl; (with_reducible repeat (first | refine blk_drewN ?_ _ | refine blk_drew ?_ | refine blk_alloc ?_ _)); refine blk_put (cs := #[.int .i64 ((rd_T34 l0 a1).f0), .int .i64 ((rd_T34 l0 a1).f1), .int .i64 ((rd_T34 l0 a1).f2), .int .i64 0, .int .i64 0, .int .i64 0]) ?_ 3 _ rfl; (with_reducible repeat (first | refine blk_drewN ?_ _ | refine blk_drew ?_ | refine blk_alloc ?_ _)); refine blk_put (cs := #[.int .i64 ((rd_T34 l0 a1).f0), .int .i64 ((rd_T34 l0 a1).f1), .int .i64 0, .int .i64 0, .int .i64 0, .int .i64 0]) ?_ 2 _ rfl; (with_reducible repeat (first | refine blk_drewN ?_ _ | refine blk_drew ?_ | refine blk_alloc ?_ _)); refine blk_put (cs := #[.int .i64 ((rd_T34 l0 a1).f0), .int .i64 0, .int .i64 0, .int .i64 0, .int .i64 0, .int .i64 0]) ?_ 1 _ rfl; (with_reducible repeat (first | refine blk_drewN ?_ _ | refine blk_drew ?_ | refine blk_alloc ?_ _)); refine blk_put (cs := #[.int .i64 0, .int .i64 0, .int .i64 0, .int .i64 0, .int .i64 0, .int .i64 0]) ?_ 0 _ rfl; (with_reducible repeat (first | refine blk_drewN ?_ _ | refine blk_drew ?_ | refine blk_alloc ?_ _)); exact BK541.out) hb); have n1_ := Am (below_step (by repeat (first | (with_reducible first | exact HB.out | apply ba | apply bn | apply bd | refine below_set ?_ GE541.out) | exact HB.out)) hb); clear BK541; clear HB; have BK541 := n0_; have HB := n1_; clear n0_ n1_; (try clear hb); (try clear hb2); (try clear hk); (try clear hi); have hcz23_0 : w22.cell? ⟨gb541, 0, none⟩ = some (.int .i64 ((rd_T34 l0 a1).f0)) := (blk_cell BK541.out 0).trans rfl; have hcz23_1 : w22.cell? ⟨gb541, 1, none⟩ = some (.int .i64 ((rd_T34 l0 a1).f1)) := (blk_cell BK541.out 1).trans rfl; have hcz23_2 : w22.cell? ⟨gb541, 2, none⟩ = some (.int .i64 ((rd_T34 l0 a1).f2)) := (blk_cell BK541.out 2).trans rfl; have hcz23_3 : w22.cell? ⟨gb541, 3, none⟩ = some (.int .i64 ((rd_T34 l0 a1).f3)) := (blk_cell BK541.out 3).trans rfl; have hcz23_4 : w22.cell? ⟨gb541, 4, none⟩ = some (.int .i64 ((rd_T34 l0 a1).f4)) := (blk_cell BK541.out 4).trans rfl; have hcz23_5 : w22.cell? ⟨gb541, 5, none⟩ = some (.int .i64 ((rd_T34 l0 a1).f5)) := (blk_cell BK541.out 5).trans rfl; have hfz23_0 := blk_frozen BK541.out 0; have hfz23_1 := blk_frozen BK541.out 1; have hfz23_2 := blk_frozen BK541.out 2; have hfz23_3 := blk_frozen BK541.out 3; have hfz23_4 := blk_frozen BK541.out 4; have hfz23_5 := blk_frozen BK541.out 5))
      go_ret
      exact ⟨by first | rfl | (simp [errW_none, errW_some] <;> rfl) | (simp [*, errW_none, errW_some] <;> rfl), by repeat (first | (with_reducible first | exact HB.out | apply ba | apply bn | apply bd | refine below_set ?_ GE541.out) | exact HB.out)⟩
    ·rw [if_neg c10] at H
     have c10b0 : (((rd_T34 l0 a1).f1) == 1) = false := beq_eq_false_iff_ne.mpr c10
     have c10b1 : (((rd_T34 l0 a1).f1) != 1) = true := bne_iff_ne.mpr c10
     obtain rfl := Option.some.inj H
     have p540 : 0 ≤ (a1 : Int) := of_decide_eq_true (by first | (with_reducible assumption) | assumption)
     have q540 : a1 < (l0.length : Int) := of_decide_eq_true (by first | (with_reducible assumption) | assumption)
     obtain ⟨ad540, e540, hx540_0, hx540_1, hx540_2, hx540_3, hx540_4, hx540_5⟩ := at_T34 HR0.out a1 p540 q540
     cases e540
     replace p540 := eq_true p540
     replace q540 := eq_true q540
     go_enter Try.func97, Try.ntmps97
     go_wp2_with (first | ((with_reducible refine gate_dst (N := 5) rfl ?_); refine box_event ?hg (N := 5) ?hd (cs := #[.int .i64 0, .int .i64 0, .int .i64 0, .int .i64 0, .int .i64 0, .int .i64 0]) (t := 34) ?hr ?_; (case hd => rfl); (case hg => rfl); (case hr => first | (go_simp; done) | (go_simp; rfl)); intro gb541 hg w24 hbox hb; have n0_ := Am (below_step (by repeat (first | (with_reducible first | exact HB.out | apply ba | apply bn | apply bd) | exact HB.out)) hb); have n1_ := Am (hbox); have n2_ := Am ((by rw [hg]; exact (below_size (by repeat (first | (with_reducible first | exact HB.out | apply ba | apply bn | apply bd) | exact HB.out))) : w.heap.size ≤ gb541)); have n3_ := Am ((by rw [hg]; exact (below_size (by repeat (first | (with_reducible first | exact HB.out | apply ba | apply bn | apply bd) | exact HB.out))) : w.heap.size ≤ gb541)); clear HB; have HB := n0_; have BK541 := n1_; have GW541 := n2_; have GE541 := n3_; clear n0_ n1_ n2_ n3_; clear hb hbox hg; have hcz25_0 : w24.cell? ⟨gb541, 0, none⟩ = some (.int .i64 0) := (blk_cell BK541.out 0).trans rfl; have hcz25_1 : w24.cell? ⟨gb541, 1, none⟩ = some (.int .i64 0) := (blk_cell BK541.out 1).trans rfl; have hcz25_2 : w24.cell? ⟨gb541, 2, none⟩ = some (.int .i64 0) := (blk_cell BK541.out 2).trans rfl; have hcz25_3 : w24.cell? ⟨gb541, 3, none⟩ = some (.int .i64 0) := (blk_cell BK541.out 3).trans rfl; have hcz25_4 : w24.cell? ⟨gb541, 4, none⟩ = some (.int .i64 0) := (blk_cell BK541.out 4).trans rfl; have hcz25_5 : w24.cell? ⟨gb541, 5, none⟩ = some (.int .i64 0) := (blk_cell BK541.out 5).trans rfl; have hfz25_0 := blk_frozen BK541.out 0; have hfz25_1 := blk_frozen BK541.out 1; have hfz25_2 := blk_frozen BK541.out 2; have hfz25_3 := blk_frozen BK541.out 3; have hfz25_4 := blk_frozen BK541.out 4; have hfz25_5 := blk_frozen BK541.out 5) | ((with_reducible refine gate_callee (f := 100) rfl ?_); refine goesL_ (some 11) rfl rfl Try.func100 (by kernel_rfl) rfl #[.agg #[.int .i64 ((rd_T34 l0 a1).f0), .int .i64 ((rd_T34 l0 a1).f1), .int .i64 ((rd_T34 l0 a1).f2), .int .i64 ((rd_T34 l0 a1).f3), .int .i64 ((rd_T34 l0 a1).f4), .int .i64 ((rd_T34 l0 a1).f5)]] rfl (by (try simp only [List.map_toArray, List.map_cons, List.map_nil]); first | done | rfl | (simp only [List.length_drop, List.length_take]; rfl)) ?_; (with_reducible refine (larchref16_Leaf.calls ((rd_T34 l0 a1).f0) ((rd_T34 l0 a1).f1) ((rd_T34 l0 a1).f2) ((rd_T34 l0 a1).f3) ((rd_T34 l0 a1).f4) ((rd_T34 l0 a1).f5) false _ A5.out).mono ?_); rintro e w26 ⟨rfl, hb⟩; refine ⟨_, rfl, ?_⟩; have n0_ := Am (blk_below (g := gb541) (o := .cells #[.int .i64 ((rd_T34 l0 a1).f0), .int .i64 ((rd_T34 l0 a1).f1), .int .i64 ((rd_T34 l0 a1).f2), .int .i64 ((rd_T34 l0 a1).f3), .int .i64 ((rd_T34 l0 a1).f4), .int .i64 ((rd_T34 l0 a1).f5)] 34 (0, 0)) (by (with_reducible repeat (first | refine blk_drewN ?_ _ | refine blk_drew ?_ | refine blk_alloc ?_ _)); refine blk_put (cs := #[.int .i64 ((rd_T34 l0 a1).f0), .int .i64 ((rd_T34 l0 a1).f1), .int .i64 ((rd_T34 l0 a1).f2), .int .i64 ((rd_T34 l0 a1).f3), .int .i64 ((rd_T34 l0 a1).f4), .int .i64 0]) ?_ 5 _ rfl; (with_reducible repeat (first | refine blk_drewN ?_ _ | refine blk_drew ?_ | refine blk_alloc ?_ _)); refine blk_put (cs := #[.int .i64 ((rd_T34 l0 a1).f0), .int .i64 ((rd_T34 l0 a1).f1), .int .i64 ((rd_T34 l0 a1).f2), .int .i64 ((rd_T34 l0 a1).f3), .int .i64 0, .int .i64 0]) ?_ 4 _ rfl; (with_reducible repeat (first | refine blk_drewN ?_ _ | refine blk_drew ?_ | refine blk_alloc ?_ _)); refine blk_put (cs := #[.int .i64 ((rd_T34 l0 a1).f0), .int .i64 ((rd_T34 l0 a1).f1), .int .i64 ((rd_T34 l0 a1).f2), .int .i64 0, .int .i64 0, .int .i64 0]) ?_ 3 _ rfl; (with_reducible repeat (first | refine blk_drewN ?_ _ | refine blk_drew ?_ | refine blk_alloc ?_ _)); refine blk_put (cs := #[.int .i64 ((rd_T34 l0 a1).f0), .int .i64 ((rd_T34 l0 a1).f1), .int .i64 0, .int .i64 0, .int .i64 0, .int .i64 0]) ?_ 2 _ rfl; (with_reducible repeat (first | refine blk_drewN ?_ _ | refine blk_drew ?_ | refine blk_alloc ?_ _)); refine blk_put (cs := #[.int .i64 ((rd_T34 l0 a1).f0), .int .i64 0, .int .i64 0, .int .i64 0, .int .i64 0, .int .i64 0]) ?_ 1 _ rfl; (with_reducible repeat (first | refine blk_drewN ?_ _ | refine blk_drew ?_ | refine blk_alloc ?_ _)); refine blk_put (cs := #[.int .i64 0, .int .i64 0, .int .i64 0, .int .i64 0, .int .i64 0, .int .i64 0]) ?_ 0 _ rfl; (with_reducible repeat (first | refine blk_drewN ?_ _ | refine blk_drew ?_ | refine blk_alloc ?_ _)); exact BK541.out) hb); have n1_ := Am (below_step (by repeat (first | (with_reducible first | exact HB.out | apply ba | apply bn | apply bd | refine below_set ?_ GE541.out) | exact HB.out)) hb); clear BK541; clear HB; have BK541 := n0_; have HB := n1_; clear n0_ n1_; (try clear hb); (try clear hb2); (try clear hk); (try clear hi); have hcz27_0 : w26.cell? ⟨gb541, 0, none⟩ = some (.int .i64 ((rd_T34 l0 a1).f0)) := (blk_cell BK541.out 0).trans rfl; have hcz27_1 : w26.cell? ⟨gb541, 1, none⟩ = some (.int .i64 ((rd_T34 l0 a1).f1)) := (blk_cell BK541.out 1).trans rfl; have hcz27_2 : w26.cell? ⟨gb541, 2, none⟩ = some (.int .i64 ((rd_T34 l0 a1).f2)) := (blk_cell BK541.out 2).trans rfl; have hcz27_3 : w26.cell? ⟨gb541, 3, none⟩ = some (.int .i64 ((rd_T34 l0 a1).f3)) := (blk_cell BK541.out 3).trans rfl; have hcz27_4 : w26.cell? ⟨gb541, 4, none⟩ = some (.int .i64 ((rd_T34 l0 a1).f4)) := (blk_cell BK541.out 4).trans rfl; have hcz27_5 : w26.cell? ⟨gb541, 5, none⟩ = some (.int .i64 ((rd_T34 l0 a1).f5)) := (blk_cell BK541.out 5).trans rfl; have hfz27_0 := blk_frozen BK541.out 0; have hfz27_1 := blk_frozen BK541.out 1; have hfz27_2 := blk_frozen BK541.out 2; have hfz27_3 := blk_frozen BK541.out 3; have hfz27_4 := blk_frozen BK541.out 4; have hfz27_5 := blk_frozen BK541.out 5))
     go_ret
     exact ⟨by first | rfl | (simp [errW_none, errW_some] <;> rfl) | (simp [*, errW_none, errW_some] <;> rfl), by repeat (first | (with_reducible first | exact HB.out | apply ba | apply bn | apply bd | refine below_set ?_ GE541.out) | exact HB.out)⟩
  ·rw [if_neg c4] at H
   exact absurd H (by simp)
 ·rw [if_neg c3] at H
  exact absurd H (by simp)
def larchref16_Rows.l0 : Nat → List (S34) → List Int → List Int → Option (List Int)
 | 0, _, _, _ => none
 | k + 1, x0, x5, x6 => if (x6.length : Int) > 0 then (if 0 ≤ (wrap64 ((x6.length : Int) - 1)) then (if (wrap64 ((x6.length : Int) - 1)) < (x6.length : Int) then (if (wrap64 ((x6.length : Int) - 1)) ≤ (x6.length : Int) then ((some (x6.take ((wrap64 ((x6.length : Int) - 1)) : Int).toNat : List Int)).bind fun y549 => (if x5.length < 17592186044416 then ((some (x5 ++ [rd x6 (wrap64 ((x6.length : Int) - 1))] : List Int)).bind fun y552 => (if 0 ≤ (rd x6 (wrap64 ((x6.length : Int) - 1))) then (if (rd x6 (wrap64 ((x6.length : Int) - 1))) < (x0.length : Int) then ((larchref16_Leaf.f ((rd_T34 x0 (rd x6 (wrap64 ((x6.length : Int) - 1)))).f0) ((rd_T34 x0 (rd x6 (wrap64 ((x6.length : Int) - 1)))).f1) ((rd_T34 x0 (rd x6 (wrap64 ((x6.length : Int) - 1)))).f2) ((rd_T34 x0 (rd x6 (wrap64 ((x6.length : Int) - 1)))).f3) ((rd_T34 x0 (rd x6 (wrap64 ((x6.length : Int) - 1)))).f4) ((rd_T34 x0 (rd x6 (wrap64 ((x6.length : Int) - 1)))).f5)).bind fun t556 => (if t556 = true then (larchref16_Rows.l0 k x0 y552 y549) else ((some (([(rd_T34 x0 (rd x6 (wrap64 ((x6.length : Int) - 1)))).f5, (rd_T34 x0 (rd x6 (wrap64 ((x6.length : Int) - 1)))).f4] : List Int) : List Int)).bind fun y559 => (if y549.length + y559.length < 17592186044416 then (larchref16_Rows.l0 k x0 y552 (y549 ++ y559)) else (none))))) else (none)) else (none))) else (none))) else (none)) else (none)) else (none)) else (some x5)
def larchref16_Rows.f (k : Nat) (l0 : List (S34)) (a1 : Int) : Option (List Int) := larchref16_Rows.l0 k l0 ([] : List Int) (([a1] : List Int))
theorem larchref16_Rows.mono_l : ∀ k, (∀ y0 y1 y2, LeO (larchref16_Rows.l0 k y0 y1 y2) (larchref16_Rows.l0 (k + 1) y0 y1 y2))
 | 0 => fun _ _ _ r h => by simp [larchref16_Rows.l0] at h
 | k + 1 => by
  have ih0 := larchref16_Rows.mono_l k
  ·intro y0 y1 y2
   unfold larchref16_Rows.l0
   repeat' first
   | (with_reducible exact ih0 _ _ _)
   | (with_reducible exact LeO.refl _)
   | (with_reducible exact LeO.none _)
   | (with_reducible refine LeO.ite ?_ ?_)
   | (with_reducible refine LeO.bind ?_ (fun _ => ?_))
   | exact ih0 _ _ _
   | exact LeO.none _
   | refine LeO.ite ?_ ?_
   | refine LeO.bind ?_ (fun _ => ?_)
theorem larchref16_Rows.mono : ∀ a0 a1 k, LeO (larchref16_Rows.f k a0 a1) (larchref16_Rows.f (k + 1) a0 a1) := by
 intro a0 a1 k
 have ih0 := larchref16_Rows.mono_l k
 unfold larchref16_Rows.f
 repeat' first
   | (with_reducible exact ih0 _ _ _)
   | (with_reducible exact LeO.refl _)
   | (with_reducible exact LeO.none _)
   | (with_reducible refine LeO.ite ?_ ?_)
   | (with_reducible refine LeO.bind ?_ (fun _ => ?_))
   | exact ih0 _ _ _
   | exact LeO.none _
   | refine LeO.ite ?_ ?_
   | refine LeO.bind ?_ (fun _ => ?_)
def larchref16_Rows.T8 : Bool × List (List Nat × List Nat) := (true, [([], []), ([], []), ([], []), ([1, 2], [1, 2]), ([3], [3]), ([4], [4]), ([], []), ([], []), ([6, 7], [6, 7]), ([8], [8]), ([9], [9]), ([5, 10], [5, 10]), ([0, 11], [0, 11]), ([12, 12, 0, 1, 2, 3, 4, 5, 6, 7, 8, 9, 10, 11, 12], [0, 12])])
def larchref16_Rows.B8 : List Nat := [0, 0, 0, 6, 14, 30, 0, 0, 192, 448, 960, 2046, 4095, 8191]
theorem larchref16_Rows.tab8 : rtab .any (opsOf Try.f99 8) = larchref16_Rows.T8 := by kernel_rfl
theorem larchref16_Rows.bits8 : waitsOk larchref16_Rows.T8.2 larchref16_Rows.B8 = true := by kernel_rfl
set_option maxHeartbeats 8000000 in
set_option maxRecDepth 100000 in
theorem larchref16_Rows.calls (k : Nat) (A0 : Option Addr) (c0 : Nat) (l0 : List (S34)) (a1 : Int) (r : List Int) (w : World) (hr0 : Kd.C k34 w A0 l0.length l0) (hc0 : l0.length ≤ c0) (h : larchref16_Rows.f k l0 a1 = some r) :
  Calls Try.prog 99 #[.slice A0 l0.length c0, .int .i64 a1] w fun e w' => ∃ v0_ : Value, e = .returned (v0_) ∧ Kd.R (Kd.int .i64) 3 w' w.heap.size (fun _ => True) v0_ r ∧ Below w.heap.size w w' := by
 have hu34 := Try.underlying34
 have HR0 := Am hr0
 have HC0 := Am hc0
 clear hr0 hc0
 have HB := Am (Below.refl w.heap.size w)
 have H : (larchref16_Rows.l0 k l0 ([] : List Int) (([a1] : List Int))) = some r := h
 clear h
 obtain ⟨y545, hy545⟩ : ∃ y_ : List Int, y_ = (([a1] : List Int)) := ⟨_, rfl⟩
 replace H : (larchref16_Rows.l0 k l0 ([] : List Int) y545) = some r := by first | (rw [hy545]; with_reducible exact H) | (have H2_ := (Option.bind_some _ _).symm.trans H; rw [hy545]; with_reducible exact H2_) | (have H2_ := (Option.bind_some _ _).symm.trans H; with_reducible exact H2_) | with_reducible exact H | (rw [hy545]; exact H) | exact H
 have Ny545 := Am hy545
 clear hy545
 have H' := Am H
 clear H
 go_enter Try.func99, Try.ntmps99
 go_wp2_with (first | ((with_reducible refine gate_dst (N := 9) rfl ?_); refine Kd.R_lit (Kd.int .i64) _ 3 ?hg (N := 9) ?hd (xs := ([a1] : List Int)) (inner := [.int .i64 a1]) (ok := fun _ => True) (okp := fun _ => True) ?hr ?hp (fun _ hk => hk) trivial (Below.refl _ _) (Nat.le_refl _) (by simp) ?_; (case hd => rfl); (case hg => rfl); (case hr => first | (go_simp; done) | (go_simp; rfl)); (case hp => exact (Reps.one (show Kd.M (Kd.int .i64) _ _ _ a1 [.int .i64 a1] from rfl) (Reps.none _ _))); intro v546 w3 ho4 hb hg_ hnew_; clear hg_ hnew_; (first | rw [← Ny545.out] at ho4 | (simp only [Int.reduceToNat] at ho4; rw [← Ny545.out] at ho4)); have n0_ := Am (Kd.R_lower ho4 (below_size (by repeat (first | (with_reducible first | exact HB.out | apply ba | apply bn | apply bd) | exact HB.out)))); have n1_ := Am (below_step (by repeat (first | (with_reducible first | exact HB.out | apply ba | apply bn | apply bd) | exact HB.out)) hb); clear HB; have HO547 := n0_; have HB := n1_; clear n0_ n1_; clear hb ho4))
 go_loopg [5, 6] k (fun kq v5 v6 w' => ∃ (x5_1 : List Int) (x6_1 : List Int), Aside0 (larchref16_Rows.l0 kq l0 x5_1 x6_1 = some r) ∧ Aside0 (kq ≤ k) ∧ Aside0 (Kd.R (Kd.int .i64) 3 w' w.heap.size (fun k_ => some k_ ≠ (v6 : Value).ownBlock) v5 x5_1) ∧ Aside0 (Kd.R (Kd.int .i64) 3 w' w.heap.size (fun k_ => some k_ ≠ (v5 : Value).ownBlock) v6 x6_1) ∧ Aside0 (Below w.heap.size w w'))
 case atStart => exact ⟨(([] : List Int)), (y545), H', ⟨Nat.le_refl _⟩, ⟨by first | exact Kd.R_nil _ _ _ _ _ | exact Kd.N_nil _ _ _ _ _ | exact Kd.V_nil _ _ _ _ _ | exact Kd.Q_nil _ _ _ _ _ | exact Kd.S_nil _ _ _ _ _⟩, ⟨by (with_reducible repeat (first | apply Kd.R_alloc | apply Kd.R_drewN | apply Kd.R_drew)); exact Kd.R_mono HO547.out (fun _ hk => (by simp [Value.ownBlock]))⟩, ⟨by repeat (first | (with_reducible first | exact HB.out | apply ba | apply bn | apply bd) | exact HB.out)⟩⟩
 case round =>
  clear H'
  try clear p2
  obtain ⟨x5_1, x6_1, HA, HK1, HO_5, HO_6, HB⟩ := hrel
  cases gk with
  | zero => exact absurd HA.out (by simp [larchref16_Rows.l0])
  | succ k1 =>
   have H := HA.out
   clear HA
   simp only [larchref16_Rows.l0] at H
   by_cases c5 : (x6_1.length : Int) > 0
   ·rw [if_pos c5] at H
    have c5b0 : decide (0 < (x6_1.length : Int)) = true := decide_eq_true c5
    have c5b1 : decide (0 < x6_1.length) = true := decide_eq_true (by omega)
    clear c5
    obtain ⟨ji6, hji6⟩ : ∃ j_ : Int, (wrap64 ((x6_1.length : Int) - 1)) = j_ := ⟨_, rfl⟩
    replace H : (if 0 ≤ (ji6) then (if (ji6) < (x6_1.length : Int) then (if (ji6) ≤ (x6_1.length : Int) then ((some (x6_1.take ((ji6) : Int).toNat : List Int)).bind fun y549 => (if x5_1.length < 17592186044416 then ((some (x5_1 ++ [rd x6_1 (ji6)] : List Int)).bind fun y552 => (if 0 ≤ (rd x6_1 (ji6)) then (if (rd x6_1 (ji6)) < (l0.length : Int) then ((larchref16_Leaf.f ((rd_T34 l0 (rd x6_1 (ji6))).f0) ((rd_T34 l0 (rd x6_1 (ji6))).f1) ((rd_T34 l0 (rd x6_1 (ji6))).f2) ((rd_T34 l0 (rd x6_1 (ji6))).f3) ((rd_T34 l0 (rd x6_1 (ji6))).f4) ((rd_T34 l0 (rd x6_1 (ji6))).f5)).bind fun t556 => (if t556 = true then (larchref16_Rows.l0 k1 l0 y552 y549) else ((some (([(rd_T34 l0 (rd x6_1 (ji6))).f5, (rd_T34 l0 (rd x6_1 (ji6))).f4] : List Int) : List Int)).bind fun y559 => (if y549.length + y559.length < 17592186044416 then (larchref16_Rows.l0 k1 l0 y552 (y549 ++ y559)) else (none))))) else (none)) else (none))) else (none))) else (none)) else (none)) else (none)) = some r := by first | (rw [hji6] at H; exact H) | (simp only [hji6] at H ⊢; exact H)
    have hji6w : (IntKind.i64.wrap ((x6_1.length : Int) - 1)) = ji6 := (i64_w _).trans hji6
    by_cases c7 : 0 ≤ (ji6)
    ·rw [if_pos c7] at H
     have c7b0 : decide (0 ≤ (ji6)) = true := decide_eq_true c7
     clear c7
     by_cases c8 : (ji6) < (x6_1.length : Int)
     ·rw [if_pos c8] at H
      have c8b0 : decide ((ji6) < (x6_1.length : Int)) = true := decide_eq_true c8
      clear c8
      by_cases c9 : (ji6) ≤ (x6_1.length : Int)
      ·rw [if_pos c9] at H
       have c9b0 := eq_true c9
       have c9b1 : decide ((ji6) ≤ (x6_1.length : Int)) = true := decide_eq_true c9
       clear c9
       obtain ⟨y549, hy549⟩ : ∃ y_ : List Int, y_ = (x6_1.take ((ji6) : Int).toNat) := ⟨_, rfl⟩
       replace H : (if x5_1.length < 17592186044416 then ((some (x5_1 ++ [rd x6_1 (ji6)] : List Int)).bind fun y552 => (if 0 ≤ (rd x6_1 (ji6)) then (if (rd x6_1 (ji6)) < (l0.length : Int) then ((larchref16_Leaf.f ((rd_T34 l0 (rd x6_1 (ji6))).f0) ((rd_T34 l0 (rd x6_1 (ji6))).f1) ((rd_T34 l0 (rd x6_1 (ji6))).f2) ((rd_T34 l0 (rd x6_1 (ji6))).f3) ((rd_T34 l0 (rd x6_1 (ji6))).f4) ((rd_T34 l0 (rd x6_1 (ji6))).f5)).bind fun t556 => (if t556 = true then (larchref16_Rows.l0 k1 l0 y552 y549) else ((some (([(rd_T34 l0 (rd x6_1 (ji6))).f5, (rd_T34 l0 (rd x6_1 (ji6))).f4] : List Int) : List Int)).bind fun y559 => (if y549.length + y559.length < 17592186044416 then (larchref16_Rows.l0 k1 l0 y552 (y549 ++ y559)) else (none))))) else (none)) else (none))) else (none)) = some r := by first | (rw [hy549]; with_reducible exact H) | (have H2_ := (Option.bind_some _ _).symm.trans H; rw [hy549]; with_reducible exact H2_) | (have H2_ := (Option.bind_some _ _).symm.trans H; with_reducible exact H2_) | with_reducible exact H | (rw [hy549]; exact H) | exact H
       have Ny549 := Am hy549
       clear hy549
       by_cases c10 : x5_1.length < 17592186044416
       ·rw [if_pos c10] at H
        have LMc10 := Am c10
        clear c10
        obtain ⟨y552, hy552⟩ : ∃ y_ : List Int, y_ = (x5_1 ++ [rd x6_1 (ji6)]) := ⟨_, rfl⟩
        replace H : (if 0 ≤ (rd x6_1 (ji6)) then (if (rd x6_1 (ji6)) < (l0.length : Int) then ((larchref16_Leaf.f ((rd_T34 l0 (rd x6_1 (ji6))).f0) ((rd_T34 l0 (rd x6_1 (ji6))).f1) ((rd_T34 l0 (rd x6_1 (ji6))).f2) ((rd_T34 l0 (rd x6_1 (ji6))).f3) ((rd_T34 l0 (rd x6_1 (ji6))).f4) ((rd_T34 l0 (rd x6_1 (ji6))).f5)).bind fun t556 => (if t556 = true then (larchref16_Rows.l0 k1 l0 y552 y549) else ((some (([(rd_T34 l0 (rd x6_1 (ji6))).f5, (rd_T34 l0 (rd x6_1 (ji6))).f4] : List Int) : List Int)).bind fun y559 => (if y549.length + y559.length < 17592186044416 then (larchref16_Rows.l0 k1 l0 y552 (y549 ++ y559)) else (none))))) else (none)) else (none)) = some r := by first | (rw [hy552]; with_reducible exact H) | (have H2_ := (Option.bind_some _ _).symm.trans H; rw [hy552]; with_reducible exact H2_) | (have H2_ := (Option.bind_some _ _).symm.trans H; with_reducible exact H2_) | with_reducible exact H | (rw [hy552]; exact H) | exact H
        have Ny552 := Am hy552
        clear hy552
        by_cases c11 : 0 ≤ (rd x6_1 (ji6))
        ·rw [if_pos c11] at H
         have c11b0 : decide (0 ≤ (rd x6_1 (ji6))) = true := decide_eq_true c11
         clear c11
         by_cases c12 : (rd x6_1 (ji6)) < (l0.length : Int)
         ·rw [if_pos c12] at H
          have c12b0 : decide ((rd x6_1 (ji6)) < (l0.length : Int)) = true := decide_eq_true c12
          clear c12
          replace H := Option.bind_eq_some_iff.mp H
          obtain ⟨t556, A130, H⟩ := H
          replace H : (if t556 = true then (larchref16_Rows.l0 k1 l0 y552 y549) else ((some (([(rd_T34 l0 (rd x6_1 (ji6))).f5, (rd_T34 l0 (rd x6_1 (ji6))).f4] : List Int) : List Int)).bind fun y559 => (if y549.length + y559.length < 17592186044416 then (larchref16_Rows.l0 k1 l0 y552 (y549 ++ y559)) else (none)))) = some r := H
          have A13 := Am A130
          clear A130
          by_cases c14 : t556 = true
          ·subst c14
           have H1 : (larchref16_Rows.l0 k1 l0 y552 y549) = some r := by rw [if_pos rfl] at H; exact H
           clear H
           have H := H1
           clear H1
           have H' := Am H
           clear H
           obtain ⟨Ao15, co15, eo15⟩ := Kd.R_slice HO_6.out
           subst eo15
           have p548 : 0 ≤ ((ji6) : Int) := of_decide_eq_true (by first | (with_reducible assumption) | assumption)
           have q548 : (ji6) < (x6_1.length : Int) := of_decide_eq_true (by first | (with_reducible assumption) | assumption)
           obtain ⟨ad548, e548, hx548_0⟩ := Kd.at_int (Kd.R_reads' HO_6.out).2.2 (ji6) p548 q548
           cases e548
           replace p548 := eq_true p548
           replace q548 := eq_true q548
           have q16 : ((ji6) : Int) ≤ ((x6_1.length : Int) : Int) := of_decide_eq_true (by first | (with_reducible assumption) | assumption)
           obtain ⟨i016, hi016, _, hsz16, _⟩ := info_parts info3
           have hcut16 := cut_to (P := Try.prog) 31 3 .i64 Try.underlying31 hi016 (some ad548) x6_1.length co15 (ji6) (of_decide_eq_true (by first | (with_reducible assumption) | assumption)) q16 (Kd.R_reads' HO_6.out).2.1
           have hr16 := Kd.R_take (m := ((ji6) : Int).toNat) HO_6.out (by omega)
           have hy16 : y549.length = ((ji6) : Int).toNat := (by rw [Ny549.out, List.length_take]; omega)
           rw [← Ny549.out] at hr16
           rw [← hy16] at hr16 hcut16
           clear hy16 hi016 hsz16 HO_6
           have HO551 := Am hr16
           clear hr16
           replace q16 := eq_true q16
           go_wp2_with (first | ((with_reducible refine gate_builtin (b := .append) (xs := #[.tmp 24, .tmp 26]) rfl ?_); at_builtin; refine Kd.R_append (Kd.int .i64) (w0 := w) w.heap.size rfl (.tmp 24) (.tmp 26) 31 3 (.int .i64 0) 8 rfl Try.underlying31 info3 rfl (by decide) (by omega) u5 x5_1 (rd x6_1 (ji6)) [.int .i64 (rd x6_1 (ji6))] (fun k_ => some k_ ≠ (.slice (some ad548) y549.length co15 : Value).ownBlock) (fun _ => False) rfl rfl ?aP (fun _ hk => hk.elim) ?aF ?aO ?aB ?aS ?aL ?_; (case aP => exact rfl); (case aB => exact (by repeat (first | (with_reducible first | exact HB.out | apply ba | apply bn | apply bd) | exact HB.out))); (case aF => exact (fun k_ hk => Kd.fresh' (Kd.R_lt (by (with_reducible repeat (first | apply Kd.R_alloc | apply Kd.R_drewN | apply Kd.R_drew)); exact HO551.out)) k_ hk)); (case aO => exact (by (with_reducible repeat (first | apply Kd.R_alloc | apply Kd.R_drewN | apply Kd.R_drew)); exact HO_5.out)); (case aS => exact (below_size (by repeat (first | (with_reducible first | exact HB.out | apply ba | apply bn | apply bd) | exact HB.out)))); (case aL => have := LMc10.out; omega); intro v553 w17 ho hb hg hat; rw [← Ny552.out] at ho; have n0_ := Am (Kd.R_after (ok := (fun _ => True)) (by (with_reducible repeat (first | apply Kd.R_alloc | apply Kd.R_drewN | apply Kd.R_drew)); exact Kd.R_mono HO551.out (fun _ hk => ⟨trivial, hk⟩)) hg hat); have n1_ := Am (hb); have n2_ := Am (ho); clear HO551; clear HB; clear HO_5; have HO551 := n0_; have HB := n1_; have HO554 := n2_; clear n0_ n1_ n2_; clear ho hb hg hat; have p555 : 0 ≤ ((rd x6_1 (ji6)) : Int) := of_decide_eq_true (by first | (with_reducible assumption) | assumption); have q555 : (rd x6_1 (ji6)) < (l0.length : Int) := of_decide_eq_true (by first | (with_reducible assumption) | assumption); obtain ⟨ad555, e555, hx555_0, hx555_1, hx555_2, hx555_3, hx555_4, hx555_5⟩ := at_T34 HR0.out (rd x6_1 (ji6)) p555 q555; cases e555; replace hx555_0 := (HB.out.cell (blt w _ hx555_0)).trans hx555_0; replace hx555_1 := (HB.out.cell (blt w _ hx555_1)).trans hx555_1; replace hx555_2 := (HB.out.cell (blt w _ hx555_2)).trans hx555_2; replace hx555_3 := (HB.out.cell (blt w _ hx555_3)).trans hx555_3; replace hx555_4 := (HB.out.cell (blt w _ hx555_4)).trans hx555_4; replace hx555_5 := (HB.out.cell (blt w _ hx555_5)).trans hx555_5; replace p555 := eq_true p555; replace q555 := eq_true q555) | ((with_reducible refine gate_callee (f := 100) rfl ?_); refine goesL_ (some 32) rfl rfl Try.func100 (by kernel_rfl) rfl #[.agg #[.int .i64 ((rd_T34 l0 (rd x6_1 (ji6))).f0), .int .i64 ((rd_T34 l0 (rd x6_1 (ji6))).f1), .int .i64 ((rd_T34 l0 (rd x6_1 (ji6))).f2), .int .i64 ((rd_T34 l0 (rd x6_1 (ji6))).f3), .int .i64 ((rd_T34 l0 (rd x6_1 (ji6))).f4), .int .i64 ((rd_T34 l0 (rd x6_1 (ji6))).f5)]] rfl (by (try simp only [List.map_toArray, List.map_cons, List.map_nil]); first | done | (simp only [hji6]; rfl) | rfl | (simp only [List.length_drop, List.length_take]; rfl)) ?_; (with_reducible refine (larchref16_Leaf.calls ((rd_T34 l0 (rd x6_1 (ji6))).f0) ((rd_T34 l0 (rd x6_1 (ji6))).f1) ((rd_T34 l0 (rd x6_1 (ji6))).f2) ((rd_T34 l0 (rd x6_1 (ji6))).f3) ((rd_T34 l0 (rd x6_1 (ji6))).f4) ((rd_T34 l0 (rd x6_1 (ji6))).f5) true _ A13.out).mono ?_); rintro e w18 ⟨rfl, hb⟩; refine ⟨_, rfl, ?_⟩; have n0_ := Am (Kd.R_below (by (with_reducible repeat (first | apply Kd.R_alloc | apply Kd.R_drewN | apply Kd.R_drew)); exact HO551.out) hb); have n1_ := Am (Kd.R_below (by (with_reducible repeat (first | apply Kd.R_alloc | apply Kd.R_drewN | apply Kd.R_drew)); exact HO554.out) hb); have n2_ := Am (below_step (by repeat (first | (with_reducible first | exact HB.out | apply ba | apply bn | apply bd) | exact HB.out)) hb); clear HO551; clear HO554; clear HB; have HO551 := n0_; have HO554 := n1_; have HB := n2_; clear n0_ n1_ n2_; (try clear hb); (try clear hb2); (try clear hk); (try clear hi)))
           go_roundg k1
           case measure => have := HK1.out; omega
           case rel => exact ⟨(y552), (y549), H', ⟨by have := HK1.out; omega⟩, ⟨by (with_reducible repeat (first | apply Kd.R_alloc | apply Kd.R_drewN | apply Kd.R_drew)); exact HO554.out⟩, ⟨by (with_reducible repeat (first | apply Kd.R_alloc | apply Kd.R_drewN | apply Kd.R_drew)); exact Kd.R_mono HO551.out (fun _ hk => hk.2)⟩, ⟨by repeat (first | (with_reducible first | exact HB.out | apply ba | apply bn | apply bd) | exact HB.out)⟩⟩
          ·replace c14 := Bool.eq_false_iff.mpr c14
           subst c14
           have H1 : ((some (([(rd_T34 l0 (rd x6_1 (ji6))).f5, (rd_T34 l0 (rd x6_1 (ji6))).f4] : List Int) : List Int)).bind fun y559 => (if y549.length + y559.length < 17592186044416 then (larchref16_Rows.l0 k1 l0 y552 (y549 ++ y559)) else (none))) = some r := by rw [if_neg (show ¬ (false = true) by decide)] at H; exact H
           clear H
           have H := H1
           clear H1
           obtain ⟨y559, hy559⟩ : ∃ y_ : List Int, y_ = (([(rd_T34 l0 (rd x6_1 (ji6))).f5, (rd_T34 l0 (rd x6_1 (ji6))).f4] : List Int)) := ⟨_, rfl⟩
           replace H : (if y549.length + y559.length < 17592186044416 then (larchref16_Rows.l0 k1 l0 y552 (y549 ++ y559)) else (none)) = some r := by first | (rw [hy559]; with_reducible exact H) | (have H2_ := (Option.bind_some _ _).symm.trans H; rw [hy559]; with_reducible exact H2_) | (have H2_ := (Option.bind_some _ _).symm.trans H; with_reducible exact H2_) | with_reducible exact H | (rw [hy559]; exact H) | exact H
           have Ny559 := Am hy559
           clear hy559
           by_cases c19 : y549.length + y559.length < 17592186044416
           ·rw [if_pos c19] at H
            have LMc19 := Am c19
            clear c19
            obtain ⟨y562, hy562⟩ : ∃ y_ : List Int, y_ = (y549 ++ y559) := ⟨_, rfl⟩
            replace H : (larchref16_Rows.l0 k1 l0 y552 y562) = some r := by first | (rw [hy562]; with_reducible exact H) | (have H2_ := (Option.bind_some _ _).symm.trans H; rw [hy562]; with_reducible exact H2_) | (have H2_ := (Option.bind_some _ _).symm.trans H; with_reducible exact H2_) | with_reducible exact H | (rw [hy562]; exact H) | exact H
            have Ny562 := Am hy562
            clear hy562
            have H' := Am H
            clear H
            obtain ⟨Ao20, co20, eo20⟩ := Kd.R_slice HO_6.out
            subst eo20
            have p548 : 0 ≤ ((ji6) : Int) := of_decide_eq_true (by first | (with_reducible assumption) | assumption)
            have q548 : (ji6) < (x6_1.length : Int) := of_decide_eq_true (by first | (with_reducible assumption) | assumption)
            obtain ⟨ad548, e548, hx548_0⟩ := Kd.at_int (Kd.R_reads' HO_6.out).2.2 (ji6) p548 q548
            cases e548
            replace p548 := eq_true p548
            replace q548 := eq_true q548
            have q21 : ((ji6) : Int) ≤ ((x6_1.length : Int) : Int) := of_decide_eq_true (by first | (with_reducible assumption) | assumption)
            obtain ⟨i021, hi021, _, hsz21, _⟩ := info_parts info3
            have hcut21 := cut_to (P := Try.prog) 31 3 .i64 Try.underlying31 hi021 (some ad548) x6_1.length co20 (ji6) (of_decide_eq_true (by first | (with_reducible assumption) | assumption)) q21 (Kd.R_reads' HO_6.out).2.1
            have hr21 := Kd.R_take (m := ((ji6) : Int).toNat) HO_6.out (by omega)
            have hy21 : y549.length = ((ji6) : Int).toNat := (by rw [Ny549.out, List.length_take]; omega)
            rw [← Ny549.out] at hr21
            rw [← hy21] at hr21 hcut21
            clear hy21 hi021 hsz21 HO_6
            have HO551 := Am hr21
            clear hr21
            replace q21 := eq_true q21
            try go_wp2_with (first | ((with_reducible refine gate_builtin (b := .append) (xs := #[.tmp 24, .tmp 26]) rfl ?_); at_builtin; refine Kd.R_append (Kd.int .i64) (w0 := w) w.heap.size rfl (.tmp 24) (.tmp 26) 31 3 (.int .i64 0) 8 rfl Try.underlying31 info3 rfl (by decide) (by omega) u5 x5_1 (rd x6_1 (ji6)) [.int .i64 (rd x6_1 (ji6))] (fun k_ => some k_ ≠ (.slice (some ad548) y549.length co20 : Value).ownBlock) (fun _ => False) rfl rfl ?aP (fun _ hk => hk.elim) ?aF ?aO ?aB ?aS ?aL ?_; (case aP => exact rfl); (case aB => exact (by repeat (first | (with_reducible first | exact HB.out | apply ba | apply bn | apply bd) | exact HB.out))); (case aF => exact (fun k_ hk => Kd.fresh' (Kd.R_lt (by (with_reducible repeat (first | apply Kd.R_alloc | apply Kd.R_drewN | apply Kd.R_drew)); exact HO551.out)) k_ hk)); (case aO => exact (by (with_reducible repeat (first | apply Kd.R_alloc | apply Kd.R_drewN | apply Kd.R_drew)); exact HO_5.out)); (case aS => exact (below_size (by repeat (first | (with_reducible first | exact HB.out | apply ba | apply bn | apply bd) | exact HB.out)))); (case aL => have := LMc10.out; omega); intro v553 w22 ho hb hg hat; rw [← Ny552.out] at ho; have n0_ := Am (Kd.R_after (ok := (fun _ => True)) (by (with_reducible repeat (first | apply Kd.R_alloc | apply Kd.R_drewN | apply Kd.R_drew)); exact Kd.R_mono HO551.out (fun _ hk => ⟨trivial, hk⟩)) hg hat); have n1_ := Am (hb); have n2_ := Am (ho); clear HO551; clear HB; clear HO_5; have HO551 := n0_; have HB := n1_; have HO554 := n2_; clear n0_ n1_ n2_; clear ho hb hg hat; have p555 : 0 ≤ ((rd x6_1 (ji6)) : Int) := of_decide_eq_true (by first | (with_reducible assumption) | assumption); have q555 : (rd x6_1 (ji6)) < (l0.length : Int) := of_decide_eq_true (by first | (with_reducible assumption) | assumption); obtain ⟨ad555, e555, hx555_0, hx555_1, hx555_2, hx555_3, hx555_4, hx555_5⟩ := at_T34 HR0.out (rd x6_1 (ji6)) p555 q555; cases e555; replace hx555_0 := (HB.out.cell (blt w _ hx555_0)).trans hx555_0; replace hx555_1 := (HB.out.cell (blt w _ hx555_1)).trans hx555_1; replace hx555_2 := (HB.out.cell (blt w _ hx555_2)).trans hx555_2; replace hx555_3 := (HB.out.cell (blt w _ hx555_3)).trans hx555_3; replace hx555_4 := (HB.out.cell (blt w _ hx555_4)).trans hx555_4; replace hx555_5 := (HB.out.cell (blt w _ hx555_5)).trans hx555_5; replace p555 := eq_true p555; replace q555 := eq_true q555) | ((with_reducible refine gate_callee (f := 100) rfl ?_); refine goesL_ (some 32) rfl rfl Try.func100 (by kernel_rfl) rfl #[.agg #[.int .i64 ((rd_T34 l0 (rd x6_1 (ji6))).f0), .int .i64 ((rd_T34 l0 (rd x6_1 (ji6))).f1), .int .i64 ((rd_T34 l0 (rd x6_1 (ji6))).f2), .int .i64 ((rd_T34 l0 (rd x6_1 (ji6))).f3), .int .i64 ((rd_T34 l0 (rd x6_1 (ji6))).f4), .int .i64 ((rd_T34 l0 (rd x6_1 (ji6))).f5)]] rfl (by (try simp only [List.map_toArray, List.map_cons, List.map_nil]); first | done | (simp only [hji6]; rfl) | rfl | (simp only [List.length_drop, List.length_take]; rfl)) ?_; (with_reducible refine (larchref16_Leaf.calls ((rd_T34 l0 (rd x6_1 (ji6))).f0) ((rd_T34 l0 (rd x6_1 (ji6))).f1) ((rd_T34 l0 (rd x6_1 (ji6))).f2) ((rd_T34 l0 (rd x6_1 (ji6))).f3) ((rd_T34 l0 (rd x6_1 (ji6))).f4) ((rd_T34 l0 (rd x6_1 (ji6))).f5) false _ A13.out).mono ?_); rintro e w23 ⟨rfl, hb⟩; refine ⟨_, rfl, ?_⟩; have n0_ := Am (Kd.R_below (by (with_reducible repeat (first | apply Kd.R_alloc | apply Kd.R_drewN | apply Kd.R_drew)); exact HO551.out) hb); have n1_ := Am (Kd.R_below (by (with_reducible repeat (first | apply Kd.R_alloc | apply Kd.R_drewN | apply Kd.R_drew)); exact HO554.out) hb); have n2_ := Am (below_step (by repeat (first | (with_reducible first | exact HB.out | apply ba | apply bn | apply bd) | exact HB.out)) hb); clear HO551; clear HO554; clear HB; have HO551 := n0_; have HO554 := n1_; have HB := n2_; clear n0_ n1_ n2_; (try clear hb); (try clear hb2); (try clear hk); (try clear hi)))
            have n0_ := Am (Kd.R_drew HO551.out)
            have n1_ := Am (Kd.R_drew HO554.out)
            have n2_ := Am (bd HB.out)
            clear HO551
            clear HO554
            clear HB
            have HO551 := n0_
            have HO554 := n1_
            have HB := n2_
            clear n0_ n1_ n2_
            have p557 : 0 ≤ ((rd x6_1 (ji6)) : Int) := of_decide_eq_true (by first | (with_reducible assumption) | assumption)
            have q557 : (rd x6_1 (ji6)) < (l0.length : Int) := of_decide_eq_true (by first | (with_reducible assumption) | assumption)
            obtain ⟨ad557, e557, hx557_0, hx557_1, hx557_2, hx557_3, hx557_4, hx557_5⟩ := at_T34 HR0.out (rd x6_1 (ji6)) p557 q557
            have hw557_5 := hx557_5
            have hw557_4 := hx557_4
            have hw557_3 := hx557_3
            have hw557_2 := hx557_2
            have hw557_1 := hx557_1
            have hw557_0 := hx557_0
            obtain rfl : ad555 = ad557 := (by injection e557)
            replace hx557_0 := (HB.out.cell (blt w _ hx557_0)).trans hx557_0
            replace hx557_1 := (HB.out.cell (blt w _ hx557_1)).trans hx557_1
            replace hx557_2 := (HB.out.cell (blt w _ hx557_2)).trans hx557_2
            replace hx557_3 := (HB.out.cell (blt w _ hx557_3)).trans hx557_3
            replace hx557_4 := (HB.out.cell (blt w _ hx557_4)).trans hx557_4
            replace hx557_5 := (HB.out.cell (blt w _ hx557_5)).trans hx557_5
            replace p557 := eq_true p557
            replace q557 := eq_true q557
            have p558 : 0 ≤ ((rd x6_1 (ji6)) : Int) := of_decide_eq_true (by first | (with_reducible assumption) | assumption)
            have q558 : (rd x6_1 (ji6)) < (l0.length : Int) := of_decide_eq_true (by first | (with_reducible assumption) | assumption)
            obtain ⟨ad558, e558, hx558_0, hx558_1, hx558_2, hx558_3, hx558_4, hx558_5⟩ := at_T34 HR0.out (rd x6_1 (ji6)) p558 q558
            have hw558_5 := hx558_5
            have hw558_4 := hx558_4
            have hw558_3 := hx558_3
            have hw558_2 := hx558_2
            have hw558_1 := hx558_1
            have hw558_0 := hx558_0
            obtain rfl : ad555 = ad558 := (by injection e558)
            replace hx558_0 := (HB.out.cell (blt w _ hx558_0)).trans hx558_0
            replace hx558_1 := (HB.out.cell (blt w _ hx558_1)).trans hx558_1
            replace hx558_2 := (HB.out.cell (blt w _ hx558_2)).trans hx558_2
            replace hx558_3 := (HB.out.cell (blt w _ hx558_3)).trans hx558_3
            replace hx558_4 := (HB.out.cell (blt w _ hx558_4)).trans hx558_4
            replace hx558_5 := (HB.out.cell (blt w _ hx558_5)).trans hx558_5
            replace p558 := eq_true p558
            replace q558 := eq_true q558
            refine start_ (n := 14) (S := fun w' => w'.cell? (ad555.add (((rd x6_1 (ji6))).toNat * 6)) = some (.int .i64 ((rd_T34 l0 (rd x6_1 (ji6))).f0)) ∧ w'.cell? ⟨(ad555.add (((rd x6_1 (ji6))).toNat * 6)).block, (ad555.add (((rd x6_1 (ji6))).toNat * 6)).off + 1, none⟩ = some (.int .i64 ((rd_T34 l0 (rd x6_1 (ji6))).f1)) ∧ w'.cell? ⟨(ad555.add (((rd x6_1 (ji6))).toNat * 6)).block, (ad555.add (((rd x6_1 (ji6))).toNat * 6)).off + 2, none⟩ = some (.int .i64 ((rd_T34 l0 (rd x6_1 (ji6))).f2)) ∧ w'.cell? ⟨(ad555.add (((rd x6_1 (ji6))).toNat * 6)).block, (ad555.add (((rd x6_1 (ji6))).toNat * 6)).off + 3, none⟩ = some (.int .i64 ((rd_T34 l0 (rd x6_1 (ji6))).f3)) ∧ w'.cell? ⟨(ad555.add (((rd x6_1 (ji6))).toNat * 6)).block, (ad555.add (((rd x6_1 (ji6))).toNat * 6)).off + 4, none⟩ = some (.int .i64 ((rd_T34 l0 (rd x6_1 (ji6))).f4)) ∧ w'.cell? ⟨(ad555.add (((rd x6_1 (ji6))).toNat * 6)).block, (ad555.add (((rd x6_1 (ji6))).toNat * 6)).off + 5, none⟩ = some (.int .i64 ((rd_T34 l0 (rd x6_1 (ji6))).f5)) ∧ w'.cell? (ad555.add (((rd x6_1 (ji6))).toNat * 6)) = some (.int .i64 ((rd_T34 l0 (rd x6_1 (ji6))).f0)) ∧ w'.cell? ⟨(ad555.add (((rd x6_1 (ji6))).toNat * 6)).block, (ad555.add (((rd x6_1 (ji6))).toNat * 6)).off + 1, none⟩ = some (.int .i64 ((rd_T34 l0 (rd x6_1 (ji6))).f1)) ∧ w'.cell? ⟨(ad555.add (((rd x6_1 (ji6))).toNat * 6)).block, (ad555.add (((rd x6_1 (ji6))).toNat * 6)).off + 2, none⟩ = some (.int .i64 ((rd_T34 l0 (rd x6_1 (ji6))).f2)) ∧ w'.cell? ⟨(ad555.add (((rd x6_1 (ji6))).toNat * 6)).block, (ad555.add (((rd x6_1 (ji6))).toNat * 6)).off + 3, none⟩ = some (.int .i64 ((rd_T34 l0 (rd x6_1 (ji6))).f3)) ∧ w'.cell? ⟨(ad555.add (((rd x6_1 (ji6))).toNat * 6)).block, (ad555.add (((rd x6_1 (ji6))).toNat * 6)).off + 4, none⟩ = some (.int .i64 ((rd_T34 l0 (rd x6_1 (ji6))).f4)) ∧ w'.cell? ⟨(ad555.add (((rd x6_1 (ji6))).toNat * 6)).block, (ad555.add (((rd x6_1 (ji6))).toNat * 6)).off + 5, none⟩ = some (.int .i64 ((rd_T34 l0 (rd x6_1 (ji6))).f5))) (ds := []) #[false, false, false, false, false, false, false, false, false, false, false, false, false, false] (by kernel_rfl) rfl rfl ⟨((HB.out.cell (blt w _ hw557_0)).trans hw557_0), ((HB.out.cell (blt w _ hw557_1)).trans hw557_1), ((HB.out.cell (blt w _ hw557_2)).trans hw557_2), ((HB.out.cell (blt w _ hw557_3)).trans hw557_3), ((HB.out.cell (blt w _ hw557_4)).trans hw557_4), ((HB.out.cell (blt w _ hw557_5)).trans hw557_5), ((HB.out.cell (blt w _ hw558_0)).trans hw558_0), ((HB.out.cell (blt w _ hw558_1)).trans hw558_1), ((HB.out.cell (blt w _ hw558_2)).trans hw558_2), ((HB.out.cell (blt w _ hw558_3)).trans hw558_3), ((HB.out.cell (blt w _ hw558_4)).trans hw558_4), ((HB.out.cell (blt w _ hw558_5)).trans hw558_5)⟩ (fun hHeld => ?_); refine with_tabW larchref16_Rows.tab8 larchref16_Rows.bits8 (fun HT_ HW_ => ?_)
            generalize w23.drew = w24 at HO551 HO554 HB hx557_0 hx557_1 hx557_2 hx557_3 hx557_4 hx557_5 hx558_0 hx558_1 hx558_2 hx558_3 hx558_4 hx558_5 hHeld ⊢
            refine pure_ (i := 0) (N := some 34) (v := ?_) (a' := ?_) #[true, false, false, false, false, false, false, false, false, false, false, false, false, false] rfl rfl (any_of HT_.out (by kernel_rfl)) (fun _ _ _ h => h) (Or.inl ⟨by rfl, ?_⟩) ?_ ?_
            rotate_left
            ·intro w'
             go_simp
             with_reducible rfl
            rotate_left
            ·simp only [Act.put, sI, sZ, sS, i64_w, i32_w]
             rfl
            refine pure_ (i := 1) (N := some 35) (v := ?_) (a' := ?_) #[true, true, false, false, false, false, false, false, false, false, false, false, false, false] rfl rfl (any_of HT_.out (by kernel_rfl)) (fun _ _ _ h => h) (Or.inl ⟨by rfl, ?_⟩) ?_ ?_
            rotate_left
            ·intro w'
             go_simp
             with_reducible rfl
            rotate_left
            ·simp only [Act.put, sI, sZ, sS, i64_w, i32_w]
             rfl
            refine pure_ (i := 2) (N := some 36) (v := ?_) (a' := ?_) #[true, true, true, false, false, false, false, false, false, false, false, false, false, false] rfl rfl (any_of HT_.out (by kernel_rfl)) (fun _ _ _ h => h) (Or.inl ⟨by rfl, ?_⟩) ?_ ?_
            rotate_left
            ·intro w'
             go_simp
             with_reducible rfl
            rotate_left
            ·simp only [Act.put, sI, sZ, sS, i64_w, i32_w]
             rfl
            refine pure_ (i := 3) (N := some 37) (v := ?_) (a' := ?_) #[true, true, true, true, false, false, false, false, false, false, false, false, false, false] rfl rfl (any_of HT_.out (by kernel_rfl)) (fun _ _ _ h => h) (Or.inl ⟨by rfl, ?_⟩) ?_ ?_
            rotate_left
            ·intro w'
             go_simp
             with_reducible rfl
            rotate_left
            ·simp only [Act.put, sI, sZ, sS, i64_w, i32_w]
             rfl
            refine pure_ (i := 4) (N := some 38) (v := ?_) (a' := ?_) #[true, true, true, true, true, false, false, false, false, false, false, false, false, false] rfl rfl (any_of HT_.out (by kernel_rfl)) (fun _ _ _ h => h) (Or.inl ⟨by rfl, ?_⟩) ?_ ?_
            rotate_left
            ·intro w'
             go_simp
             with_reducible rfl
            rotate_left
            ·simp only [Act.put, sI, sZ, sS, i64_w, i32_w]
             rfl
            refine pure_ (i := 6) (N := some 40) (v := ?_) (a' := ?_) #[true, true, true, true, true, false, true, false, false, false, false, false, false, false] rfl rfl (any_of HT_.out (by kernel_rfl)) (fun _ _ _ h => h) (Or.inl ⟨by rfl, ?_⟩) ?_ ?_
            rotate_left
            ·intro w'
             go_simp
             with_reducible rfl
            rotate_left
            ·simp only [Act.put, sI, sZ, sS, i64_w, i32_w]
             rfl
            refine pure_ (i := 7) (N := some 41) (v := ?_) (a' := ?_) #[true, true, true, true, true, false, true, true, false, false, false, false, false, false] rfl rfl (any_of HT_.out (by kernel_rfl)) (fun _ _ _ h => h) (Or.inl ⟨by rfl, ?_⟩) ?_ ?_
            rotate_left
            ·intro w'
             go_simp
             with_reducible rfl
            rotate_left
            ·simp only [Act.put, sI, sZ, sS, i64_w, i32_w]
             rfl
            refine pure_ (i := 8) (N := some 42) (v := ?_) (a' := ?_) #[true, true, true, true, true, false, true, true, true, false, false, false, false, false] rfl rfl (any_of HT_.out (by kernel_rfl)) (fun _ _ _ h => h) (Or.inl ⟨by rfl, ?_⟩) ?_ ?_
            rotate_left
            ·intro w'
             go_simp
             with_reducible rfl
            rotate_left
            ·simp only [Act.put, sI, sZ, sS, i64_w, i32_w]
             rfl
            refine pure_ (i := 9) (N := some 43) (v := ?_) (a' := ?_) #[true, true, true, true, true, false, true, true, true, true, false, false, false, false] rfl rfl (any_of HT_.out (by kernel_rfl)) (fun _ _ _ h => h) (Or.inl ⟨by rfl, ?_⟩) ?_ ?_
            rotate_left
            ·intro w'
             go_simp
             with_reducible rfl
            rotate_left
            ·simp only [Act.put, sI, sZ, sS, i64_w, i32_w]
             rfl
            refine take_ (i := 5) (N := some 39) (v := ?_) (a' := ?_) #[true, true, true, true, true, true, true, true, true, true, false, false, false, false] rfl rfl (take_ofW HT_.out HW_.out (by kernel_rfl)) (fun _ _ _ h => h) (Or.inl ⟨by rfl, ?_⟩) hHeld ?_ ?_
            rotate_left
            ·rintro w' ⟨s0, s1, s2, s3, s4, s5, s6, s7, s8, s9, s10, s11⟩
             go_simp
             with_reducible rfl
            rotate_left
            ·simp only [Act.put, sI, sZ, sS, i64_w, i32_w]
             rfl
            refine take_ (i := 10) (N := some 44) (v := ?_) (a' := ?_) #[true, true, true, true, true, true, true, true, true, true, true, false, false, false] rfl rfl (take_ofW HT_.out HW_.out (by kernel_rfl)) (fun _ _ _ h => h) (Or.inl ⟨by rfl, ?_⟩) hHeld ?_ ?_
            rotate_left
            ·rintro w' ⟨s0, s1, s2, s3, s4, s5, s6, s7, s8, s9, s10, s11⟩
             go_simp
             with_reducible rfl
            rotate_left
            ·simp only [Act.put, sI, sZ, sS, i64_w, i32_w]
             rfl
            refine one_ (i := 11) (N := some 45) #[true, true, true, true, true, true, true, true, true, true, true, true, false, false] rfl rfl (one_of HT_.out (by kernel_rfl)) (by decide) (fun K hK => ?_)
            refine Kd.R_lit_step (Kd.int .i64) _ 3 ?hg (N := 45) ?hd (xs := ([(rd_T34 l0 (rd x6_1 (ji6))).f5, (rd_T34 l0 (rd x6_1 (ji6))).f4] : List Int)) (inner := [.int .i64 ((rd_T34 l0 (rd x6_1 (ji6))).f5), .int .i64 ((rd_T34 l0 (rd x6_1 (ji6))).f4)]) (ok := fun _ => True) (okp := fun _ => True) ?hr ?hp (fun _ hk => hk) trivial (Below.refl _ _) (Nat.le_refl _) (by simp) ?_; (case hd => rfl); (case hg => rfl); (case hr => first | (go_simp; done) | (go_simp; rfl)); (case hp => exact (Reps.one (show Kd.M (Kd.int .i64) _ _ _ ((rd_T34 l0 (rd x6_1 (ji6))).f5) [.int .i64 ((rd_T34 l0 (rd x6_1 (ji6))).f5)] from rfl) (Reps.one (show Kd.M (Kd.int .i64) _ _ _ ((rd_T34 l0 (rd x6_1 (ji6))).f4) [.int .i64 ((rd_T34 l0 (rd x6_1 (ji6))).f4)] from rfl) (Reps.none _ _))))
            intro v560 w25 ho26 hb hg_ hnew_
            clear hg_ hnew_
            (first | rw [← Ny559.out] at ho26 | (simp only [Int.reduceToNat] at ho26; rw [← Ny559.out] at ho26))
            have n0_ := Am (Kd.R_elder' (by (with_reducible repeat (first | apply Kd.R_alloc | apply Kd.R_drewN | apply Kd.R_drew)); exact HO551.out) (Kd.R_base ho26) hb)
            have n1_ := Am (Kd.R_elder' (by (with_reducible repeat (first | apply Kd.R_alloc | apply Kd.R_drewN | apply Kd.R_drew)); exact HO554.out) (Kd.R_base ho26) hb)
            have n2_ := Am (Kd.R_lower (Kd.R_new' (Kd.R_new' ho26 (Kd.R_lt (by (with_reducible repeat (first | apply Kd.R_alloc | apply Kd.R_drewN | apply Kd.R_drew)); exact HO551.out))) (Kd.R_lt (by (with_reducible repeat (first | apply Kd.R_alloc | apply Kd.R_drewN | apply Kd.R_drew)); exact HO554.out))) (below_size (by repeat (first | (with_reducible first | exact HB.out | apply ba | apply bn | apply bd) | exact HB.out))))
            have n3_ := Am (below_step (by repeat (first | (with_reducible first | exact HB.out | apply ba | apply bn | apply bd) | exact HB.out)) hb)
            clear HO551
            clear HO554
            clear HB
            have HO551 := n0_
            have HO554 := n1_
            have HO561 := n2_
            have HB := n3_
            clear n0_ n1_ n2_ n3_
            clear hb ho26
            obtain ⟨Ao28, co28, eo28⟩ := Kd.R_slice HO561.out
            (first | subst eo28 | (injection eo28 with f1_ f2_ f3_; have f4_ := f1_.symm; have f5_ := f3_.symm; clear f1_ f2_ f3_; subst f4_; subst f5_))
            refine hK.out _ _ ⟨((HB.out.cell (blt w _ hw557_0)).trans hw557_0), ((HB.out.cell (blt w _ hw557_1)).trans hw557_1), ((HB.out.cell (blt w _ hw557_2)).trans hw557_2), ((HB.out.cell (blt w _ hw557_3)).trans hw557_3), ((HB.out.cell (blt w _ hw557_4)).trans hw557_4), ((HB.out.cell (blt w _ hw557_5)).trans hw557_5), ((HB.out.cell (blt w _ hw558_0)).trans hw558_0), ((HB.out.cell (blt w _ hw558_1)).trans hw558_1), ((HB.out.cell (blt w _ hw558_2)).trans hw558_2), ((HB.out.cell (blt w _ hw558_3)).trans hw558_3), ((HB.out.cell (blt w _ hw558_4)).trans hw558_4), ((HB.out.cell (blt w _ hw558_5)).trans hw558_5)⟩ (fun hHeld => ?_)
            clear hK K
            refine norm_ (a' := ?_) ?_ ?_
            rotate_left
            ·show Act.put _ (some 45) _ = _
             simp only [Act.put, sI, sZ, sS, i64_w, i32_w]
             rfl
            refine one_ (i := 12) (N := some 46) #[true, true, true, true, true, true, true, true, true, true, true, true, true, false] rfl rfl (one_of HT_.out (by kernel_rfl)) (by decide) (fun K hK => ?_)
            refine Kd.R_append_rows_step (Kd.int .i64) (w0 := w) w.heap.size (by rfl) (.tmp 34) (.tmp 45) 31 3 (.int .i64 0) 8 rfl Try.underlying31 info3 rfl (by decide) (by omega) (.slice (some ad548) y549.length co20) y549 y559 _ _ _ (fun k_ => some k_ ≠ (v553 : Value).ownBlock ∧ some k_ ≠ (.slice Ao28 y559.length co28 : Value).ownBlock) (fun _ => False) rfl rfl ?aO ?aR (fun _ _ h => h) (fun _ h => h.elim) ?aF ?aB ?aS ?aL ?_
            (case aR => repeat (first | exact (Kd.R_reads' HO561.out).2.2 | (with_reducible refine Kd.C_alloc ?_ _) | (with_reducible refine Kd.C_drewN ?_ _) | (with_reducible refine Kd.C_drew ?_)))
            (case aB => exact (by repeat (first | (with_reducible first | exact HB.out | apply ba | apply bn | apply bd) | exact HB.out)))
            (case aF => exact (fun k_ hk => ⟨Kd.fresh' (Kd.R_lt (by (with_reducible repeat (first | apply Kd.R_alloc | apply Kd.R_drewN | apply Kd.R_drew)); exact HO554.out)) k_ hk, Kd.fresh' (Kd.R_lt (by (with_reducible repeat (first | apply Kd.R_alloc | apply Kd.R_drewN | apply Kd.R_drew)); exact HO561.out)) k_ hk⟩))
            (case aO => exact (by (with_reducible repeat (first | apply Kd.R_alloc | apply Kd.R_drewN | apply Kd.R_drew)); exact Kd.R_mono HO551.out (fun _ hk => ⟨hk.1.2, hk.2⟩)))
            (case aS => exact (below_size (by repeat (first | (with_reducible first | exact HB.out | apply ba | apply bn | apply bd) | exact HB.out))))
            (case aL => have := LMc19.out; omega)
            intro v563 w27 ho hb hg hat
            rw [← Ny562.out] at ho
            have n0_ := Am (Kd.R_after (ok := (fun k_ => some k_ ≠ (.slice Ao28 y559.length co28 : Value).ownBlock)) (by (with_reducible repeat (first | apply Kd.R_alloc | apply Kd.R_drewN | apply Kd.R_drew)); exact Kd.R_mono HO554.out (fun _ hk => ⟨hk.2, hk.1⟩)) hg hat)
            have n1_ := Am (Kd.R_after (ok := (fun k_ => some k_ ≠ (v553 : Value).ownBlock)) (by (with_reducible repeat (first | apply Kd.R_alloc | apply Kd.R_drewN | apply Kd.R_drew)); exact Kd.R_mono HO561.out (fun _ hk => ⟨hk.2, hk.1.2⟩)) hg hat)
            have n2_ := Am (hb)
            have n3_ := Am (ho)
            clear HO554
            clear HO561
            clear HB
            clear HO551
            have HO554 := n0_
            have HO561 := n1_
            have HB := n2_
            have HO564 := n3_
            clear n0_ n1_ n2_ n3_
            clear ho hb hg hat
            refine hK.out _ _ ⟨((HB.out.cell (blt w _ hw557_0)).trans hw557_0), ((HB.out.cell (blt w _ hw557_1)).trans hw557_1), ((HB.out.cell (blt w _ hw557_2)).trans hw557_2), ((HB.out.cell (blt w _ hw557_3)).trans hw557_3), ((HB.out.cell (blt w _ hw557_4)).trans hw557_4), ((HB.out.cell (blt w _ hw557_5)).trans hw557_5), ((HB.out.cell (blt w _ hw558_0)).trans hw558_0), ((HB.out.cell (blt w _ hw558_1)).trans hw558_1), ((HB.out.cell (blt w _ hw558_2)).trans hw558_2), ((HB.out.cell (blt w _ hw558_3)).trans hw558_3), ((HB.out.cell (blt w _ hw558_4)).trans hw558_4), ((HB.out.cell (blt w _ hw558_5)).trans hw558_5)⟩ (fun hHeld => ?_)
            clear hK K
            refine norm_ (a' := ?_) ?_ ?_
            rotate_left
            ·show Act.put _ (some 46) _ = _
             simp only [Act.put, sI, sZ, sS, i64_w, i32_w]
             rfl
            refine pure_ (i := 13) (N := some 6) (v := ?_) (a' := ?_) #[true, true, true, true, true, true, true, true, true, true, true, true, true, true] rfl rfl (any_of HT_.out (by kernel_rfl)) (fun _ _ _ h => h) (Or.inl ⟨by rfl, ?_⟩) ?_ ?_
            rotate_left
            ·intro w'
             go_simp
             with_reducible rfl
            rotate_left
            ·simp only [Act.put, sI, sZ, sS, i64_w, i32_w]
             rfl
            refine done_ (done_of HT_.out (by kernel_rfl)) ?_
            try go_wp2
            go_roundg k1
            case measure => have := HK1.out; omega
            case rel => exact ⟨(y552), (y562), H', ⟨by have := HK1.out; omega⟩, ⟨by (with_reducible repeat (first | apply Kd.R_alloc | apply Kd.R_drewN | apply Kd.R_drew)); exact Kd.R_mono HO554.out (fun _ hk => hk.2)⟩, ⟨by (with_reducible repeat (first | apply Kd.R_alloc | apply Kd.R_drewN | apply Kd.R_drew)); exact Kd.R_mono HO564.out (fun _ hk => hk.1)⟩, ⟨by repeat (first | (with_reducible first | exact HB.out | apply ba | apply bn | apply bd) | exact HB.out)⟩⟩
           ·rw [if_neg c19] at H
            exact absurd H (by simp)
         ·rw [if_neg c12] at H
          exact absurd H (by simp)
        ·rw [if_neg c11] at H
         exact absurd H (by simp)
       ·rw [if_neg c10] at H
        exact absurd H (by simp)
      ·rw [if_neg c9] at H
       exact absurd H (by simp)
     ·rw [if_neg c8] at H
      exact absurd H (by simp)
    ·rw [if_neg c7] at H
     exact absurd H (by simp)
   ·rw [if_neg c5] at H
    have c5b0 : decide (0 < (x6_1.length : Int)) = false := decide_eq_false c5
    have c5b1 : decide (0 < x6_1.length) = false := decide_eq_false (by omega)
    clear c5
    obtain rfl := Option.some.inj H
    obtain ⟨Ao29, co29, eo29⟩ := Kd.R_slice HO_6.out
    subst eo29
    go_wp2
    go_ret
    exact ⟨_, by first | rfl | (simp [errW_none, errW_some] <;> rfl) | (simp [*, errW_none, errW_some] <;> rfl), by (with_reducible repeat (first | apply Kd.R_alloc | apply Kd.R_drewN | apply Kd.R_drew)); exact Kd.R_mono HO_5.out (fun _ hk => trivial), by repeat (first | (with_reducible first | exact HB.out | apply ba | apply bn | apply bd) | exact HB.out)⟩
def larchref16_Crown.l0 : Nat → List (S34) → Int → List Int → Int → Option (Int × Bool)
 | 0, _, _, _, _ => none
 | k + 1, x0, x4, x5, x6 => if x6 < (x5.length : Int) then (if 0 ≤ x6 then (if 0 ≤ (rd x5 x6) then (if (rd x5 x6) < (x0.length : Int) then (if ((rd_T34 x0 (rd x5 x6)).f1) = 0 then (larchref16_Crown.l0 k x0 x4 x5 (wrap64 (x6 + 1))) else (some (0, false))) else (none)) else (none)) else (none)) else (if 0 ≤ x4 then (if x4 < (x0.length : Int) then (some ((rd_T34 x0 x4).f4, true)) else (none)) else (none))
def larchref16_Crown.f (k : Nat) (l0 : List (S34)) : Option (Int × Bool) := (larchref16_top.f l0 0).bind fun t565 => (if t565 = true then (if 0 < (l0.length : Int) then (if 0 ≤ ((rd_T34 l0 0).f4) then (if ((rd_T34 l0 0).f4) < (l0.length : Int) then ((larchref16_end.f ((rd_T34 l0 ((rd_T34 l0 0).f4)).f0) ((rd_T34 l0 ((rd_T34 l0 0).f4)).f1) ((rd_T34 l0 ((rd_T34 l0 0).f4)).f2) ((rd_T34 l0 ((rd_T34 l0 0).f4)).f3) ((rd_T34 l0 ((rd_T34 l0 0).f4)).f4) ((rd_T34 l0 ((rd_T34 l0 0).f4)).f5)).bind fun t568 => (if t568 = true then (some ((-1), true)) else ((larchref16_top.f l0 ((rd_T34 l0 0).f4)).bind fun t569 => (if t569 = true then ((larchref16_Rows.f k l0 ((rd_T34 l0 ((rd_T34 l0 0).f4)).f4)).bind fun t571 => (larchref16_Crown.l0 k l0 ((rd_T34 l0 0).f4) t571 0)) else (some (0, false)))))) else (none)) else (none)) else (none)) else (some (0, false)))
theorem larchref16_Crown.mono_l : ∀ k, (∀ y0 y1 y2 y3, LeO (larchref16_Crown.l0 k y0 y1 y2 y3) (larchref16_Crown.l0 (k + 1) y0 y1 y2 y3))
 | 0 => fun _ _ _ _ r h => by simp [larchref16_Crown.l0] at h
 | k + 1 => by
  have ih0 := larchref16_Crown.mono_l k
  ·intro y0 y1 y2 y3
   unfold larchref16_Crown.l0
   repeat' first
   | (with_reducible exact ih0 _ _ _ _)
   | (with_reducible exact larchref16_Rows.mono _ _ _)
   | (with_reducible exact LeO.refl _)
   | (with_reducible exact LeO.none _)
   | (with_reducible refine LeO.ite ?_ ?_)
   | (with_reducible refine LeO.bind ?_ (fun _ => ?_))
   | exact ih0 _ _ _ _
   | exact larchref16_Rows.mono _ _ _
   | exact LeO.none _
   | refine LeO.ite ?_ ?_
   | refine LeO.bind ?_ (fun _ => ?_)
theorem larchref16_Crown.mono : ∀ a0 k, LeO (larchref16_Crown.f k a0) (larchref16_Crown.f (k + 1) a0) := by
 intro a0 k
 have ih0 := larchref16_Crown.mono_l k
 unfold larchref16_Crown.f
 repeat' first
   | (with_reducible exact ih0 _ _ _ _)
   | (with_reducible exact larchref16_Rows.mono _ _ _)
   | (with_reducible exact LeO.refl _)
   | (with_reducible exact LeO.none _)
   | (with_reducible refine LeO.ite ?_ ?_)
   | (with_reducible refine LeO.bind ?_ (fun _ => ?_))
   | exact ih0 _ _ _ _
   | exact larchref16_Rows.mono _ _ _
   | exact LeO.none _
   | refine LeO.ite ?_ ?_
   | refine LeO.bind ?_ (fun _ => ?_)
set_option maxHeartbeats 8000000 in
set_option maxRecDepth 100000 in
theorem larchref16_Crown.calls (k : Nat) (A0 : Option Addr) (c0 : Nat) (l0 : List (S34)) (r1 : Int) (r2 : Bool) (w : World) (hr0 : Kd.C k34 w A0 l0.length l0) (hc0 : l0.length ≤ c0) (h : larchref16_Crown.f k l0 = some (r1, r2)) :
  Calls Try.prog 76 #[.slice A0 l0.length c0] w fun e w' => e = .returned (.tuple #[.int .i64 r1, .bool r2]) ∧ Below w.heap.size w w' := by
 have hu34 := Try.underlying34
 have HR0 := Am hr0
 have HC0 := Am hc0
 clear hr0 hc0
 have HB := Am (Below.refl w.heap.size w)
 have H : ((larchref16_top.f l0 0).bind fun t565 => (if t565 = true then (if 0 < (l0.length : Int) then (if 0 ≤ ((rd_T34 l0 0).f4) then (if ((rd_T34 l0 0).f4) < (l0.length : Int) then ((larchref16_end.f ((rd_T34 l0 ((rd_T34 l0 0).f4)).f0) ((rd_T34 l0 ((rd_T34 l0 0).f4)).f1) ((rd_T34 l0 ((rd_T34 l0 0).f4)).f2) ((rd_T34 l0 ((rd_T34 l0 0).f4)).f3) ((rd_T34 l0 ((rd_T34 l0 0).f4)).f4) ((rd_T34 l0 ((rd_T34 l0 0).f4)).f5)).bind fun t568 => (if t568 = true then (some ((-1), true)) else ((larchref16_top.f l0 ((rd_T34 l0 0).f4)).bind fun t569 => (if t569 = true then ((larchref16_Rows.f k l0 ((rd_T34 l0 ((rd_T34 l0 0).f4)).f4)).bind fun t571 => (larchref16_Crown.l0 k l0 ((rd_T34 l0 0).f4) t571 0)) else (some (0, false)))))) else (none)) else (none)) else (none)) else (some (0, false)))) = some (r1, r2) := h
 clear h
 replace H := Option.bind_eq_some_iff.mp H
 obtain ⟨t565, A20, H⟩ := H
 replace H : (if t565 = true then (if 0 < (l0.length : Int) then (if 0 ≤ ((rd_T34 l0 0).f4) then (if ((rd_T34 l0 0).f4) < (l0.length : Int) then ((larchref16_end.f ((rd_T34 l0 ((rd_T34 l0 0).f4)).f0) ((rd_T34 l0 ((rd_T34 l0 0).f4)).f1) ((rd_T34 l0 ((rd_T34 l0 0).f4)).f2) ((rd_T34 l0 ((rd_T34 l0 0).f4)).f3) ((rd_T34 l0 ((rd_T34 l0 0).f4)).f4) ((rd_T34 l0 ((rd_T34 l0 0).f4)).f5)).bind fun t568 => (if t568 = true then (some ((-1), true)) else ((larchref16_top.f l0 ((rd_T34 l0 0).f4)).bind fun t569 => (if t569 = true then ((larchref16_Rows.f k l0 ((rd_T34 l0 ((rd_T34 l0 0).f4)).f4)).bind fun t571 => (larchref16_Crown.l0 k l0 ((rd_T34 l0 0).f4) t571 0)) else (some (0, false)))))) else (none)) else (none)) else (none)) else (some (0, false))) = some (r1, r2) := H
 have A2 := Am A20
 clear A20
 by_cases c3 : t565 = true
 ·subst c3
  have H1 : (if 0 < (l0.length : Int) then (if 0 ≤ ((rd_T34 l0 0).f4) then (if ((rd_T34 l0 0).f4) < (l0.length : Int) then ((larchref16_end.f ((rd_T34 l0 ((rd_T34 l0 0).f4)).f0) ((rd_T34 l0 ((rd_T34 l0 0).f4)).f1) ((rd_T34 l0 ((rd_T34 l0 0).f4)).f2) ((rd_T34 l0 ((rd_T34 l0 0).f4)).f3) ((rd_T34 l0 ((rd_T34 l0 0).f4)).f4) ((rd_T34 l0 ((rd_T34 l0 0).f4)).f5)).bind fun t568 => (if t568 = true then (some ((-1), true)) else ((larchref16_top.f l0 ((rd_T34 l0 0).f4)).bind fun t569 => (if t569 = true then ((larchref16_Rows.f k l0 ((rd_T34 l0 ((rd_T34 l0 0).f4)).f4)).bind fun t571 => (larchref16_Crown.l0 k l0 ((rd_T34 l0 0).f4) t571 0)) else (some (0, false)))))) else (none)) else (none)) else (none)) = some (r1, r2) := by rw [if_pos rfl] at H; exact H
  clear H
  have H := H1
  clear H1
  by_cases c4 : 0 < (l0.length : Int)
  ·rw [if_pos c4] at H
   have c4b0 : decide (0 < (l0.length : Int)) = true := decide_eq_true c4
   have c4b1 : decide (0 < l0.length) = true := decide_eq_true (by omega)
   clear c4
   by_cases c5 : 0 ≤ ((rd_T34 l0 0).f4)
   ·rw [if_pos c5] at H
    have c5b0 : decide (0 ≤ ((rd_T34 l0 0).f4)) = true := decide_eq_true c5
    clear c5
    by_cases c6 : ((rd_T34 l0 0).f4) < (l0.length : Int)
    ·rw [if_pos c6] at H
     have c6b0 : decide (((rd_T34 l0 0).f4) < (l0.length : Int)) = true := decide_eq_true c6
     clear c6
     replace H := Option.bind_eq_some_iff.mp H
     obtain ⟨t568, A70, H⟩ := H
     replace H : (if t568 = true then (some ((-1), true)) else ((larchref16_top.f l0 ((rd_T34 l0 0).f4)).bind fun t569 => (if t569 = true then ((larchref16_Rows.f k l0 ((rd_T34 l0 ((rd_T34 l0 0).f4)).f4)).bind fun t571 => (larchref16_Crown.l0 k l0 ((rd_T34 l0 0).f4) t571 0)) else (some (0, false))))) = some (r1, r2) := H
     have A7 := Am A70
     clear A70
     by_cases c8 : t568 = true
     ·subst c8
      have H1 : (some ((-1), true)) = some (r1, r2) := by rw [if_pos rfl] at H; exact H
      clear H
      have H := H1
      clear H1
      simp only [Option.some.injEq, Prod.mk.injEq] at H
      obtain ⟨rfl, rfl⟩ := H
      go_enter Try.func76, Try.ntmps76
      go_wp2_with (first | ((with_reducible refine gate_callee (f := 97) rfl ?_); refine goesL_ (some 8) rfl rfl Try.func97 (by kernel_rfl) rfl #[.slice A0 l0.length c0, .int .i64 0] rfl (by (try simp only [List.map_toArray, List.map_cons, List.map_nil]); first | done | rfl | (simp only [List.length_drop, List.length_take]; rfl)) ?_; (with_reducible refine (larchref16_top.calls _ _ l0 0 true _ ?side1 ?side2 A2.out).mono ?_); (case side1 => repeat (first | exact HR0.out | (with_reducible refine Kd.C_alloc ?_ _) | (with_reducible refine Kd.C_drewN ?_ _) | (with_reducible refine Kd.C_drew ?_))); (case side2 => exact HC0.out); rintro e w9 ⟨rfl, hb⟩; refine ⟨_, rfl, ?_⟩; have n0_ := Am (below_step (by repeat (first | (with_reducible first | exact HB.out | apply ba | apply bn | apply bd) | exact HB.out)) hb); clear HB; have HB := n0_; clear n0_; (try clear hb); (try clear hb2); (try clear hk); (try clear hi); have p566 : 0 ≤ (0 : Int) := (by omega); have q566 : 0 < (l0.length : Int) := of_decide_eq_true (by first | (with_reducible assumption) | assumption); obtain ⟨ad566, e566, hx566_0, hx566_1, hx566_2, hx566_3, hx566_4, hx566_5⟩ := at_T34 HR0.out 0 p566 q566; cases e566; have qi566 : (0 < l0.length) = True := eq_true (by omega); (try rw [show ((0 : Int)).toNat = 0 from rfl] at hx566_0); (try rw [show 0 * 6 = 0 from rfl] at hx566_0); (try rw [Addr.add_zero'] at hx566_0); (try rw [show ((0 : Int)).toNat = 0 from rfl] at hx566_1); (try rw [show 0 * 6 = 0 from rfl] at hx566_1); (try rw [Addr.add_zero'] at hx566_1); (try rw [show ((0 : Int)).toNat = 0 from rfl] at hx566_2); (try rw [show 0 * 6 = 0 from rfl] at hx566_2); (try rw [Addr.add_zero'] at hx566_2); (try rw [show ((0 : Int)).toNat = 0 from rfl] at hx566_3); (try rw [show 0 * 6 = 0 from rfl] at hx566_3); (try rw [Addr.add_zero'] at hx566_3); (try rw [show ((0 : Int)).toNat = 0 from rfl] at hx566_4); (try rw [show 0 * 6 = 0 from rfl] at hx566_4); (try rw [Addr.add_zero'] at hx566_4); (try rw [show ((0 : Int)).toNat = 0 from rfl] at hx566_5); (try rw [show 0 * 6 = 0 from rfl] at hx566_5); (try rw [Addr.add_zero'] at hx566_5); replace hx566_0 := (HB.out.cell (blt w _ hx566_0)).trans hx566_0; replace hx566_1 := (HB.out.cell (blt w _ hx566_1)).trans hx566_1; replace hx566_2 := (HB.out.cell (blt w _ hx566_2)).trans hx566_2; replace hx566_3 := (HB.out.cell (blt w _ hx566_3)).trans hx566_3; replace hx566_4 := (HB.out.cell (blt w _ hx566_4)).trans hx566_4; replace hx566_5 := (HB.out.cell (blt w _ hx566_5)).trans hx566_5; replace p566 := eq_true p566; replace q566 := eq_true q566; have p567 : 0 ≤ (((rd_T34 l0 0).f4) : Int) := of_decide_eq_true (by first | (with_reducible assumption) | assumption); have q567 : ((rd_T34 l0 0).f4) < (l0.length : Int) := of_decide_eq_true (by first | (with_reducible assumption) | assumption); obtain ⟨ad567, e567, hx567_0, hx567_1, hx567_2, hx567_3, hx567_4, hx567_5⟩ := at_T34 HR0.out ((rd_T34 l0 0).f4) p567 q567; obtain rfl : ad566 = ad567 := (by injection e567); replace hx567_0 := (HB.out.cell (blt w _ hx567_0)).trans hx567_0; replace hx567_1 := (HB.out.cell (blt w _ hx567_1)).trans hx567_1; replace hx567_2 := (HB.out.cell (blt w _ hx567_2)).trans hx567_2; replace hx567_3 := (HB.out.cell (blt w _ hx567_3)).trans hx567_3; replace hx567_4 := (HB.out.cell (blt w _ hx567_4)).trans hx567_4; replace hx567_5 := (HB.out.cell (blt w _ hx567_5)).trans hx567_5; replace p567 := eq_true p567; replace q567 := eq_true q567) | ((with_reducible refine gate_callee (f := 98) rfl ?_); refine goesL_ (some 18) rfl rfl Try.func98 (by kernel_rfl) rfl #[.agg #[.int .i64 ((rd_T34 l0 ((rd_T34 l0 0).f4)).f0), .int .i64 ((rd_T34 l0 ((rd_T34 l0 0).f4)).f1), .int .i64 ((rd_T34 l0 ((rd_T34 l0 0).f4)).f2), .int .i64 ((rd_T34 l0 ((rd_T34 l0 0).f4)).f3), .int .i64 ((rd_T34 l0 ((rd_T34 l0 0).f4)).f4), .int .i64 ((rd_T34 l0 ((rd_T34 l0 0).f4)).f5)]] rfl (by (try simp only [List.map_toArray, List.map_cons, List.map_nil]); first | done | rfl | (simp only [List.length_drop, List.length_take]; rfl)) ?_; (with_reducible refine (larchref16_end.calls ((rd_T34 l0 ((rd_T34 l0 0).f4)).f0) ((rd_T34 l0 ((rd_T34 l0 0).f4)).f1) ((rd_T34 l0 ((rd_T34 l0 0).f4)).f2) ((rd_T34 l0 ((rd_T34 l0 0).f4)).f3) ((rd_T34 l0 ((rd_T34 l0 0).f4)).f4) ((rd_T34 l0 ((rd_T34 l0 0).f4)).f5) true _ A7.out).mono ?_); rintro e w10 ⟨rfl, hb⟩; refine ⟨_, rfl, ?_⟩; have n0_ := Am (below_step (by repeat (first | (with_reducible first | exact HB.out | apply ba | apply bn | apply bd) | exact HB.out)) hb); clear HB; have HB := n0_; clear n0_; (try clear hb); (try clear hb2); (try clear hk); (try clear hi)))
      go_ret2
      exact ⟨by first | rfl | (simp [errW_none, errW_some] <;> rfl) | (simp [*, errW_none, errW_some] <;> rfl), by repeat (first | (with_reducible first | exact HB.out | apply ba | apply bn | apply bd) | exact HB.out)⟩
     ·replace c8 := Bool.eq_false_iff.mpr c8
      subst c8
      have H1 : ((larchref16_top.f l0 ((rd_T34 l0 0).f4)).bind fun t569 => (if t569 = true then ((larchref16_Rows.f k l0 ((rd_T34 l0 ((rd_T34 l0 0).f4)).f4)).bind fun t571 => (larchref16_Crown.l0 k l0 ((rd_T34 l0 0).f4) t571 0)) else (some (0, false)))) = some (r1, r2) := by rw [if_neg (show ¬ (false = true) by decide)] at H; exact H
      clear H
      have H := H1
      clear H1
      replace H := Option.bind_eq_some_iff.mp H
      obtain ⟨t569, A110, H⟩ := H
      replace H : (if t569 = true then ((larchref16_Rows.f k l0 ((rd_T34 l0 ((rd_T34 l0 0).f4)).f4)).bind fun t571 => (larchref16_Crown.l0 k l0 ((rd_T34 l0 0).f4) t571 0)) else (some (0, false))) = some (r1, r2) := H
      have A11 := Am A110
      clear A110
      by_cases c12 : t569 = true
      ·subst c12
       have H1 : ((larchref16_Rows.f k l0 ((rd_T34 l0 ((rd_T34 l0 0).f4)).f4)).bind fun t571 => (larchref16_Crown.l0 k l0 ((rd_T34 l0 0).f4) t571 0)) = some (r1, r2) := by rw [if_pos rfl] at H; exact H
       clear H
       have H := H1
       clear H1
       replace H := Option.bind_eq_some_iff.mp H
       obtain ⟨t571, A130, H⟩ := H
       replace H : (larchref16_Crown.l0 k l0 ((rd_T34 l0 0).f4) t571 0) = some (r1, r2) := H
       have A13 := Am A130
       clear A130
       have H' := Am H
       clear H
       go_enter Try.func76, Try.ntmps76
       go_wp2_with (first | ((with_reducible refine gate_callee (f := 97) rfl ?_); refine goesL_ (some 8) rfl rfl Try.func97 (by kernel_rfl) rfl #[.slice A0 l0.length c0, .int .i64 0] rfl (by (try simp only [List.map_toArray, List.map_cons, List.map_nil]); first | done | rfl | (simp only [List.length_drop, List.length_take]; rfl)) ?_; (with_reducible refine (larchref16_top.calls _ _ l0 0 true _ ?side1 ?side2 A2.out).mono ?_); (case side1 => repeat (first | exact HR0.out | (with_reducible refine Kd.C_alloc ?_ _) | (with_reducible refine Kd.C_drewN ?_ _) | (with_reducible refine Kd.C_drew ?_))); (case side2 => exact HC0.out); rintro e w14 ⟨rfl, hb⟩; refine ⟨_, rfl, ?_⟩; have n0_ := Am (below_step (by repeat (first | (with_reducible first | exact HB.out | apply ba | apply bn | apply bd) | exact HB.out)) hb); clear HB; have HB := n0_; clear n0_; (try clear hb); (try clear hb2); (try clear hk); (try clear hi); have p566 : 0 ≤ (0 : Int) := (by omega); have q566 : 0 < (l0.length : Int) := of_decide_eq_true (by first | (with_reducible assumption) | assumption); obtain ⟨ad566, e566, hx566_0, hx566_1, hx566_2, hx566_3, hx566_4, hx566_5⟩ := at_T34 HR0.out 0 p566 q566; cases e566; have qi566 : (0 < l0.length) = True := eq_true (by omega); (try rw [show ((0 : Int)).toNat = 0 from rfl] at hx566_0); (try rw [show 0 * 6 = 0 from rfl] at hx566_0); (try rw [Addr.add_zero'] at hx566_0); (try rw [show ((0 : Int)).toNat = 0 from rfl] at hx566_1); (try rw [show 0 * 6 = 0 from rfl] at hx566_1); (try rw [Addr.add_zero'] at hx566_1); (try rw [show ((0 : Int)).toNat = 0 from rfl] at hx566_2); (try rw [show 0 * 6 = 0 from rfl] at hx566_2); (try rw [Addr.add_zero'] at hx566_2); (try rw [show ((0 : Int)).toNat = 0 from rfl] at hx566_3); (try rw [show 0 * 6 = 0 from rfl] at hx566_3); (try rw [Addr.add_zero'] at hx566_3); (try rw [show ((0 : Int)).toNat = 0 from rfl] at hx566_4); (try rw [show 0 * 6 = 0 from rfl] at hx566_4); (try rw [Addr.add_zero'] at hx566_4); (try rw [show ((0 : Int)).toNat = 0 from rfl] at hx566_5); (try rw [show 0 * 6 = 0 from rfl] at hx566_5); (try rw [Addr.add_zero'] at hx566_5); replace hx566_0 := (HB.out.cell (blt w _ hx566_0)).trans hx566_0; replace hx566_1 := (HB.out.cell (blt w _ hx566_1)).trans hx566_1; replace hx566_2 := (HB.out.cell (blt w _ hx566_2)).trans hx566_2; replace hx566_3 := (HB.out.cell (blt w _ hx566_3)).trans hx566_3; replace hx566_4 := (HB.out.cell (blt w _ hx566_4)).trans hx566_4; replace hx566_5 := (HB.out.cell (blt w _ hx566_5)).trans hx566_5; replace p566 := eq_true p566; replace q566 := eq_true q566; have p567 : 0 ≤ (((rd_T34 l0 0).f4) : Int) := of_decide_eq_true (by first | (with_reducible assumption) | assumption); have q567 : ((rd_T34 l0 0).f4) < (l0.length : Int) := of_decide_eq_true (by first | (with_reducible assumption) | assumption); obtain ⟨ad567, e567, hx567_0, hx567_1, hx567_2, hx567_3, hx567_4, hx567_5⟩ := at_T34 HR0.out ((rd_T34 l0 0).f4) p567 q567; obtain rfl : ad566 = ad567 := (by injection e567); replace hx567_0 := (HB.out.cell (blt w _ hx567_0)).trans hx567_0; replace hx567_1 := (HB.out.cell (blt w _ hx567_1)).trans hx567_1; replace hx567_2 := (HB.out.cell (blt w _ hx567_2)).trans hx567_2; replace hx567_3 := (HB.out.cell (blt w _ hx567_3)).trans hx567_3; replace hx567_4 := (HB.out.cell (blt w _ hx567_4)).trans hx567_4; replace hx567_5 := (HB.out.cell (blt w _ hx567_5)).trans hx567_5; replace p567 := eq_true p567; replace q567 := eq_true q567) | ((with_reducible refine gate_callee (f := 98) rfl ?_); refine goesL_ (some 18) rfl rfl Try.func98 (by kernel_rfl) rfl #[.agg #[.int .i64 ((rd_T34 l0 ((rd_T34 l0 0).f4)).f0), .int .i64 ((rd_T34 l0 ((rd_T34 l0 0).f4)).f1), .int .i64 ((rd_T34 l0 ((rd_T34 l0 0).f4)).f2), .int .i64 ((rd_T34 l0 ((rd_T34 l0 0).f4)).f3), .int .i64 ((rd_T34 l0 ((rd_T34 l0 0).f4)).f4), .int .i64 ((rd_T34 l0 ((rd_T34 l0 0).f4)).f5)]] rfl (by (try simp only [List.map_toArray, List.map_cons, List.map_nil]); first | done | rfl | (simp only [List.length_drop, List.length_take]; rfl)) ?_; (with_reducible refine (larchref16_end.calls ((rd_T34 l0 ((rd_T34 l0 0).f4)).f0) ((rd_T34 l0 ((rd_T34 l0 0).f4)).f1) ((rd_T34 l0 ((rd_T34 l0 0).f4)).f2) ((rd_T34 l0 ((rd_T34 l0 0).f4)).f3) ((rd_T34 l0 ((rd_T34 l0 0).f4)).f4) ((rd_T34 l0 ((rd_T34 l0 0).f4)).f5) false _ A7.out).mono ?_); rintro e w15 ⟨rfl, hb⟩; refine ⟨_, rfl, ?_⟩; have n0_ := Am (below_step (by repeat (first | (with_reducible first | exact HB.out | apply ba | apply bn | apply bd) | exact HB.out)) hb); clear HB; have HB := n0_; clear n0_; (try clear hb); (try clear hb2); (try clear hk); (try clear hi)) | ((with_reducible refine gate_callee (f := 97) rfl ?_); refine goesL_ (some 21) rfl rfl Try.func97 (by kernel_rfl) rfl #[.slice (some ad566) l0.length c0, .int .i64 ((rd_T34 l0 0).f4)] rfl (by (try simp only [List.map_toArray, List.map_cons, List.map_nil]); first | done | rfl | (simp only [List.length_drop, List.length_take]; rfl)) ?_; (with_reducible refine (larchref16_top.calls _ _ l0 ((rd_T34 l0 0).f4) true _ ?side1 ?side2 A11.out).mono ?_); (case side1 => repeat (first | exact (Kd.C_below HR0.out HB.out) | (with_reducible refine Kd.C_alloc ?_ _) | (with_reducible refine Kd.C_drewN ?_ _) | (with_reducible refine Kd.C_drew ?_))); (case side2 => exact HC0.out); rintro e w16 ⟨rfl, hb⟩; refine ⟨_, rfl, ?_⟩; have n0_ := Am (below_step (by repeat (first | (with_reducible first | exact HB.out | apply ba | apply bn | apply bd) | exact HB.out)) hb); clear HB; have HB := n0_; clear n0_; (try clear hb); (try clear hb2); (try clear hk); (try clear hi); have p570 : 0 ≤ (((rd_T34 l0 0).f4) : Int) := of_decide_eq_true (by first | (with_reducible assumption) | assumption); have q570 : ((rd_T34 l0 0).f4) < (l0.length : Int) := of_decide_eq_true (by first | (with_reducible assumption) | assumption); obtain ⟨ad570, e570, hx570_0, hx570_1, hx570_2, hx570_3, hx570_4, hx570_5⟩ := at_T34 HR0.out ((rd_T34 l0 0).f4) p570 q570; obtain rfl : ad566 = ad570 := (by injection e570); replace hx570_0 := (HB.out.cell (blt w _ hx570_0)).trans hx570_0; replace hx570_1 := (HB.out.cell (blt w _ hx570_1)).trans hx570_1; replace hx570_2 := (HB.out.cell (blt w _ hx570_2)).trans hx570_2; replace hx570_3 := (HB.out.cell (blt w _ hx570_3)).trans hx570_3; replace hx570_4 := (HB.out.cell (blt w _ hx570_4)).trans hx570_4; replace hx570_5 := (HB.out.cell (blt w _ hx570_5)).trans hx570_5; replace p570 := eq_true p570; replace q570 := eq_true q570) | ((with_reducible refine gate_callee (f := 99) rfl ?_); refine goesL_ (some 29) rfl rfl Try.func99 (by kernel_rfl) rfl #[.slice (some ad566) l0.length c0, .int .i64 ((rd_T34 l0 ((rd_T34 l0 0).f4)).f4)] rfl (by (try simp only [List.map_toArray, List.map_cons, List.map_nil]); first | done | rfl | (simp only [List.length_drop, List.length_take]; rfl)) ?_; (with_reducible refine (larchref16_Rows.calls k _ _ l0 ((rd_T34 l0 ((rd_T34 l0 0).f4)).f4) t571 _ ?side1 ?side2 A13.out).mono ?_); (case side1 => repeat (first | exact (Kd.C_below HR0.out HB.out) | (with_reducible refine Kd.C_alloc ?_ _) | (with_reducible refine Kd.C_drewN ?_ _) | (with_reducible refine Kd.C_drew ?_))); (case side2 => exact HC0.out); rintro e w17 ⟨v572, rfl, ho0, hb⟩; refine ⟨_, rfl, ?_⟩; have n0_ := Am (Kd.R_lower ho0 (below_size (by repeat (first | (with_reducible first | exact HB.out | apply ba | apply bn | apply bd) | exact HB.out)))); have n1_ := Am (below_step (by repeat (first | (with_reducible first | exact HB.out | apply ba | apply bn | apply bd) | exact HB.out)) hb); clear HB; have HO573 := n0_; have HB := n1_; clear n0_ n1_; (try clear hb); (try clear hb2); (try clear hk); (try clear hi); (try clear ho0)))
       go_loopg [6] k (fun kq v6 w' => ∃ (x6_1 : Int), v6 = .int .i64 x6_1 ∧ Aside0 (larchref16_Crown.l0 kq l0 ((rd_T34 l0 0).f4) t571 x6_1 = some (r1, r2)) ∧ Aside0 (kq ≤ k) ∧ Aside0 (Kd.R (Kd.int .i64) 3 w' w.heap.size (fun _ => True) v572 t571) ∧ Aside0 (Below w.heap.size w w'))
       case atStart => exact ⟨(0), (by first | rfl | (simp; done) | (simp [*]; done)), H', ⟨Nat.le_refl _⟩, ⟨by (with_reducible repeat (first | apply Kd.R_alloc | apply Kd.R_drewN | apply Kd.R_drew)); exact HO573.out⟩, ⟨by repeat (first | (with_reducible first | exact HB.out | apply ba | apply bn | apply bd) | exact HB.out)⟩⟩
       case round =>
        clear H'
        try clear c1
        try clear p2
        try clear c3
        try clear c4
        try clear c4b0
        try clear c4b1
        try clear c5
        try clear c5b0
        try clear p5
        try clear q5
        try clear hx5
        try clear qi5
        try clear c6
        try clear c6b0
        try clear c7
        try clear c8
        try clear c9
        try clear c12
        try clear hx566_0
        try clear hx566_1
        try clear hx566_2
        try clear hx566_3
        try clear hx566_4
        try clear hx566_5
        try clear hx567_0
        try clear hx567_1
        try clear hx567_2
        try clear hx567_3
        try clear hx567_4
        try clear hx567_5
        try clear hx570_0
        try clear hx570_1
        try clear hx570_2
        try clear hx570_3
        try clear hx570_4
        try clear hx570_5
        try clear p566
        try clear p567
        try clear p570
        try clear q566
        try clear q567
        try clear q570
        obtain ⟨x6_1, rfl, HA, HK1, HO_5, HB⟩ := hrel
        cases gk with
        | zero => exact absurd HA.out (by simp [larchref16_Crown.l0])
        | succ k1 =>
         have H := HA.out
         clear HA
         simp only [larchref16_Crown.l0] at H
         by_cases c18 : x6_1 < (t571.length : Int)
         ·rw [if_pos c18] at H
          have c18b0 : decide (x6_1 < (t571.length : Int)) = true := decide_eq_true c18
          clear c18
          by_cases c19 : 0 ≤ x6_1
          ·rw [if_pos c19] at H
           have c19b0 : decide (0 ≤ x6_1) = true := decide_eq_true c19
           clear c19
           by_cases c20 : 0 ≤ (rd t571 x6_1)
           ·rw [if_pos c20] at H
            have c20b0 : decide (0 ≤ (rd t571 x6_1)) = true := decide_eq_true c20
            clear c20
            by_cases c21 : (rd t571 x6_1) < (l0.length : Int)
            ·rw [if_pos c21] at H
             have c21b0 : decide ((rd t571 x6_1) < (l0.length : Int)) = true := decide_eq_true c21
             clear c21
             by_cases c22 : ((rd_T34 l0 (rd t571 x6_1)).f1) = 0
             ·rw [if_pos c22] at H
              have c22b0 : (((rd_T34 l0 (rd t571 x6_1)).f1) == 0) = true := beq_iff_eq.mpr c22
              have c22b1 : (((rd_T34 l0 (rd t571 x6_1)).f1) != 0) = false := bne_eq_false_iff_eq.mpr c22
              clear c22
              have H' := Am H
              clear H
              obtain ⟨Ao23, co23, eo23⟩ := Kd.R_slice HO_5.out
              subst eo23
              have p574 : 0 ≤ (x6_1 : Int) := of_decide_eq_true (by first | (with_reducible assumption) | assumption)
              have q574 : x6_1 < (t571.length : Int) := of_decide_eq_true (by first | (with_reducible assumption) | assumption)
              obtain ⟨ad574, e574, hx574_0⟩ := Kd.at_int (Kd.R_reads' HO_5.out).2.2 x6_1 p574 q574
              cases e574
              replace p574 := eq_true p574
              replace q574 := eq_true q574
              have p575 : 0 ≤ ((rd t571 x6_1) : Int) := of_decide_eq_true (by first | (with_reducible assumption) | assumption)
              have q575 : (rd t571 x6_1) < (l0.length : Int) := of_decide_eq_true (by first | (with_reducible assumption) | assumption)
              obtain ⟨ad575, e575, hx575_0, hx575_1, hx575_2, hx575_3, hx575_4, hx575_5⟩ := at_T34 HR0.out (rd t571 x6_1) p575 q575
              obtain rfl : ad566 = ad575 := (by injection e575)
              replace hx575_0 := (HB.out.cell (blt w _ hx575_0)).trans hx575_0
              replace hx575_1 := (HB.out.cell (blt w _ hx575_1)).trans hx575_1
              replace hx575_2 := (HB.out.cell (blt w _ hx575_2)).trans hx575_2
              replace hx575_3 := (HB.out.cell (blt w _ hx575_3)).trans hx575_3
              replace hx575_4 := (HB.out.cell (blt w _ hx575_4)).trans hx575_4
              replace hx575_5 := (HB.out.cell (blt w _ hx575_5)).trans hx575_5
              replace p575 := eq_true p575
              replace q575 := eq_true q575
              go_wp2
              go_roundg k1
              case measure => have := HK1.out; omega
              case rel => exact ⟨(wrap64 (x6_1 + 1)), (by first | rfl | (simp; done) | (simp [*]; done)), H', ⟨by have := HK1.out; omega⟩, ⟨by (with_reducible repeat (first | apply Kd.R_alloc | apply Kd.R_drewN | apply Kd.R_drew)); exact HO_5.out⟩, ⟨by repeat (first | (with_reducible first | exact HB.out | apply ba | apply bn | apply bd) | exact HB.out)⟩⟩
             ·rw [if_neg c22] at H
              have c22b0 : (((rd_T34 l0 (rd t571 x6_1)).f1) == 0) = false := beq_eq_false_iff_ne.mpr c22
              have c22b1 : (((rd_T34 l0 (rd t571 x6_1)).f1) != 0) = true := bne_iff_ne.mpr c22
              simp only [Option.some.injEq, Prod.mk.injEq] at H
              obtain ⟨rfl, rfl⟩ := H
              obtain ⟨Ao24, co24, eo24⟩ := Kd.R_slice HO_5.out
              subst eo24
              have p574 : 0 ≤ (x6_1 : Int) := of_decide_eq_true (by first | (with_reducible assumption) | assumption)
              have q574 : x6_1 < (t571.length : Int) := of_decide_eq_true (by first | (with_reducible assumption) | assumption)
              obtain ⟨ad574, e574, hx574_0⟩ := Kd.at_int (Kd.R_reads' HO_5.out).2.2 x6_1 p574 q574
              cases e574
              replace p574 := eq_true p574
              replace q574 := eq_true q574
              have p575 : 0 ≤ ((rd t571 x6_1) : Int) := of_decide_eq_true (by first | (with_reducible assumption) | assumption)
              have q575 : (rd t571 x6_1) < (l0.length : Int) := of_decide_eq_true (by first | (with_reducible assumption) | assumption)
              obtain ⟨ad575, e575, hx575_0, hx575_1, hx575_2, hx575_3, hx575_4, hx575_5⟩ := at_T34 HR0.out (rd t571 x6_1) p575 q575
              obtain rfl : ad566 = ad575 := (by injection e575)
              replace hx575_0 := (HB.out.cell (blt w _ hx575_0)).trans hx575_0
              replace hx575_1 := (HB.out.cell (blt w _ hx575_1)).trans hx575_1
              replace hx575_2 := (HB.out.cell (blt w _ hx575_2)).trans hx575_2
              replace hx575_3 := (HB.out.cell (blt w _ hx575_3)).trans hx575_3
              replace hx575_4 := (HB.out.cell (blt w _ hx575_4)).trans hx575_4
              replace hx575_5 := (HB.out.cell (blt w _ hx575_5)).trans hx575_5
              replace p575 := eq_true p575
              replace q575 := eq_true q575
              go_wp2
              go_ret2
              exact ⟨by first | rfl | (simp [errW_none, errW_some] <;> rfl) | (simp [*, errW_none, errW_some] <;> rfl), by repeat (first | (with_reducible first | exact HB.out | apply ba | apply bn | apply bd) | exact HB.out)⟩
            ·rw [if_neg c21] at H
             exact absurd H (by simp)
           ·rw [if_neg c20] at H
            exact absurd H (by simp)
          ·rw [if_neg c19] at H
           exact absurd H (by simp)
         ·rw [if_neg c18] at H
          have c18b0 : decide (x6_1 < (t571.length : Int)) = false := decide_eq_false c18
          clear c18
          by_cases c25 : 0 ≤ ((rd_T34 l0 0).f4)
          ·rw [if_pos c25] at H
           have c25b0 : decide (0 ≤ ((rd_T34 l0 0).f4)) = true := decide_eq_true c25
           clear c25
           by_cases c26 : ((rd_T34 l0 0).f4) < (l0.length : Int)
           ·rw [if_pos c26] at H
            have c26b0 : decide (((rd_T34 l0 0).f4) < (l0.length : Int)) = true := decide_eq_true c26
            clear c26
            simp only [Option.some.injEq, Prod.mk.injEq] at H
            obtain ⟨rfl, rfl⟩ := H
            obtain ⟨Ao27, co27, eo27⟩ := Kd.R_slice HO_5.out
            subst eo27
            have p576 : 0 ≤ (((rd_T34 l0 0).f4) : Int) := of_decide_eq_true (by first | (with_reducible assumption) | assumption)
            have q576 : ((rd_T34 l0 0).f4) < (l0.length : Int) := of_decide_eq_true (by first | (with_reducible assumption) | assumption)
            obtain ⟨ad576, e576, hx576_0, hx576_1, hx576_2, hx576_3, hx576_4, hx576_5⟩ := at_T34 HR0.out ((rd_T34 l0 0).f4) p576 q576
            obtain rfl : ad566 = ad576 := (by injection e576)
            replace hx576_0 := (HB.out.cell (blt w _ hx576_0)).trans hx576_0
            replace hx576_1 := (HB.out.cell (blt w _ hx576_1)).trans hx576_1
            replace hx576_2 := (HB.out.cell (blt w _ hx576_2)).trans hx576_2
            replace hx576_3 := (HB.out.cell (blt w _ hx576_3)).trans hx576_3
            replace hx576_4 := (HB.out.cell (blt w _ hx576_4)).trans hx576_4
            replace hx576_5 := (HB.out.cell (blt w _ hx576_5)).trans hx576_5
            replace p576 := eq_true p576
            replace q576 := eq_true q576
            go_wp2
            go_ret2
            exact ⟨by first | rfl | (simp [errW_none, errW_some] <;> rfl) | (simp [*, errW_none, errW_some] <;> rfl), by repeat (first | (with_reducible first | exact HB.out | apply ba | apply bn | apply bd) | exact HB.out)⟩
           ·rw [if_neg c26] at H
            exact absurd H (by simp)
          ·rw [if_neg c25] at H
           exact absurd H (by simp)
      ·replace c12 := Bool.eq_false_iff.mpr c12
       subst c12
       have H1 : (some (0, false)) = some (r1, r2) := by rw [if_neg (show ¬ (false = true) by decide)] at H; exact H
       clear H
       have H := H1
       clear H1
       simp only [Option.some.injEq, Prod.mk.injEq] at H
       obtain ⟨rfl, rfl⟩ := H
       go_enter Try.func76, Try.ntmps76
       go_wp2_with (first | ((with_reducible refine gate_callee (f := 97) rfl ?_); refine goesL_ (some 8) rfl rfl Try.func97 (by kernel_rfl) rfl #[.slice A0 l0.length c0, .int .i64 0] rfl (by (try simp only [List.map_toArray, List.map_cons, List.map_nil]); first | done | rfl | (simp only [List.length_drop, List.length_take]; rfl)) ?_; (with_reducible refine (larchref16_top.calls _ _ l0 0 true _ ?side1 ?side2 A2.out).mono ?_); (case side1 => repeat (first | exact HR0.out | (with_reducible refine Kd.C_alloc ?_ _) | (with_reducible refine Kd.C_drewN ?_ _) | (with_reducible refine Kd.C_drew ?_))); (case side2 => exact HC0.out); rintro e w28 ⟨rfl, hb⟩; refine ⟨_, rfl, ?_⟩; have n0_ := Am (below_step (by repeat (first | (with_reducible first | exact HB.out | apply ba | apply bn | apply bd) | exact HB.out)) hb); clear HB; have HB := n0_; clear n0_; (try clear hb); (try clear hb2); (try clear hk); (try clear hi); have p566 : 0 ≤ (0 : Int) := (by omega); have q566 : 0 < (l0.length : Int) := of_decide_eq_true (by first | (with_reducible assumption) | assumption); obtain ⟨ad566, e566, hx566_0, hx566_1, hx566_2, hx566_3, hx566_4, hx566_5⟩ := at_T34 HR0.out 0 p566 q566; cases e566; have qi566 : (0 < l0.length) = True := eq_true (by omega); (try rw [show ((0 : Int)).toNat = 0 from rfl] at hx566_0); (try rw [show 0 * 6 = 0 from rfl] at hx566_0); (try rw [Addr.add_zero'] at hx566_0); (try rw [show ((0 : Int)).toNat = 0 from rfl] at hx566_1); (try rw [show 0 * 6 = 0 from rfl] at hx566_1); (try rw [Addr.add_zero'] at hx566_1); (try rw [show ((0 : Int)).toNat = 0 from rfl] at hx566_2); (try rw [show 0 * 6 = 0 from rfl] at hx566_2); (try rw [Addr.add_zero'] at hx566_2); (try rw [show ((0 : Int)).toNat = 0 from rfl] at hx566_3); (try rw [show 0 * 6 = 0 from rfl] at hx566_3); (try rw [Addr.add_zero'] at hx566_3); (try rw [show ((0 : Int)).toNat = 0 from rfl] at hx566_4); (try rw [show 0 * 6 = 0 from rfl] at hx566_4); (try rw [Addr.add_zero'] at hx566_4); (try rw [show ((0 : Int)).toNat = 0 from rfl] at hx566_5); (try rw [show 0 * 6 = 0 from rfl] at hx566_5); (try rw [Addr.add_zero'] at hx566_5); replace hx566_0 := (HB.out.cell (blt w _ hx566_0)).trans hx566_0; replace hx566_1 := (HB.out.cell (blt w _ hx566_1)).trans hx566_1; replace hx566_2 := (HB.out.cell (blt w _ hx566_2)).trans hx566_2; replace hx566_3 := (HB.out.cell (blt w _ hx566_3)).trans hx566_3; replace hx566_4 := (HB.out.cell (blt w _ hx566_4)).trans hx566_4; replace hx566_5 := (HB.out.cell (blt w _ hx566_5)).trans hx566_5; replace p566 := eq_true p566; replace q566 := eq_true q566; have p567 : 0 ≤ (((rd_T34 l0 0).f4) : Int) := of_decide_eq_true (by first | (with_reducible assumption) | assumption); have q567 : ((rd_T34 l0 0).f4) < (l0.length : Int) := of_decide_eq_true (by first | (with_reducible assumption) | assumption); obtain ⟨ad567, e567, hx567_0, hx567_1, hx567_2, hx567_3, hx567_4, hx567_5⟩ := at_T34 HR0.out ((rd_T34 l0 0).f4) p567 q567; obtain rfl : ad566 = ad567 := (by injection e567); replace hx567_0 := (HB.out.cell (blt w _ hx567_0)).trans hx567_0; replace hx567_1 := (HB.out.cell (blt w _ hx567_1)).trans hx567_1; replace hx567_2 := (HB.out.cell (blt w _ hx567_2)).trans hx567_2; replace hx567_3 := (HB.out.cell (blt w _ hx567_3)).trans hx567_3; replace hx567_4 := (HB.out.cell (blt w _ hx567_4)).trans hx567_4; replace hx567_5 := (HB.out.cell (blt w _ hx567_5)).trans hx567_5; replace p567 := eq_true p567; replace q567 := eq_true q567) | ((with_reducible refine gate_callee (f := 98) rfl ?_); refine goesL_ (some 18) rfl rfl Try.func98 (by kernel_rfl) rfl #[.agg #[.int .i64 ((rd_T34 l0 ((rd_T34 l0 0).f4)).f0), .int .i64 ((rd_T34 l0 ((rd_T34 l0 0).f4)).f1), .int .i64 ((rd_T34 l0 ((rd_T34 l0 0).f4)).f2), .int .i64 ((rd_T34 l0 ((rd_T34 l0 0).f4)).f3), .int .i64 ((rd_T34 l0 ((rd_T34 l0 0).f4)).f4), .int .i64 ((rd_T34 l0 ((rd_T34 l0 0).f4)).f5)]] rfl (by (try simp only [List.map_toArray, List.map_cons, List.map_nil]); first | done | rfl | (simp only [List.length_drop, List.length_take]; rfl)) ?_; (with_reducible refine (larchref16_end.calls ((rd_T34 l0 ((rd_T34 l0 0).f4)).f0) ((rd_T34 l0 ((rd_T34 l0 0).f4)).f1) ((rd_T34 l0 ((rd_T34 l0 0).f4)).f2) ((rd_T34 l0 ((rd_T34 l0 0).f4)).f3) ((rd_T34 l0 ((rd_T34 l0 0).f4)).f4) ((rd_T34 l0 ((rd_T34 l0 0).f4)).f5) false _ A7.out).mono ?_); rintro e w29 ⟨rfl, hb⟩; refine ⟨_, rfl, ?_⟩; have n0_ := Am (below_step (by repeat (first | (with_reducible first | exact HB.out | apply ba | apply bn | apply bd) | exact HB.out)) hb); clear HB; have HB := n0_; clear n0_; (try clear hb); (try clear hb2); (try clear hk); (try clear hi)) | ((with_reducible refine gate_callee (f := 97) rfl ?_); refine goesL_ (some 21) rfl rfl Try.func97 (by kernel_rfl) rfl #[.slice (some ad566) l0.length c0, .int .i64 ((rd_T34 l0 0).f4)] rfl (by (try simp only [List.map_toArray, List.map_cons, List.map_nil]); first | done | rfl | (simp only [List.length_drop, List.length_take]; rfl)) ?_; (with_reducible refine (larchref16_top.calls _ _ l0 ((rd_T34 l0 0).f4) false _ ?side1 ?side2 A11.out).mono ?_); (case side1 => repeat (first | exact (Kd.C_below HR0.out HB.out) | (with_reducible refine Kd.C_alloc ?_ _) | (with_reducible refine Kd.C_drewN ?_ _) | (with_reducible refine Kd.C_drew ?_))); (case side2 => exact HC0.out); rintro e w30 ⟨rfl, hb⟩; refine ⟨_, rfl, ?_⟩; have n0_ := Am (below_step (by repeat (first | (with_reducible first | exact HB.out | apply ba | apply bn | apply bd) | exact HB.out)) hb); clear HB; have HB := n0_; clear n0_; (try clear hb); (try clear hb2); (try clear hk); (try clear hi)))
       go_ret2
       exact ⟨by first | rfl | (simp [errW_none, errW_some] <;> rfl) | (simp [*, errW_none, errW_some] <;> rfl), by repeat (first | (with_reducible first | exact HB.out | apply ba | apply bn | apply bd) | exact HB.out)⟩
    ·rw [if_neg c6] at H
     exact absurd H (by simp)
   ·rw [if_neg c5] at H
    exact absurd H (by simp)
  ·rw [if_neg c4] at H
   exact absurd H (by simp)
 ·replace c3 := Bool.eq_false_iff.mpr c3
  subst c3
  have H1 : (some (0, false)) = some (r1, r2) := by rw [if_neg (show ¬ (false = true) by decide)] at H; exact H
  clear H
  have H := H1
  clear H1
  simp only [Option.some.injEq, Prod.mk.injEq] at H
  obtain ⟨rfl, rfl⟩ := H
  go_enter Try.func76, Try.ntmps76
  go_wp2_with (first | ((with_reducible refine gate_callee (f := 97) rfl ?_); refine goesL_ (some 8) rfl rfl Try.func97 (by kernel_rfl) rfl #[.slice A0 l0.length c0, .int .i64 0] rfl (by (try simp only [List.map_toArray, List.map_cons, List.map_nil]); first | done | rfl | (simp only [List.length_drop, List.length_take]; rfl)) ?_; (with_reducible refine (larchref16_top.calls _ _ l0 0 false _ ?side1 ?side2 A2.out).mono ?_); (case side1 => repeat (first | exact HR0.out | (with_reducible refine Kd.C_alloc ?_ _) | (with_reducible refine Kd.C_drewN ?_ _) | (with_reducible refine Kd.C_drew ?_))); (case side2 => exact HC0.out); rintro e w31 ⟨rfl, hb⟩; refine ⟨_, rfl, ?_⟩; have n0_ := Am (below_step (by repeat (first | (with_reducible first | exact HB.out | apply ba | apply bn | apply bd) | exact HB.out)) hb); clear HB; have HB := n0_; clear n0_; (try clear hb); (try clear hb2); (try clear hk); (try clear hi)))
  go_ret2
  exact ⟨by first | rfl | (simp [errW_none, errW_some] <;> rfl) | (simp [*, errW_none, errW_some] <;> rfl), by repeat (first | (with_reducible first | exact HB.out | apply ba | apply bn | apply bd) | exact HB.out)⟩
end Go.Proofs.Ytgleaefhflamnaa.T
