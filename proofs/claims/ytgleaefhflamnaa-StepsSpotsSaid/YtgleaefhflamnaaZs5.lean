/- A part of the proof: see YtgleaefhflamnaaLawStepsSpots. -/
import Derived.IntWalk
import Derived.Test.YtgleaefhflamnaaZs4
set_option linter.unusedVariables false
set_option linter.unusedSimpArgs false
namespace Go.Proofs.Ytgleaefhflamnaa.T
open Go.RowKit Go.Proofs.YtgleaefhflamnaaW.PrintWords Go.Proofs.YtgleaefhflamnaaW.PrintLast Go.Proofs.YtgleaefhflamnaaW.PrintMore
attribute [local go_sem] max2_int min2_int max_two min_two max_three min_three max_four min_four   -- for this text's walks alone
set_option linter.unusedVariables false
set_option linter.unusedSimpArgs false
attribute [local go_sem high] eqA24
def larchref16_Root.f (k : Nat) (l0 : List (S34)) : Option (Int × Int) := (larchref16_Check.f k l0).bind fun t577 => (if t577 = 0 then ((larchref16_Crown.f k l0).bind fun bt578 => (if bt578.2 = true then (if bt578.1 = (-1) then (some (0, 4)) else (some (bt578.1, 0))) else (some (0, 3)))) else (some (0, t577)))
theorem larchref16_Root.mono : ∀ a0 k, LeO (larchref16_Root.f k a0) (larchref16_Root.f (k + 1) a0) := by
 intro a0 k
 unfold larchref16_Root.f
 repeat' first
   | (with_reducible exact larchref16_Check.mono _ _)
   | (with_reducible exact larchref16_Crown.mono _ _)
   | (with_reducible exact LeO.refl _)
   | (with_reducible exact LeO.none _)
   | (with_reducible refine LeO.ite ?_ ?_)
   | (with_reducible refine LeO.bind ?_ (fun _ => ?_))
   | exact larchref16_Check.mono _ _
   | exact larchref16_Crown.mono _ _
   | exact LeO.none _
   | refine LeO.ite ?_ ?_
   | refine LeO.bind ?_ (fun _ => ?_)
set_option maxHeartbeats 8000000 in
set_option maxRecDepth 100000 in
theorem larchref16_Root.calls (k : Nat) (A0 : Option Addr) (c0 : Nat) (l0 : List (S34)) (r1 : Int) (r2 : Int) (w : World) (hr0 : Kd.C k34 w A0 l0.length l0) (hc0 : l0.length ≤ c0) (h : larchref16_Root.f k l0 = some (r1, r2)) :
  Calls Try.prog 47 #[.slice A0 l0.length c0] w fun e w' => e = .returned (.tuple #[.int .i64 r1, .int .i64 r2]) ∧ Below w.heap.size w w' := by
 have HR0 := Am hr0
 have HC0 := Am hc0
 clear hr0 hc0
 have HB := Am (Below.refl w.heap.size w)
 have H : ((larchref16_Check.f k l0).bind fun t577 => (if t577 = 0 then ((larchref16_Crown.f k l0).bind fun bt578 => (if bt578.2 = true then (if bt578.1 = (-1) then (some (0, 4)) else (some (bt578.1, 0))) else (some (0, 3)))) else (some (0, t577)))) = some (r1, r2) := h
 clear h
 replace H := Option.bind_eq_some_iff.mp H
 obtain ⟨t577, A20, H⟩ := H
 replace H : (if t577 = 0 then ((larchref16_Crown.f k l0).bind fun bt578 => (if bt578.2 = true then (if bt578.1 = (-1) then (some (0, 4)) else (some (bt578.1, 0))) else (some (0, 3)))) else (some (0, t577))) = some (r1, r2) := H
 have A2 := Am A20
 clear A20
 by_cases c3 : t577 = 0
 ·rw [if_pos c3] at H
  have c3b0 : (t577 == 0) = true := beq_iff_eq.mpr c3
  have c3b1 : (t577 != 0) = false := bne_eq_false_iff_eq.mpr c3
  clear c3
  replace H := Option.bind_eq_some_iff.mp H
  obtain ⟨⟨t578, t579⟩, A40, H⟩ := H
  replace H : (if t579 = true then (if t578 = (-1) then (some (0, 4)) else (some (t578, 0))) else (some (0, 3))) = some (r1, r2) := H
  have A4 := Am A40
  clear A40
  by_cases c5 : t579 = true
  ·subst c5
   have H1 : (if t578 = (-1) then (some (0, 4)) else (some (t578, 0))) = some (r1, r2) := by rw [if_pos rfl] at H; exact H
   clear H
   have H := H1
   clear H1
   by_cases c6 : t578 = (-1)
   ·rw [if_pos c6] at H
    have c6b0 : (t578 == (-1)) = true := beq_iff_eq.mpr c6
    have c6b1 : (t578 != (-1)) = false := bne_eq_false_iff_eq.mpr c6
    clear c6
    simp only [Option.some.injEq, Prod.mk.injEq] at H
    obtain ⟨rfl, rfl⟩ := H
    go_enter Try.func47, Try.ntmps47
    go_wp2_with (first | ((with_reducible refine gate_callee (f := 46) rfl ?_); refine goesL_ (some 8) rfl rfl Try.func46 (by kernel_rfl) rfl #[.slice A0 l0.length c0] rfl (by (try simp only [List.map_toArray, List.map_cons, List.map_nil]); first | done | rfl | (simp only [List.length_drop, List.length_take]; rfl)) ?_; (with_reducible refine (larchref16_Check.calls k _ _ l0 t577 _ ?side1 ?side2 A2.out).mono ?_); (case side1 => repeat (first | exact HR0.out | (with_reducible refine Kd.C_alloc ?_ _) | (with_reducible refine Kd.C_drewN ?_ _) | (with_reducible refine Kd.C_drew ?_))); (case side2 => exact HC0.out); rintro e w7 ⟨rfl, hb⟩; refine ⟨_, rfl, ?_⟩; have n0_ := Am (below_step (by repeat (first | (with_reducible first | exact HB.out | apply ba | apply bn | apply bd) | exact HB.out)) hb); clear HB; have HB := n0_; clear n0_; (try clear hb); (try clear hb2); (try clear hk); (try clear hi)) | ((with_reducible refine gate_callee (f := 76) rfl ?_); refine goesL_ (some 14) rfl rfl Try.func76 (by kernel_rfl) rfl #[.slice A0 l0.length c0] rfl (by (try simp only [List.map_toArray, List.map_cons, List.map_nil]); first | done | rfl | (simp only [List.length_drop, List.length_take]; rfl)) ?_; (with_reducible refine (larchref16_Crown.calls k _ _ l0 t578 true _ ?side1 ?side2 A4.out).mono ?_); (case side1 => repeat (first | exact (Kd.C_below HR0.out HB.out) | (with_reducible refine Kd.C_alloc ?_ _) | (with_reducible refine Kd.C_drewN ?_ _) | (with_reducible refine Kd.C_drew ?_))); (case side2 => exact HC0.out); rintro e w8 ⟨rfl, hb⟩; refine ⟨_, rfl, ?_⟩; have n0_ := Am (below_step (by repeat (first | (with_reducible first | exact HB.out | apply ba | apply bn | apply bd) | exact HB.out)) hb); clear HB; have HB := n0_; clear n0_; (try clear hb); (try clear hb2); (try clear hk); (try clear hi)))
    go_ret2
    exact ⟨by first | rfl | (simp [errW_none, errW_some] <;> rfl) | (simp [*, errW_none, errW_some] <;> rfl), by repeat (first | (with_reducible first | exact HB.out | apply ba | apply bn | apply bd) | exact HB.out)⟩
   ·rw [if_neg c6] at H
    have c6b0 : (t578 == (-1)) = false := beq_eq_false_iff_ne.mpr c6
    have c6b1 : (t578 != (-1)) = true := bne_iff_ne.mpr c6
    simp only [Option.some.injEq, Prod.mk.injEq] at H
    obtain ⟨rfl, rfl⟩ := H
    go_enter Try.func47, Try.ntmps47
    go_wp2_with (first | ((with_reducible refine gate_callee (f := 46) rfl ?_); refine goesL_ (some 8) rfl rfl Try.func46 (by kernel_rfl) rfl #[.slice A0 l0.length c0] rfl (by (try simp only [List.map_toArray, List.map_cons, List.map_nil]); first | done | rfl | (simp only [List.length_drop, List.length_take]; rfl)) ?_; (with_reducible refine (larchref16_Check.calls k _ _ l0 t577 _ ?side1 ?side2 A2.out).mono ?_); (case side1 => repeat (first | exact HR0.out | (with_reducible refine Kd.C_alloc ?_ _) | (with_reducible refine Kd.C_drewN ?_ _) | (with_reducible refine Kd.C_drew ?_))); (case side2 => exact HC0.out); rintro e w9 ⟨rfl, hb⟩; refine ⟨_, rfl, ?_⟩; have n0_ := Am (below_step (by repeat (first | (with_reducible first | exact HB.out | apply ba | apply bn | apply bd) | exact HB.out)) hb); clear HB; have HB := n0_; clear n0_; (try clear hb); (try clear hb2); (try clear hk); (try clear hi)) | ((with_reducible refine gate_callee (f := 76) rfl ?_); refine goesL_ (some 14) rfl rfl Try.func76 (by kernel_rfl) rfl #[.slice A0 l0.length c0] rfl (by (try simp only [List.map_toArray, List.map_cons, List.map_nil]); first | done | rfl | (simp only [List.length_drop, List.length_take]; rfl)) ?_; (with_reducible refine (larchref16_Crown.calls k _ _ l0 t578 true _ ?side1 ?side2 A4.out).mono ?_); (case side1 => repeat (first | exact (Kd.C_below HR0.out HB.out) | (with_reducible refine Kd.C_alloc ?_ _) | (with_reducible refine Kd.C_drewN ?_ _) | (with_reducible refine Kd.C_drew ?_))); (case side2 => exact HC0.out); rintro e w10 ⟨rfl, hb⟩; refine ⟨_, rfl, ?_⟩; have n0_ := Am (below_step (by repeat (first | (with_reducible first | exact HB.out | apply ba | apply bn | apply bd) | exact HB.out)) hb); clear HB; have HB := n0_; clear n0_; (try clear hb); (try clear hb2); (try clear hk); (try clear hi)))
    go_ret2
    exact ⟨by first | rfl | (simp [errW_none, errW_some] <;> rfl) | (simp [*, errW_none, errW_some] <;> rfl), by repeat (first | (with_reducible first | exact HB.out | apply ba | apply bn | apply bd) | exact HB.out)⟩
  ·replace c5 := Bool.eq_false_iff.mpr c5
   subst c5
   have H1 : (some (0, 3)) = some (r1, r2) := by rw [if_neg (show ¬ (false = true) by decide)] at H; exact H
   clear H
   have H := H1
   clear H1
   simp only [Option.some.injEq, Prod.mk.injEq] at H
   obtain ⟨rfl, rfl⟩ := H
   go_enter Try.func47, Try.ntmps47
   go_wp2_with (first | ((with_reducible refine gate_callee (f := 46) rfl ?_); refine goesL_ (some 8) rfl rfl Try.func46 (by kernel_rfl) rfl #[.slice A0 l0.length c0] rfl (by (try simp only [List.map_toArray, List.map_cons, List.map_nil]); first | done | rfl | (simp only [List.length_drop, List.length_take]; rfl)) ?_; (with_reducible refine (larchref16_Check.calls k _ _ l0 t577 _ ?side1 ?side2 A2.out).mono ?_); (case side1 => repeat (first | exact HR0.out | (with_reducible refine Kd.C_alloc ?_ _) | (with_reducible refine Kd.C_drewN ?_ _) | (with_reducible refine Kd.C_drew ?_))); (case side2 => exact HC0.out); rintro e w11 ⟨rfl, hb⟩; refine ⟨_, rfl, ?_⟩; have n0_ := Am (below_step (by repeat (first | (with_reducible first | exact HB.out | apply ba | apply bn | apply bd) | exact HB.out)) hb); clear HB; have HB := n0_; clear n0_; (try clear hb); (try clear hb2); (try clear hk); (try clear hi)) | ((with_reducible refine gate_callee (f := 76) rfl ?_); refine goesL_ (some 14) rfl rfl Try.func76 (by kernel_rfl) rfl #[.slice A0 l0.length c0] rfl (by (try simp only [List.map_toArray, List.map_cons, List.map_nil]); first | done | rfl | (simp only [List.length_drop, List.length_take]; rfl)) ?_; (with_reducible refine (larchref16_Crown.calls k _ _ l0 t578 false _ ?side1 ?side2 A4.out).mono ?_); (case side1 => repeat (first | exact (Kd.C_below HR0.out HB.out) | (with_reducible refine Kd.C_alloc ?_ _) | (with_reducible refine Kd.C_drewN ?_ _) | (with_reducible refine Kd.C_drew ?_))); (case side2 => exact HC0.out); rintro e w12 ⟨rfl, hb⟩; refine ⟨_, rfl, ?_⟩; have n0_ := Am (below_step (by repeat (first | (with_reducible first | exact HB.out | apply ba | apply bn | apply bd) | exact HB.out)) hb); clear HB; have HB := n0_; clear n0_; (try clear hb); (try clear hb2); (try clear hk); (try clear hi)))
   go_ret2
   exact ⟨by first | rfl | (simp [errW_none, errW_some] <;> rfl) | (simp [*, errW_none, errW_some] <;> rfl), by repeat (first | (with_reducible first | exact HB.out | apply ba | apply bn | apply bd) | exact HB.out)⟩
 ·rw [if_neg c3] at H
  have c3b0 : (t577 == 0) = false := beq_eq_false_iff_ne.mpr c3
  have c3b1 : (t577 != 0) = true := bne_iff_ne.mpr c3
  simp only [Option.some.injEq, Prod.mk.injEq] at H
  obtain ⟨rfl, rfl⟩ := H
  go_enter Try.func47, Try.ntmps47
  go_wp2_with (first | ((with_reducible refine gate_callee (f := 46) rfl ?_); refine goesL_ (some 8) rfl rfl Try.func46 (by kernel_rfl) rfl #[.slice A0 l0.length c0] rfl (by (try simp only [List.map_toArray, List.map_cons, List.map_nil]); first | done | rfl | (simp only [List.length_drop, List.length_take]; rfl)) ?_; (with_reducible refine (larchref16_Check.calls k _ _ l0 t577 _ ?side1 ?side2 A2.out).mono ?_); (case side1 => repeat (first | exact HR0.out | (with_reducible refine Kd.C_alloc ?_ _) | (with_reducible refine Kd.C_drewN ?_ _) | (with_reducible refine Kd.C_drew ?_))); (case side2 => exact HC0.out); rintro e w13 ⟨rfl, hb⟩; refine ⟨_, rfl, ?_⟩; have n0_ := Am (below_step (by repeat (first | (with_reducible first | exact HB.out | apply ba | apply bn | apply bd) | exact HB.out)) hb); clear HB; have HB := n0_; clear n0_; (try clear hb); (try clear hb2); (try clear hk); (try clear hi)))
  go_ret2
  exact ⟨by first | rfl | (simp [errW_none, errW_some] <;> rfl) | (simp [*, errW_none, errW_some] <;> rfl), by repeat (first | (with_reducible first | exact HB.out | apply ba | apply bn | apply bd) | exact HB.out)⟩
-- NOT PRINTED: function 59 (larchref18_grow)
def larchref18_IsMove.f (a0_0 : Int) (a0_1 : Bool) : Option (Bool) := if a0_1 = true then (if a0_0 = 1 then (some false) else (if a0_0 = 11 then (some false) else (if a0_0 = 12 then (some false) else (if a0_0 ≥ 1 then (some (decide (a0_0 ≤ 12))) else (some false))))) else (if a0_0 ≥ 1 then (some (decide (a0_0 ≤ 12))) else (some false))
set_option maxHeartbeats 8000000 in
set_option maxRecDepth 100000 in
theorem larchref18_IsMove.calls (a0_0 : Int) (a0_1 : Bool) (r : Bool) (w : World) (h : larchref18_IsMove.f a0_0 a0_1 = some r) :
  Calls Try.prog 69 #[.agg #[.int .i64 a0_0, .bool a0_1]] w fun e w' => e = .returned (.bool r) ∧ Below w.heap.size w w' := by
 have hu24 := Try.underlying24
 have HB := Am (Below.refl w.heap.size w)
 have H : (if a0_1 = true then (if a0_0 = 1 then (some false) else (if a0_0 = 11 then (some false) else (if a0_0 = 12 then (some false) else (if a0_0 ≥ 1 then (some (decide (a0_0 ≤ 12))) else (some false))))) else (if a0_0 ≥ 1 then (some (decide (a0_0 ≤ 12))) else (some false))) = some r := h
 clear h
 by_cases c2 : a0_1 = true
 ·subst c2
  have H1 : (if a0_0 = 1 then (some false) else (if a0_0 = 11 then (some false) else (if a0_0 = 12 then (some false) else (if a0_0 ≥ 1 then (some (decide (a0_0 ≤ 12))) else (some false))))) = some r := by rw [if_pos rfl] at H; exact H
  clear H
  have H := H1
  clear H1
  by_cases c3 : a0_0 = 1
  ·rw [if_pos c3] at H
   have c3b0 : (a0_0 == 1) = true := beq_iff_eq.mpr c3
   have c3b1 : (a0_0 != 1) = false := bne_eq_false_iff_eq.mpr c3
   clear c3
   obtain rfl := Option.some.inj H
   go_enter Try.func69, Try.ntmps69
   go_wp2_with (first | ((with_reducible refine gate_dst (N := 1) rfl ?_); refine box_event ?hg (N := 1) ?hd (cs := #[.int .i64 a0_0, .bool true]) (t := 24) ?hr ?_; (case hd => rfl); (case hg => rfl); (case hr => first | (go_simp; done) | (go_simp; rfl)); intro gb580 hg w4 hbox hb; have n0_ := Am (below_step (by repeat (first | (with_reducible first | exact HB.out | apply ba | apply bn | apply bd) | exact HB.out)) hb); have n1_ := Am (hbox); have n2_ := Am ((by rw [hg]; exact (below_size (by repeat (first | (with_reducible first | exact HB.out | apply ba | apply bn | apply bd) | exact HB.out))) : w.heap.size ≤ gb580)); have n3_ := Am ((by rw [hg]; exact (below_size (by repeat (first | (with_reducible first | exact HB.out | apply ba | apply bn | apply bd) | exact HB.out))) : w.heap.size ≤ gb580)); clear HB; have HB := n0_; have BK580 := n1_; have GW580 := n2_; have GE580 := n3_; clear n0_ n1_ n2_ n3_; clear hb hbox hg; have hcz5_0 : w4.cell? ⟨gb580, 0, none⟩ = some (.int .i64 a0_0) := (blk_cell BK580.out 0).trans rfl; have hcz5_1 : w4.cell? ⟨gb580, 1, none⟩ = some (.bool true) := (blk_cell BK580.out 1).trans rfl; have hfz5_0 := blk_frozen BK580.out 0; have hfz5_1 := blk_frozen BK580.out 1))
   go_ret
   exact ⟨by first | rfl | (simp [errW_none, errW_some] <;> rfl) | (simp [*, errW_none, errW_some] <;> rfl), by repeat (first | (with_reducible first | exact HB.out | apply ba | apply bn | apply bd | refine below_set ?_ GE580.out) | exact HB.out)⟩
  ·rw [if_neg c3] at H
   have c3b0 : (a0_0 == 1) = false := beq_eq_false_iff_ne.mpr c3
   have c3b1 : (a0_0 != 1) = true := bne_iff_ne.mpr c3
   by_cases c6 : a0_0 = 11
   ·rw [if_pos c6] at H
    have c6b0 : (a0_0 == 11) = true := beq_iff_eq.mpr c6
    have c6b1 : (a0_0 != 11) = false := bne_eq_false_iff_eq.mpr c6
    clear c6
    obtain rfl := Option.some.inj H
    go_enter Try.func69, Try.ntmps69
    go_wp2_with (first | ((with_reducible refine gate_dst (N := 1) rfl ?_); refine box_event ?hg (N := 1) ?hd (cs := #[.int .i64 a0_0, .bool true]) (t := 24) ?hr ?_; (case hd => rfl); (case hg => rfl); (case hr => first | (go_simp; done) | (go_simp; rfl)); intro gb580 hg w7 hbox hb; have n0_ := Am (below_step (by repeat (first | (with_reducible first | exact HB.out | apply ba | apply bn | apply bd) | exact HB.out)) hb); have n1_ := Am (hbox); have n2_ := Am ((by rw [hg]; exact (below_size (by repeat (first | (with_reducible first | exact HB.out | apply ba | apply bn | apply bd) | exact HB.out))) : w.heap.size ≤ gb580)); have n3_ := Am ((by rw [hg]; exact (below_size (by repeat (first | (with_reducible first | exact HB.out | apply ba | apply bn | apply bd) | exact HB.out))) : w.heap.size ≤ gb580)); clear HB; have HB := n0_; have BK580 := n1_; have GW580 := n2_; have GE580 := n3_; clear n0_ n1_ n2_ n3_; clear hb hbox hg; have hcz8_0 : w7.cell? ⟨gb580, 0, none⟩ = some (.int .i64 a0_0) := (blk_cell BK580.out 0).trans rfl; have hcz8_1 : w7.cell? ⟨gb580, 1, none⟩ = some (.bool true) := (blk_cell BK580.out 1).trans rfl; have hfz8_0 := blk_frozen BK580.out 0; have hfz8_1 := blk_frozen BK580.out 1))
    go_ret
    exact ⟨by first | rfl | (simp [errW_none, errW_some] <;> rfl) | (simp [*, errW_none, errW_some] <;> rfl), by repeat (first | (with_reducible first | exact HB.out | apply ba | apply bn | apply bd | refine below_set ?_ GE580.out) | exact HB.out)⟩
   ·rw [if_neg c6] at H
    have c6b0 : (a0_0 == 11) = false := beq_eq_false_iff_ne.mpr c6
    have c6b1 : (a0_0 != 11) = true := bne_iff_ne.mpr c6
    by_cases c9 : a0_0 = 12
    ·rw [if_pos c9] at H
     have c9b0 : (a0_0 == 12) = true := beq_iff_eq.mpr c9
     have c9b1 : (a0_0 != 12) = false := bne_eq_false_iff_eq.mpr c9
     clear c9
     obtain rfl := Option.some.inj H
     go_enter Try.func69, Try.ntmps69
     go_wp2_with (first | ((with_reducible refine gate_dst (N := 1) rfl ?_); refine box_event ?hg (N := 1) ?hd (cs := #[.int .i64 a0_0, .bool true]) (t := 24) ?hr ?_; (case hd => rfl); (case hg => rfl); (case hr => first | (go_simp; done) | (go_simp; rfl)); intro gb580 hg w10 hbox hb; have n0_ := Am (below_step (by repeat (first | (with_reducible first | exact HB.out | apply ba | apply bn | apply bd) | exact HB.out)) hb); have n1_ := Am (hbox); have n2_ := Am ((by rw [hg]; exact (below_size (by repeat (first | (with_reducible first | exact HB.out | apply ba | apply bn | apply bd) | exact HB.out))) : w.heap.size ≤ gb580)); have n3_ := Am ((by rw [hg]; exact (below_size (by repeat (first | (with_reducible first | exact HB.out | apply ba | apply bn | apply bd) | exact HB.out))) : w.heap.size ≤ gb580)); clear HB; have HB := n0_; have BK580 := n1_; have GW580 := n2_; have GE580 := n3_; clear n0_ n1_ n2_ n3_; clear hb hbox hg; have hcz11_0 : w10.cell? ⟨gb580, 0, none⟩ = some (.int .i64 a0_0) := (blk_cell BK580.out 0).trans rfl; have hcz11_1 : w10.cell? ⟨gb580, 1, none⟩ = some (.bool true) := (blk_cell BK580.out 1).trans rfl; have hfz11_0 := blk_frozen BK580.out 0; have hfz11_1 := blk_frozen BK580.out 1))
     go_ret
     exact ⟨by first | rfl | (simp [errW_none, errW_some] <;> rfl) | (simp [*, errW_none, errW_some] <;> rfl), by repeat (first | (with_reducible first | exact HB.out | apply ba | apply bn | apply bd | refine below_set ?_ GE580.out) | exact HB.out)⟩
    ·rw [if_neg c9] at H
     have c9b0 : (a0_0 == 12) = false := beq_eq_false_iff_ne.mpr c9
     have c9b1 : (a0_0 != 12) = true := bne_iff_ne.mpr c9
     by_cases c12 : a0_0 ≥ 1
     ·rw [if_pos c12] at H
      have c12b0 : decide (1 ≤ a0_0) = true := decide_eq_true c12
      clear c12
      obtain rfl := Option.some.inj H
      go_enter Try.func69, Try.ntmps69
      go_wp2_with (first | ((with_reducible refine gate_dst (N := 1) rfl ?_); refine box_event ?hg (N := 1) ?hd (cs := #[.int .i64 a0_0, .bool true]) (t := 24) ?hr ?_; (case hd => rfl); (case hg => rfl); (case hr => first | (go_simp; done) | (go_simp; rfl)); intro gb580 hg w13 hbox hb; have n0_ := Am (below_step (by repeat (first | (with_reducible first | exact HB.out | apply ba | apply bn | apply bd) | exact HB.out)) hb); have n1_ := Am (hbox); have n2_ := Am ((by rw [hg]; exact (below_size (by repeat (first | (with_reducible first | exact HB.out | apply ba | apply bn | apply bd) | exact HB.out))) : w.heap.size ≤ gb580)); have n3_ := Am ((by rw [hg]; exact (below_size (by repeat (first | (with_reducible first | exact HB.out | apply ba | apply bn | apply bd) | exact HB.out))) : w.heap.size ≤ gb580)); clear HB; have HB := n0_; have BK580 := n1_; have GW580 := n2_; have GE580 := n3_; clear n0_ n1_ n2_ n3_; clear hb hbox hg; have hcz14_0 : w13.cell? ⟨gb580, 0, none⟩ = some (.int .i64 a0_0) := (blk_cell BK580.out 0).trans rfl; have hcz14_1 : w13.cell? ⟨gb580, 1, none⟩ = some (.bool true) := (blk_cell BK580.out 1).trans rfl; have hfz14_0 := blk_frozen BK580.out 0; have hfz14_1 := blk_frozen BK580.out 1))
      go_ret
      exact ⟨by first | rfl | (simp [errW_none, errW_some] <;> rfl) | (simp [*, errW_none, errW_some] <;> rfl), by repeat (first | (with_reducible first | exact HB.out | apply ba | apply bn | apply bd | refine below_set ?_ GE580.out) | exact HB.out)⟩
     ·rw [if_neg c12] at H
      have c12b0 : decide (1 ≤ a0_0) = false := decide_eq_false c12
      clear c12
      obtain rfl := Option.some.inj H
      go_enter Try.func69, Try.ntmps69
      go_wp2_with (first | ((with_reducible refine gate_dst (N := 1) rfl ?_); refine box_event ?hg (N := 1) ?hd (cs := #[.int .i64 a0_0, .bool true]) (t := 24) ?hr ?_; (case hd => rfl); (case hg => rfl); (case hr => first | (go_simp; done) | (go_simp; rfl)); intro gb580 hg w15 hbox hb; have n0_ := Am (below_step (by repeat (first | (with_reducible first | exact HB.out | apply ba | apply bn | apply bd) | exact HB.out)) hb); have n1_ := Am (hbox); have n2_ := Am ((by rw [hg]; exact (below_size (by repeat (first | (with_reducible first | exact HB.out | apply ba | apply bn | apply bd) | exact HB.out))) : w.heap.size ≤ gb580)); have n3_ := Am ((by rw [hg]; exact (below_size (by repeat (first | (with_reducible first | exact HB.out | apply ba | apply bn | apply bd) | exact HB.out))) : w.heap.size ≤ gb580)); clear HB; have HB := n0_; have BK580 := n1_; have GW580 := n2_; have GE580 := n3_; clear n0_ n1_ n2_ n3_; clear hb hbox hg; have hcz16_0 : w15.cell? ⟨gb580, 0, none⟩ = some (.int .i64 a0_0) := (blk_cell BK580.out 0).trans rfl; have hcz16_1 : w15.cell? ⟨gb580, 1, none⟩ = some (.bool true) := (blk_cell BK580.out 1).trans rfl; have hfz16_0 := blk_frozen BK580.out 0; have hfz16_1 := blk_frozen BK580.out 1))
      go_ret
      exact ⟨by first | rfl | (simp [errW_none, errW_some] <;> rfl) | (simp [*, errW_none, errW_some] <;> rfl), by repeat (first | (with_reducible first | exact HB.out | apply ba | apply bn | apply bd | refine below_set ?_ GE580.out) | exact HB.out)⟩
 ·replace c2 := Bool.eq_false_iff.mpr c2
  subst c2
  have H1 : (if a0_0 ≥ 1 then (some (decide (a0_0 ≤ 12))) else (some false)) = some r := by rw [if_neg (show ¬ (false = true) by decide)] at H; exact H
  clear H
  have H := H1
  clear H1
  by_cases c17 : a0_0 ≥ 1
  ·rw [if_pos c17] at H
   have c17b0 : decide (1 ≤ a0_0) = true := decide_eq_true c17
   clear c17
   obtain rfl := Option.some.inj H
   go_enter Try.func69, Try.ntmps69
   go_wp2_with (first | ((with_reducible refine gate_dst (N := 1) rfl ?_); refine box_event ?hg (N := 1) ?hd (cs := #[.int .i64 a0_0, .bool false]) (t := 24) ?hr ?_; (case hd => rfl); (case hg => rfl); (case hr => first | (go_simp; done) | (go_simp; rfl)); intro gb580 hg w18 hbox hb; have n0_ := Am (below_step (by repeat (first | (with_reducible first | exact HB.out | apply ba | apply bn | apply bd) | exact HB.out)) hb); have n1_ := Am (hbox); have n2_ := Am ((by rw [hg]; exact (below_size (by repeat (first | (with_reducible first | exact HB.out | apply ba | apply bn | apply bd) | exact HB.out))) : w.heap.size ≤ gb580)); have n3_ := Am ((by rw [hg]; exact (below_size (by repeat (first | (with_reducible first | exact HB.out | apply ba | apply bn | apply bd) | exact HB.out))) : w.heap.size ≤ gb580)); clear HB; have HB := n0_; have BK580 := n1_; have GW580 := n2_; have GE580 := n3_; clear n0_ n1_ n2_ n3_; clear hb hbox hg; have hcz19_0 : w18.cell? ⟨gb580, 0, none⟩ = some (.int .i64 a0_0) := (blk_cell BK580.out 0).trans rfl; have hcz19_1 : w18.cell? ⟨gb580, 1, none⟩ = some (.bool false) := (blk_cell BK580.out 1).trans rfl; have hfz19_0 := blk_frozen BK580.out 0; have hfz19_1 := blk_frozen BK580.out 1))
   go_ret
   exact ⟨by first | rfl | (simp [errW_none, errW_some] <;> rfl) | (simp [*, errW_none, errW_some] <;> rfl), by repeat (first | (with_reducible first | exact HB.out | apply ba | apply bn | apply bd | refine below_set ?_ GE580.out) | exact HB.out)⟩
  ·rw [if_neg c17] at H
   have c17b0 : decide (1 ≤ a0_0) = false := decide_eq_false c17
   clear c17
   obtain rfl := Option.some.inj H
   go_enter Try.func69, Try.ntmps69
   go_wp2_with (first | ((with_reducible refine gate_dst (N := 1) rfl ?_); refine box_event ?hg (N := 1) ?hd (cs := #[.int .i64 a0_0, .bool false]) (t := 24) ?hr ?_; (case hd => rfl); (case hg => rfl); (case hr => first | (go_simp; done) | (go_simp; rfl)); intro gb580 hg w20 hbox hb; have n0_ := Am (below_step (by repeat (first | (with_reducible first | exact HB.out | apply ba | apply bn | apply bd) | exact HB.out)) hb); have n1_ := Am (hbox); have n2_ := Am ((by rw [hg]; exact (below_size (by repeat (first | (with_reducible first | exact HB.out | apply ba | apply bn | apply bd) | exact HB.out))) : w.heap.size ≤ gb580)); have n3_ := Am ((by rw [hg]; exact (below_size (by repeat (first | (with_reducible first | exact HB.out | apply ba | apply bn | apply bd) | exact HB.out))) : w.heap.size ≤ gb580)); clear HB; have HB := n0_; have BK580 := n1_; have GW580 := n2_; have GE580 := n3_; clear n0_ n1_ n2_ n3_; clear hb hbox hg; have hcz21_0 : w20.cell? ⟨gb580, 0, none⟩ = some (.int .i64 a0_0) := (blk_cell BK580.out 0).trans rfl; have hcz21_1 : w20.cell? ⟨gb580, 1, none⟩ = some (.bool false) := (blk_cell BK580.out 1).trans rfl; have hfz21_0 := blk_frozen BK580.out 0; have hfz21_1 := blk_frozen BK580.out 1))
   go_ret
   exact ⟨by first | rfl | (simp [errW_none, errW_some] <;> rfl) | (simp [*, errW_none, errW_some] <;> rfl), by repeat (first | (with_reducible first | exact HB.out | apply ba | apply bn | apply bd | refine below_set ?_ GE580.out) | exact HB.out)⟩
-- NOT PRINTED: function 77 (larchref18_place)
-- NOT PRINTED: function 52 (larchref18_asked)
-- NOT PRINTED: function 78 (larchref18_left)
-- NOT PRINTED: function 79 (larchref18_right)
-- NOT PRINTED: function 80 (larchref18_w)
-- NOT PRINTED: function 81 (larchref18_tree_inner)
-- NOT PRINTED: function 53 (larchref18_can)
-- NOT PRINTED: function 82 (larchref18_tree_mirrored)
-- NOT PRINTED: function 54 (larchref18_side)
-- NOT PRINTED: function 24 (larchref18_Can)
def larchref18_All.l0 : Nat → List (S24) → Int → Option ((List (S24)))
 | 0, _, _ => none
 | k + 1, x1, x2 => if x2 ≤ 12 then (if x1.length < 8796093022208 then ((some (x1 ++ [(⟨x2, false⟩ : S24)] : List (S24))).bind fun y582 => ((larchref18_IsMove.f x2 true).bind fun t585 => (if t585 = true then (if y582.length < 8796093022208 then (larchref18_All.l0 k (y582 ++ [(⟨x2, true⟩ : S24)]) (wrap64 (x2 + 1))) else (none)) else (larchref18_All.l0 k y582 (wrap64 (x2 + 1)))))) else (none)) else (some x1)
def larchref18_All.f (k : Nat)  : Option ((List (S24))) := larchref18_All.l0 k ([] : List (S24)) 1
set_option maxHeartbeats 8000000 in
set_option maxRecDepth 100000 in
theorem larchref18_All.calls (k : Nat)  (r : List (S24)) (w : World) (h : larchref18_All.f k  = some r) :
  Calls Try.prog 34 #[] w fun e w' => ∃ v0_ : Value, e = .returned (v0_) ∧ Kd.R k24 24 w' w.heap.size (fun _ => True) v0_ r ∧ Below w.heap.size w w' := by
 have hu24 := Try.underlying24
 have HB := Am (Below.refl w.heap.size w)
 have H : (larchref18_All.l0 k ([] : List (S24)) 1) = some r := h
 clear h
 have H' := Am H
 clear H
 go_enter Try.func34, Try.ntmps34
 go_wp2
 go_loopg [1, 2] k (fun kq v1 v2 w' => ∃ (x1_1 : List (S24)) (x2_1 : Int), v2 = .int .i64 x2_1 ∧ Aside0 (larchref18_All.l0 kq x1_1 x2_1 = some r) ∧ Aside0 (kq ≤ k) ∧ Aside0 (Kd.R k24 24 w' w.heap.size (fun _ => True) v1 x1_1) ∧ Aside0 (Below w.heap.size w w'))
 case atStart => exact ⟨(([] : List (S24))), (1), (by first | rfl | (simp; done) | (simp [*]; done)), H', ⟨Nat.le_refl _⟩, ⟨by first | exact Kd.R_nil _ _ _ _ _ | exact Kd.N_nil _ _ _ _ _ | exact Kd.V_nil _ _ _ _ _ | exact Kd.Q_nil _ _ _ _ _ | exact Kd.S_nil _ _ _ _ _⟩, ⟨by repeat (first | (with_reducible first | exact HB.out | apply ba | apply bn | apply bd) | exact HB.out)⟩⟩
 case round =>
  clear H'
  obtain ⟨x1_1, x2_1, rfl, HA, HK1, HO_1, HB⟩ := hrel
  cases gk with
  | zero => exact absurd HA.out (by simp [larchref18_All.l0])
  | succ k1 =>
   have H := HA.out
   clear HA
   simp only [larchref18_All.l0] at H
   by_cases c1 : x2_1 ≤ 12
   ·rw [if_pos c1] at H
    have c1b0 : decide (x2_1 ≤ 12) = true := decide_eq_true c1
    clear c1
    by_cases c2 : x1_1.length < 8796093022208
    ·rw [if_pos c2] at H
     have LMc2 := Am c2
     clear c2
     obtain ⟨y582, hy582⟩ : ∃ y_ : List (S24), y_ = (x1_1 ++ [(⟨x2_1, false⟩ : S24)]) := ⟨_, rfl⟩
     replace H : ((larchref18_IsMove.f x2_1 true).bind fun t585 => (if t585 = true then (if y582.length < 8796093022208 then (larchref18_All.l0 k1 (y582 ++ [(⟨x2_1, true⟩ : S24)]) (wrap64 (x2_1 + 1))) else (none)) else (larchref18_All.l0 k1 y582 (wrap64 (x2_1 + 1))))) = some r := by first | (rw [hy582]; with_reducible exact H) | (have H2_ := (Option.bind_some _ _).symm.trans H; rw [hy582]; with_reducible exact H2_) | (have H2_ := (Option.bind_some _ _).symm.trans H; with_reducible exact H2_) | with_reducible exact H | (rw [hy582]; exact H) | exact H
     have Ny582 := Am hy582
     clear hy582
     replace H := Option.bind_eq_some_iff.mp H
     obtain ⟨t585, A30, H⟩ := H
     replace H : (if t585 = true then (if y582.length < 8796093022208 then (larchref18_All.l0 k1 (y582 ++ [(⟨x2_1, true⟩ : S24)]) (wrap64 (x2_1 + 1))) else (none)) else (larchref18_All.l0 k1 y582 (wrap64 (x2_1 + 1)))) = some r := H
     have A3 := Am A30
     clear A30
     by_cases c4 : t585 = true
     ·subst c4
      have H1 : (if y582.length < 8796093022208 then (larchref18_All.l0 k1 (y582 ++ [(⟨x2_1, true⟩ : S24)]) (wrap64 (x2_1 + 1))) else (none)) = some r := by rw [if_pos rfl] at H; exact H
      clear H
      have H := H1
      clear H1
      by_cases c5 : y582.length < 8796093022208
      ·rw [if_pos c5] at H
       have LMc5 := Am c5
       clear c5
       obtain ⟨y586, hy586⟩ : ∃ y_ : List (S24), y_ = (y582 ++ [(⟨x2_1, true⟩ : S24)]) := ⟨_, rfl⟩
       replace H : (larchref18_All.l0 k1 y586 (wrap64 (x2_1 + 1))) = some r := by first | (rw [hy586]; with_reducible exact H) | (have H2_ := (Option.bind_some _ _).symm.trans H; rw [hy586]; with_reducible exact H2_) | (have H2_ := (Option.bind_some _ _).symm.trans H; with_reducible exact H2_) | with_reducible exact H | (rw [hy586]; exact H) | exact H
       have Ny586 := Am hy586
       clear hy586
       have H' := Am H
       clear H
       go_wp2_with (first | ((with_reducible refine gate_builtin (b := .append) (xs := #[.tmp 7, .tmp 10]) rfl ?_); at_builtin; refine Kd.R_append k24 (w0 := w) w.heap.size rfl (.tmp 7) (.tmp 10) 37 24 (.agg #[(.int .i64 0), (.bool false)]) 16 rfl Try.underlying37 info24 rfl (by decide) (by omega) u1 x1_1 (⟨x2_1, false⟩ : S24) [.int .i64 x2_1, .bool false] (fun _ => True) (fun _ => False) rfl rfl ?aP (fun _ hk => hk.elim) ?aF ?aO ?aB ?aS ?aL ?_; (case aP => exact k24_mkM _ _ _ (⟨x2_1, false⟩ : S24)); (case aB => exact (by repeat (first | (with_reducible first | exact HB.out | apply ba | apply bn | apply bd) | exact HB.out))); (case aF => exact (fun _ _ => trivial)); (case aO => exact (by (with_reducible repeat (first | apply Kd.R_alloc | apply Kd.R_drewN | apply Kd.R_drew)); exact HO_1.out)); (case aS => exact (below_size (by repeat (first | (with_reducible first | exact HB.out | apply ba | apply bn | apply bd) | exact HB.out)))); (case aL => have := LMc2.out; omega); intro v583 w6 ho hb hg hat; rw [← Ny582.out] at ho; have n0_ := Am (hb); have n1_ := Am (ho); clear HB; clear HO_1; have HB := n0_; have HO584 := n1_; clear n0_ n1_; clear ho hb hg hat) | ((with_reducible refine gate_callee (f := 69) rfl ?_); refine goesL_ (some 14) rfl rfl Try.func69 (by kernel_rfl) rfl #[.agg #[.int .i64 x2_1, .bool true]] rfl (by (try simp only [List.map_toArray, List.map_cons, List.map_nil]); first | done | rfl | (simp only [List.length_drop, List.length_take]; rfl)) ?_; (with_reducible refine (larchref18_IsMove.calls x2_1 true true _ A3.out).mono ?_); rintro e w7 ⟨rfl, hb⟩; refine ⟨_, rfl, ?_⟩; have n0_ := Am (Kd.R_below (by (with_reducible repeat (first | apply Kd.R_alloc | apply Kd.R_drewN | apply Kd.R_drew)); exact HO584.out) hb); have n1_ := Am (below_step (by repeat (first | (with_reducible first | exact HB.out | apply ba | apply bn | apply bd) | exact HB.out)) hb); clear HO584; clear HB; have HO584 := n0_; have HB := n1_; clear n0_ n1_; (try clear hb); (try clear hb2); (try clear hk); (try clear hi)) | ((with_reducible refine gate_builtin (b := .append) (xs := #[.tmp 15, .tmp 18]) rfl ?_); at_builtin; refine Kd.R_append k24 (w0 := w) w.heap.size rfl (.tmp 15) (.tmp 18) 37 24 (.agg #[(.int .i64 0), (.bool false)]) 16 rfl Try.underlying37 info24 rfl (by decide) (by omega) v583 y582 (⟨x2_1, true⟩ : S24) [.int .i64 x2_1, .bool true] (fun _ => True) (fun _ => False) rfl rfl ?aP (fun _ hk => hk.elim) ?aF ?aO ?aB ?aS ?aL ?_; (case aP => exact k24_mkM _ _ _ (⟨x2_1, true⟩ : S24)); (case aB => exact (by repeat (first | (with_reducible first | exact HB.out | apply ba | apply bn | apply bd) | exact HB.out))); (case aF => exact (fun _ _ => trivial)); (case aO => exact (by (with_reducible repeat (first | apply Kd.R_alloc | apply Kd.R_drewN | apply Kd.R_drew)); exact HO584.out)); (case aS => exact (below_size (by repeat (first | (with_reducible first | exact HB.out | apply ba | apply bn | apply bd) | exact HB.out)))); (case aL => have := LMc5.out; omega); intro v587 w8 ho hb hg hat; rw [← Ny586.out] at ho; have n0_ := Am (hb); have n1_ := Am (ho); clear HB; clear HO584; have HB := n0_; have HO588 := n1_; clear n0_ n1_; clear ho hb hg hat))
       go_roundg k1
       case measure => have := HK1.out; omega
       case rel => exact ⟨(y586), (wrap64 (x2_1 + 1)), (by first | rfl | (simp; done) | (simp [*]; done)), H', ⟨by have := HK1.out; omega⟩, ⟨by (with_reducible repeat (first | apply Kd.R_alloc | apply Kd.R_drewN | apply Kd.R_drew)); exact HO588.out⟩, ⟨by repeat (first | (with_reducible first | exact HB.out | apply ba | apply bn | apply bd) | exact HB.out)⟩⟩
      ·rw [if_neg c5] at H
       exact absurd H (by simp)
     ·replace c4 := Bool.eq_false_iff.mpr c4
      subst c4
      have H1 : (larchref18_All.l0 k1 y582 (wrap64 (x2_1 + 1))) = some r := by rw [if_neg (show ¬ (false = true) by decide)] at H; exact H
      clear H
      have H := H1
      clear H1
      have H' := Am H
      clear H
      go_wp2_with (first | ((with_reducible refine gate_builtin (b := .append) (xs := #[.tmp 7, .tmp 10]) rfl ?_); at_builtin; refine Kd.R_append k24 (w0 := w) w.heap.size rfl (.tmp 7) (.tmp 10) 37 24 (.agg #[(.int .i64 0), (.bool false)]) 16 rfl Try.underlying37 info24 rfl (by decide) (by omega) u1 x1_1 (⟨x2_1, false⟩ : S24) [.int .i64 x2_1, .bool false] (fun _ => True) (fun _ => False) rfl rfl ?aP (fun _ hk => hk.elim) ?aF ?aO ?aB ?aS ?aL ?_; (case aP => exact k24_mkM _ _ _ (⟨x2_1, false⟩ : S24)); (case aB => exact (by repeat (first | (with_reducible first | exact HB.out | apply ba | apply bn | apply bd) | exact HB.out))); (case aF => exact (fun _ _ => trivial)); (case aO => exact (by (with_reducible repeat (first | apply Kd.R_alloc | apply Kd.R_drewN | apply Kd.R_drew)); exact HO_1.out)); (case aS => exact (below_size (by repeat (first | (with_reducible first | exact HB.out | apply ba | apply bn | apply bd) | exact HB.out)))); (case aL => have := LMc2.out; omega); intro v583 w9 ho hb hg hat; rw [← Ny582.out] at ho; have n0_ := Am (hb); have n1_ := Am (ho); clear HB; clear HO_1; have HB := n0_; have HO584 := n1_; clear n0_ n1_; clear ho hb hg hat) | ((with_reducible refine gate_callee (f := 69) rfl ?_); refine goesL_ (some 14) rfl rfl Try.func69 (by kernel_rfl) rfl #[.agg #[.int .i64 x2_1, .bool true]] rfl (by (try simp only [List.map_toArray, List.map_cons, List.map_nil]); first | done | rfl | (simp only [List.length_drop, List.length_take]; rfl)) ?_; (with_reducible refine (larchref18_IsMove.calls x2_1 true false _ A3.out).mono ?_); rintro e w10 ⟨rfl, hb⟩; refine ⟨_, rfl, ?_⟩; have n0_ := Am (Kd.R_below (by (with_reducible repeat (first | apply Kd.R_alloc | apply Kd.R_drewN | apply Kd.R_drew)); exact HO584.out) hb); have n1_ := Am (below_step (by repeat (first | (with_reducible first | exact HB.out | apply ba | apply bn | apply bd) | exact HB.out)) hb); clear HO584; clear HB; have HO584 := n0_; have HB := n1_; clear n0_ n1_; (try clear hb); (try clear hb2); (try clear hk); (try clear hi)))
      go_roundg k1
      case measure => have := HK1.out; omega
      case rel => exact ⟨(y582), (wrap64 (x2_1 + 1)), (by first | rfl | (simp; done) | (simp [*]; done)), H', ⟨by have := HK1.out; omega⟩, ⟨by (with_reducible repeat (first | apply Kd.R_alloc | apply Kd.R_drewN | apply Kd.R_drew)); exact HO584.out⟩, ⟨by repeat (first | (with_reducible first | exact HB.out | apply ba | apply bn | apply bd) | exact HB.out)⟩⟩
    ·rw [if_neg c2] at H
     exact absurd H (by simp)
   ·rw [if_neg c1] at H
    have c1b0 : decide (x2_1 ≤ 12) = false := decide_eq_false c1
    clear c1
    obtain rfl := Option.some.inj H
    go_wp2
    go_ret
    exact ⟨_, by first | rfl | (simp [errW_none, errW_some] <;> rfl) | (simp [*, errW_none, errW_some] <;> rfl), by (with_reducible repeat (first | apply Kd.R_alloc | apply Kd.R_drewN | apply Kd.R_drew)); exact HO_1.out, by repeat (first | (with_reducible first | exact HB.out | apply ba | apply bn | apply bd) | exact HB.out)⟩
-- NOT PRINTED: function 26 (larchref18_Here)
-- NOT PRINTED: function 15 (larchref18_Spots)
def steps_All.l0 : Nat → List (S62) → Int → Option ((List (S62)))
 | 0, _, _ => none
 | k + 1, x1, x2 => if x2 ≤ 12 then (if x1.length < 8796093022208 then ((some (x1 ++ [(⟨x2, false⟩ : S62)] : List (S62))).bind fun y592 => ((steps_alone.f x2).bind fun t595 => (if t595 = true then (steps_All.l0 k y592 (wrap64 (x2 + 1))) else (if y592.length < 8796093022208 then (steps_All.l0 k (y592 ++ [(⟨x2, true⟩ : S62)]) (wrap64 (x2 + 1))) else (none))))) else (none)) else (some x1)
def steps_All.f (k : Nat)  : Option ((List (S62))) := steps_All.l0 k ([] : List (S62)) 1
set_option maxHeartbeats 8000000 in
set_option maxRecDepth 100000 in
theorem steps_All.calls (k : Nat)  (r : List (S62)) (w : World) (h : steps_All.f k  = some r) :
  Calls Try.prog 33 #[] w fun e w' => ∃ v0_ : Value, e = .returned (v0_) ∧ Kd.R k62 62 w' w.heap.size (fun _ => True) v0_ r ∧ Below w.heap.size w w' := by
 have hu62 := Try.underlying62
 have HB := Am (Below.refl w.heap.size w)
 have H : (steps_All.l0 k ([] : List (S62)) 1) = some r := h
 clear h
 have H' := Am H
 clear H
 go_enter Try.func33, Try.ntmps33
 go_wp2
 go_loopg [1, 2] k (fun kq v1 v2 w' => ∃ (x1_1 : List (S62)) (x2_1 : Int), v2 = .int .i64 x2_1 ∧ Aside0 (steps_All.l0 kq x1_1 x2_1 = some r) ∧ Aside0 (kq ≤ k) ∧ Aside0 (Kd.R k62 62 w' w.heap.size (fun _ => True) v1 x1_1) ∧ Aside0 (Below w.heap.size w w'))
 case atStart => exact ⟨(([] : List (S62))), (1), (by first | rfl | (simp; done) | (simp [*]; done)), H', ⟨Nat.le_refl _⟩, ⟨by first | exact Kd.R_nil _ _ _ _ _ | exact Kd.N_nil _ _ _ _ _ | exact Kd.V_nil _ _ _ _ _ | exact Kd.Q_nil _ _ _ _ _ | exact Kd.S_nil _ _ _ _ _⟩, ⟨by repeat (first | (with_reducible first | exact HB.out | apply ba | apply bn | apply bd) | exact HB.out)⟩⟩
 case round =>
  clear H'
  obtain ⟨x1_1, x2_1, rfl, HA, HK1, HO_1, HB⟩ := hrel
  cases gk with
  | zero => exact absurd HA.out (by simp [steps_All.l0])
  | succ k1 =>
   have H := HA.out
   clear HA
   simp only [steps_All.l0] at H
   by_cases c1 : x2_1 ≤ 12
   ·rw [if_pos c1] at H
    have c1b0 : decide (x2_1 ≤ 12) = true := decide_eq_true c1
    clear c1
    by_cases c2 : x1_1.length < 8796093022208
    ·rw [if_pos c2] at H
     have LMc2 := Am c2
     clear c2
     obtain ⟨y592, hy592⟩ : ∃ y_ : List (S62), y_ = (x1_1 ++ [(⟨x2_1, false⟩ : S62)]) := ⟨_, rfl⟩
     replace H : ((steps_alone.f x2_1).bind fun t595 => (if t595 = true then (steps_All.l0 k1 y592 (wrap64 (x2_1 + 1))) else (if y592.length < 8796093022208 then (steps_All.l0 k1 (y592 ++ [(⟨x2_1, true⟩ : S62)]) (wrap64 (x2_1 + 1))) else (none)))) = some r := by first | (rw [hy592]; with_reducible exact H) | (have H2_ := (Option.bind_some _ _).symm.trans H; rw [hy592]; with_reducible exact H2_) | (have H2_ := (Option.bind_some _ _).symm.trans H; with_reducible exact H2_) | with_reducible exact H | (rw [hy592]; exact H) | exact H
     have Ny592 := Am hy592
     clear hy592
     replace H := Option.bind_eq_some_iff.mp H
     obtain ⟨t595, A30, H⟩ := H
     replace H : (if t595 = true then (steps_All.l0 k1 y592 (wrap64 (x2_1 + 1))) else (if y592.length < 8796093022208 then (steps_All.l0 k1 (y592 ++ [(⟨x2_1, true⟩ : S62)]) (wrap64 (x2_1 + 1))) else (none))) = some r := H
     have A3 := Am A30
     clear A30
     by_cases c4 : t595 = true
     ·subst c4
      have H1 : (steps_All.l0 k1 y592 (wrap64 (x2_1 + 1))) = some r := by rw [if_pos rfl] at H; exact H
      clear H
      have H := H1
      clear H1
      have H' := Am H
      clear H
      go_wp2_with (first | ((with_reducible refine gate_builtin (b := .append) (xs := #[.tmp 7, .tmp 10]) rfl ?_); at_builtin; refine Kd.R_append k62 (w0 := w) w.heap.size rfl (.tmp 7) (.tmp 10) 40 62 (.agg #[(.int .i64 0), (.bool false)]) 16 rfl Try.underlying40 info62 rfl (by decide) (by omega) u1 x1_1 (⟨x2_1, false⟩ : S62) [.int .i64 x2_1, .bool false] (fun _ => True) (fun _ => False) rfl rfl ?aP (fun _ hk => hk.elim) ?aF ?aO ?aB ?aS ?aL ?_; (case aP => exact k62_mkM _ _ _ (⟨x2_1, false⟩ : S62)); (case aB => exact (by repeat (first | (with_reducible first | exact HB.out | apply ba | apply bn | apply bd) | exact HB.out))); (case aF => exact (fun _ _ => trivial)); (case aO => exact (by (with_reducible repeat (first | apply Kd.R_alloc | apply Kd.R_drewN | apply Kd.R_drew)); exact HO_1.out)); (case aS => exact (below_size (by repeat (first | (with_reducible first | exact HB.out | apply ba | apply bn | apply bd) | exact HB.out)))); (case aL => have := LMc2.out; omega); intro v593 w5 ho hb hg hat; rw [← Ny592.out] at ho; have n0_ := Am (hb); have n1_ := Am (ho); clear HB; clear HO_1; have HB := n0_; have HO594 := n1_; clear n0_ n1_; clear ho hb hg hat) | ((with_reducible refine gate_callee (f := 68) rfl ?_); refine goesL_ (some 13) rfl rfl Try.func68 (by kernel_rfl) rfl #[.int .i64 x2_1] rfl (by (try simp only [List.map_toArray, List.map_cons, List.map_nil]); first | done | rfl | (simp only [List.length_drop, List.length_take]; rfl)) ?_; (with_reducible refine (steps_alone.calls x2_1 true _ A3.out).mono ?_); rintro e w' ⟨rfl, ⟨nd, rfl⟩⟩; refine ⟨_, rfl, ?_⟩))
      go_roundg k1
      case measure => have := HK1.out; omega
      case rel => exact ⟨(y592), (wrap64 (x2_1 + 1)), (by first | rfl | (simp; done) | (simp [*]; done)), H', ⟨by have := HK1.out; omega⟩, ⟨by (with_reducible repeat (first | apply Kd.R_alloc | apply Kd.R_drewN | apply Kd.R_drew)); exact HO594.out⟩, ⟨by repeat (first | (with_reducible first | exact HB.out | apply ba | apply bn | apply bd) | exact HB.out)⟩⟩
     ·replace c4 := Bool.eq_false_iff.mpr c4
      subst c4
      have H1 : (if y592.length < 8796093022208 then (steps_All.l0 k1 (y592 ++ [(⟨x2_1, true⟩ : S62)]) (wrap64 (x2_1 + 1))) else (none)) = some r := by rw [if_neg (show ¬ (false = true) by decide)] at H; exact H
      clear H
      have H := H1
      clear H1
      by_cases c6 : y592.length < 8796093022208
      ·rw [if_pos c6] at H
       have LMc6 := Am c6
       clear c6
       obtain ⟨y596, hy596⟩ : ∃ y_ : List (S62), y_ = (y592 ++ [(⟨x2_1, true⟩ : S62)]) := ⟨_, rfl⟩
       replace H : (steps_All.l0 k1 y596 (wrap64 (x2_1 + 1))) = some r := by first | (rw [hy596]; with_reducible exact H) | (have H2_ := (Option.bind_some _ _).symm.trans H; rw [hy596]; with_reducible exact H2_) | (have H2_ := (Option.bind_some _ _).symm.trans H; with_reducible exact H2_) | with_reducible exact H | (rw [hy596]; exact H) | exact H
       have Ny596 := Am hy596
       clear hy596
       have H' := Am H
       clear H
       go_wp2_with (first | ((with_reducible refine gate_builtin (b := .append) (xs := #[.tmp 7, .tmp 10]) rfl ?_); at_builtin; refine Kd.R_append k62 (w0 := w) w.heap.size rfl (.tmp 7) (.tmp 10) 40 62 (.agg #[(.int .i64 0), (.bool false)]) 16 rfl Try.underlying40 info62 rfl (by decide) (by omega) u1 x1_1 (⟨x2_1, false⟩ : S62) [.int .i64 x2_1, .bool false] (fun _ => True) (fun _ => False) rfl rfl ?aP (fun _ hk => hk.elim) ?aF ?aO ?aB ?aS ?aL ?_; (case aP => exact k62_mkM _ _ _ (⟨x2_1, false⟩ : S62)); (case aB => exact (by repeat (first | (with_reducible first | exact HB.out | apply ba | apply bn | apply bd) | exact HB.out))); (case aF => exact (fun _ _ => trivial)); (case aO => exact (by (with_reducible repeat (first | apply Kd.R_alloc | apply Kd.R_drewN | apply Kd.R_drew)); exact HO_1.out)); (case aS => exact (below_size (by repeat (first | (with_reducible first | exact HB.out | apply ba | apply bn | apply bd) | exact HB.out)))); (case aL => have := LMc2.out; omega); intro v593 w7 ho hb hg hat; rw [← Ny592.out] at ho; have n0_ := Am (hb); have n1_ := Am (ho); clear HB; clear HO_1; have HB := n0_; have HO594 := n1_; clear n0_ n1_; clear ho hb hg hat) | ((with_reducible refine gate_callee (f := 68) rfl ?_); refine goesL_ (some 13) rfl rfl Try.func68 (by kernel_rfl) rfl #[.int .i64 x2_1] rfl (by (try simp only [List.map_toArray, List.map_cons, List.map_nil]); first | done | rfl | (simp only [List.length_drop, List.length_take]; rfl)) ?_; (with_reducible refine (steps_alone.calls x2_1 false _ A3.out).mono ?_); rintro e w' ⟨rfl, ⟨nd, rfl⟩⟩; refine ⟨_, rfl, ?_⟩) | ((with_reducible refine gate_builtin (b := .append) (xs := #[.tmp 15, .tmp 18]) rfl ?_); at_builtin; refine Kd.R_append k62 (w0 := w) w.heap.size rfl (.tmp 15) (.tmp 18) 40 62 (.agg #[(.int .i64 0), (.bool false)]) 16 rfl Try.underlying40 info62 rfl (by decide) (by omega) v593 y592 (⟨x2_1, true⟩ : S62) [.int .i64 x2_1, .bool true] (fun _ => True) (fun _ => False) rfl rfl ?aP (fun _ hk => hk.elim) ?aF ?aO ?aB ?aS ?aL ?_; (case aP => exact k62_mkM _ _ _ (⟨x2_1, true⟩ : S62)); (case aB => exact (by repeat (first | (with_reducible first | exact HB.out | apply ba | apply bn | apply bd) | exact HB.out))); (case aF => exact (fun _ _ => trivial)); (case aO => exact (by (with_reducible repeat (first | apply Kd.R_alloc | apply Kd.R_drewN | apply Kd.R_drew)); exact HO594.out)); (case aS => exact (below_size (by repeat (first | (with_reducible first | exact HB.out | apply ba | apply bn | apply bd) | exact HB.out)))); (case aL => have := LMc6.out; omega); intro v597 w8 ho hb hg hat; rw [← Ny596.out] at ho; have n0_ := Am (hb); have n1_ := Am (ho); clear HB; clear HO594; have HB := n0_; have HO598 := n1_; clear n0_ n1_; clear ho hb hg hat))
       go_roundg k1
       case measure => have := HK1.out; omega
       case rel => exact ⟨(y596), (wrap64 (x2_1 + 1)), (by first | rfl | (simp; done) | (simp [*]; done)), H', ⟨by have := HK1.out; omega⟩, ⟨by (with_reducible repeat (first | apply Kd.R_alloc | apply Kd.R_drewN | apply Kd.R_drew)); exact HO598.out⟩, ⟨by repeat (first | (with_reducible first | exact HB.out | apply ba | apply bn | apply bd) | exact HB.out)⟩⟩
      ·rw [if_neg c6] at H
       exact absurd H (by simp)
    ·rw [if_neg c2] at H
     exact absurd H (by simp)
   ·rw [if_neg c1] at H
    have c1b0 : decide (x2_1 ≤ 12) = false := decide_eq_false c1
    clear c1
    obtain rfl := Option.some.inj H
    go_wp2
    go_ret
    exact ⟨_, by first | rfl | (simp [errW_none, errW_some] <;> rfl) | (simp [*, errW_none, errW_some] <;> rfl), by (with_reducible repeat (first | apply Kd.R_alloc | apply Kd.R_drewN | apply Kd.R_drew)); exact HO_1.out, by repeat (first | (with_reducible first | exact HB.out | apply ba | apply bn | apply bd) | exact HB.out)⟩
-- NOT PRINTED: function 50 (steps_here)
-- NOT PRINTED: function 16 (steps_Spots)
def larchlaw18_plain.f (a0 : Int) (a1 : Int) : Option (Bool) := some (a0 == a1)
set_option maxHeartbeats 8000000 in
set_option maxRecDepth 100000 in
theorem larchlaw18_plain.calls (a0 : Int) (a1 : Int) (r : Bool) (w : World) (h : larchlaw18_plain.f a0 a1 = some r) :
  Calls Try.prog 17 #[.int .i64 a0, .int .i64 a1] w fun e w' => e = .returned (.bool r) ∧ Drawn0 w w' := by
 have H : (some (a0 == a1)) = some r := h
 clear h
 obtain rfl := Option.some.inj H
 go_enter Try.func17, Try.ntmps17
 go_wp2
 go_ret
 exact ⟨by first | rfl | (simp; done) | (simp [*]; done), by repeat (first | exact Drawn0.refl _ | apply Drawn0.step)⟩
def larchref02_Ints.l0 : Nat → List Int → List Int → Int → Option (Bool)
 | 0, _, _, _ => none
 | k + 1, x0, x1, x5 => if x5 < (x0.length : Int) then (if 0 ≤ x5 then (if x5 < (x1.length : Int) then (if (rd x0 x5) = (rd x1 x5) then (larchref02_Ints.l0 k x0 x1 (wrap64 (x5 + 1))) else (some false)) else (none)) else (none)) else (some true)
def larchref02_Ints.f (k : Nat) (l0 : List Int) (l1 : List Int) : Option (Bool) := if (l0.length : Int) = (l1.length : Int) then (larchref02_Ints.l0 k l0 l1 0) else (some false)
set_option maxHeartbeats 8000000 in
set_option maxRecDepth 100000 in
theorem larchref02_Ints.calls (k : Nat) (A0 : Option Addr) (c0 : Nat) (l0 : List Int) (A1 : Option Addr) (c1 : Nat) (l1 : List Int) (r : Bool) (w : World) (hr0 : Kd.C (Kd.int .i64) w A0 l0.length l0) (hc0 : l0.length ≤ c0) (hr1 : Kd.C (Kd.int .i64) w A1 l1.length l1) (hc1 : l1.length ≤ c1) (h : larchref02_Ints.f k l0 l1 = some r) :
  Calls Try.prog 18 #[.slice A0 l0.length c0, .slice A1 l1.length c1] w fun e w' => e = .returned (.bool r) ∧ Drawn0 w w' := by
 have HR0 := Am hr0
 have HC0 := Am hc0
 clear hr0 hc0
 have HR1 := Am hr1
 have HC1 := Am hc1
 clear hr1 hc1
 have H : (if (l0.length : Int) = (l1.length : Int) then (larchref02_Ints.l0 k l0 l1 0) else (some false)) = some r := h
 clear h
 by_cases c3 : (l0.length : Int) = (l1.length : Int)
 ·rw [if_pos c3] at H
  have c3b0 : ((l0.length : Int) == (l1.length : Int)) = true := beq_iff_eq.mpr c3
  have c3b1 : ((l0.length : Int) != (l1.length : Int)) = false := bne_eq_false_iff_eq.mpr c3
  have c3b2 : (l0.length == l1.length) = true := by first | simpa using c3 | (simp at c3 ⊢; omega)
  clear c3
  have H' := Am H
  clear H
  go_enter Try.func18, Try.ntmps18
  go_wp2
  repeat (go_quiet (fail); try go_wp2)
  go_loopg [5] k (fun kq v5 w' => ∃ (x5_1 : Int), v5 = .int .i64 x5_1 ∧ Aside0 (larchref02_Ints.l0 kq l0 l1 x5_1 = some r) ∧ Aside0 (kq ≤ k) ∧ Drawn0 w w')
  case atStart => exact ⟨(0), (by first | rfl | (simp; done) | (simp [*]; done)), H', ⟨Nat.le_refl _⟩, by repeat (first | exact Drawn0.refl _ | apply Drawn0.step)⟩
  case round =>
   clear H'
   try clear c1
   try clear p2
   try clear c3
   try clear c3b0
   try clear c3b1
   try clear c3b2
   obtain ⟨x5_1, rfl, HA, HK1, ⟨m1, rfl⟩⟩ := hrel
   cases gk with
   | zero => exact absurd HA.out (by simp [larchref02_Ints.l0])
   | succ k1 =>
    have H := HA.out
    clear HA
    simp only [larchref02_Ints.l0] at H
    by_cases c4 : x5_1 < (l0.length : Int)
    ·rw [if_pos c4] at H
     have c4b0 : decide (x5_1 < (l0.length : Int)) = true := decide_eq_true c4
     clear c4
     by_cases c5 : 0 ≤ x5_1
     ·rw [if_pos c5] at H
      have c5b0 : decide (0 ≤ x5_1) = true := decide_eq_true c5
      clear c5
      by_cases c6 : x5_1 < (l1.length : Int)
      ·rw [if_pos c6] at H
       have c6b0 : decide (x5_1 < (l1.length : Int)) = true := decide_eq_true c6
       clear c6
       by_cases c7 : (rd l0 x5_1) = (rd l1 x5_1)
       ·rw [if_pos c7] at H
        have c7b0 : ((rd l0 x5_1) == (rd l1 x5_1)) = true := beq_iff_eq.mpr c7
        have c7b1 : ((rd l0 x5_1) != (rd l1 x5_1)) = false := bne_eq_false_iff_eq.mpr c7
        clear c7
        have H' := Am H
        clear H
        have p604 : 0 ≤ (x5_1 : Int) := of_decide_eq_true (by first | (with_reducible assumption) | assumption)
        have q604 : x5_1 < (l0.length : Int) := of_decide_eq_true (by first | (with_reducible assumption) | assumption)
        obtain ⟨ad604, e604, hx604_0⟩ := Kd.at_int HR0.out x5_1 p604 q604
        cases e604
        replace p604 := eq_true p604
        replace q604 := eq_true q604
        have p605 : 0 ≤ (x5_1 : Int) := of_decide_eq_true (by first | (with_reducible assumption) | assumption)
        have q605 : x5_1 < (l1.length : Int) := of_decide_eq_true (by first | (with_reducible assumption) | assumption)
        obtain ⟨ad605, e605, hx605_0⟩ := Kd.at_int HR1.out x5_1 p605 q605
        cases e605
        replace p605 := eq_true p605
        replace q605 := eq_true q605
        go_wp2
        repeat (go_quiet (fail); try go_wp2)
        go_roundg k1
        case measure => have := HK1.out; omega
        case rel => exact ⟨(wrap64 (x5_1 + 1)), (by first | rfl | (simp; done) | (simp [*]; done)), H', ⟨by have := HK1.out; omega⟩, by repeat (first | exact Drawn0.refl _ | apply Drawn0.step)⟩
       ·rw [if_neg c7] at H
        have c7b0 : ((rd l0 x5_1) == (rd l1 x5_1)) = false := beq_eq_false_iff_ne.mpr c7
        have c7b1 : ((rd l0 x5_1) != (rd l1 x5_1)) = true := bne_iff_ne.mpr c7
        obtain rfl := Option.some.inj H
        have p604 : 0 ≤ (x5_1 : Int) := of_decide_eq_true (by first | (with_reducible assumption) | assumption)
        have q604 : x5_1 < (l0.length : Int) := of_decide_eq_true (by first | (with_reducible assumption) | assumption)
        obtain ⟨ad604, e604, hx604_0⟩ := Kd.at_int HR0.out x5_1 p604 q604
        cases e604
        replace p604 := eq_true p604
        replace q604 := eq_true q604
        have p605 : 0 ≤ (x5_1 : Int) := of_decide_eq_true (by first | (with_reducible assumption) | assumption)
        have q605 : x5_1 < (l1.length : Int) := of_decide_eq_true (by first | (with_reducible assumption) | assumption)
        obtain ⟨ad605, e605, hx605_0⟩ := Kd.at_int HR1.out x5_1 p605 q605
        cases e605
        replace p605 := eq_true p605
        replace q605 := eq_true q605
        go_wp2
        repeat (go_quiet (fail); try go_wp2)
        go_ret
        exact ⟨by first | rfl | (simp; done) | (simp [*]; done), by repeat (first | exact Drawn0.refl _ | apply Drawn0.step)⟩
      ·rw [if_neg c6] at H
       exact absurd H (by simp)
     ·rw [if_neg c5] at H
      exact absurd H (by simp)
    ·rw [if_neg c4] at H
     have c4b0 : decide (x5_1 < (l0.length : Int)) = false := decide_eq_false c4
     clear c4
     obtain rfl := Option.some.inj H
     go_wp2
     repeat (go_quiet (fail); try go_wp2)
     go_ret
     exact ⟨by first | rfl | (simp; done) | (simp [*]; done), by repeat (first | exact Drawn0.refl _ | apply Drawn0.step)⟩
 ·rw [if_neg c3] at H
  have c3b0 : ((l0.length : Int) == (l1.length : Int)) = false := beq_eq_false_iff_ne.mpr c3
  have c3b1 : ((l0.length : Int) != (l1.length : Int)) = true := bne_iff_ne.mpr c3
  have c3b2 : (l0.length == l1.length) = false := by first | simpa using c3 | (simp at c3 ⊢; omega)
  obtain rfl := Option.some.inj H
  go_enter Try.func18, Try.ntmps18
  go_wp2
  repeat (go_quiet (fail); try go_wp2)
  go_ret
  exact ⟨by first | rfl | (simp; done) | (simp [*]; done), by repeat (first | exact Drawn0.refl _ | apply Drawn0.step)⟩
def larchref18_SameMoves.l0 : Nat → List (S24) → List (S24) → Int → Option (Bool)
 | 0, _, _, _ => none
 | k + 1, x0, x1, x5 => if x5 < (x0.length : Int) then (if 0 ≤ x5 then (if x5 < (x1.length : Int) then (if (!(((rd_T24 x0 x5).f0) == ((rd_T24 x1 x5).f0)) || (!(((rd_T24 x0 x5).f1) == ((rd_T24 x1 x5).f1)))) = true then (some false) else (larchref18_SameMoves.l0 k x0 x1 (wrap64 (x5 + 1)))) else (none)) else (none)) else (some true)
def larchref18_SameMoves.f (k : Nat) (l0 : List (S24)) (l1 : List (S24)) : Option (Bool) := if (l0.length : Int) = (l1.length : Int) then (larchref18_SameMoves.l0 k l0 l1 0) else (some false)
set_option maxHeartbeats 8000000 in
set_option maxRecDepth 100000 in
theorem larchref18_SameMoves.calls (k : Nat) (A0 : Option Addr) (c0 : Nat) (l0 : List (S24)) (A1 : Option Addr) (c1 : Nat) (l1 : List (S24)) (r : Bool) (w : World) (hr0 : Kd.C k24 w A0 l0.length l0) (hc0 : l0.length ≤ c0) (hr1 : Kd.C k24 w A1 l1.length l1) (hc1 : l1.length ≤ c1) (h : larchref18_SameMoves.f k l0 l1 = some r) :
  Calls Try.prog 19 #[.slice A0 l0.length c0, .slice A1 l1.length c1] w fun e w' => e = .returned (.bool r) ∧ Drawn0 w w' := by
 have hu24 := Try.underlying24
 have HR0 := Am hr0
 have HC0 := Am hc0
 clear hr0 hc0
 have HR1 := Am hr1
 have HC1 := Am hc1
 clear hr1 hc1
 have H : (if (l0.length : Int) = (l1.length : Int) then (larchref18_SameMoves.l0 k l0 l1 0) else (some false)) = some r := h
 clear h
 by_cases c3 : (l0.length : Int) = (l1.length : Int)
 ·rw [if_pos c3] at H
  have c3b0 : ((l0.length : Int) == (l1.length : Int)) = true := beq_iff_eq.mpr c3
  have c3b1 : ((l0.length : Int) != (l1.length : Int)) = false := bne_eq_false_iff_eq.mpr c3
  have c3b2 : (l0.length == l1.length) = true := by first | simpa using c3 | (simp at c3 ⊢; omega)
  clear c3
  have H' := Am H
  clear H
  go_enter Try.func19, Try.ntmps19
  go_wp2
  repeat (go_quiet (fail); try go_wp2)
  go_loopg [5] k (fun kq v5 w' => ∃ (x5_1 : Int), v5 = .int .i64 x5_1 ∧ Aside0 (larchref18_SameMoves.l0 kq l0 l1 x5_1 = some r) ∧ Aside0 (kq ≤ k) ∧ Drawn0 w w')
  case atStart => exact ⟨(0), (by first | rfl | (simp; done) | (simp [*]; done)), H', ⟨Nat.le_refl _⟩, by repeat (first | exact Drawn0.refl _ | apply Drawn0.step)⟩
  case round =>
   clear H'
   try clear c1
   try clear p2
   try clear c3
   try clear c3b0
   try clear c3b1
   try clear c3b2
   obtain ⟨x5_1, rfl, HA, HK1, ⟨m1, rfl⟩⟩ := hrel
   cases gk with
   | zero => exact absurd HA.out (by simp [larchref18_SameMoves.l0])
   | succ k1 =>
    have H := HA.out
    clear HA
    simp only [larchref18_SameMoves.l0] at H
    by_cases c4 : x5_1 < (l0.length : Int)
    ·rw [if_pos c4] at H
     have c4b0 : decide (x5_1 < (l0.length : Int)) = true := decide_eq_true c4
     clear c4
     by_cases c5 : 0 ≤ x5_1
     ·rw [if_pos c5] at H
      have c5b0 : decide (0 ≤ x5_1) = true := decide_eq_true c5
      clear c5
      by_cases c6 : x5_1 < (l1.length : Int)
      ·rw [if_pos c6] at H
       have c6b0 : decide (x5_1 < (l1.length : Int)) = true := decide_eq_true c6
       clear c6
       by_cases c7 : (!(((rd_T24 l0 x5_1).f0) == ((rd_T24 l1 x5_1).f0)) || (!(((rd_T24 l0 x5_1).f1) == ((rd_T24 l1 x5_1).f1)))) = true
       ·rw [if_pos c7] at H
        have c7b0 : (!(((rd_T24 l0 x5_1).f0) == ((rd_T24 l1 x5_1).f0)) || (!(((rd_T24 l0 x5_1).f1) == ((rd_T24 l1 x5_1).f1)))) = true := c7
        clear c7
        obtain rfl := Option.some.inj H
        have p606 : 0 ≤ (x5_1 : Int) := of_decide_eq_true (by first | (with_reducible assumption) | assumption)
        have q606 : x5_1 < (l0.length : Int) := of_decide_eq_true (by first | (with_reducible assumption) | assumption)
        obtain ⟨ad606, e606, hx606_0, hx606_1⟩ := at_T24 HR0.out x5_1 p606 q606
        cases e606
        replace p606 := eq_true p606
        replace q606 := eq_true q606
        have p607 : 0 ≤ (x5_1 : Int) := of_decide_eq_true (by first | (with_reducible assumption) | assumption)
        have q607 : x5_1 < (l1.length : Int) := of_decide_eq_true (by first | (with_reducible assumption) | assumption)
        obtain ⟨ad607, e607, hx607_0, hx607_1⟩ := at_T24 HR1.out x5_1 p607 q607
        cases e607
        replace p607 := eq_true p607
        replace q607 := eq_true q607
        go_wp2
        repeat (go_quiet (fail); try go_wp2)
        go_ret
        exact ⟨by first | rfl | (simp; done) | (simp [*]; done), by repeat (first | exact Drawn0.refl _ | apply Drawn0.step)⟩
       ·rw [if_neg c7] at H
        have c7b0 : (!(((rd_T24 l0 x5_1).f0) == ((rd_T24 l1 x5_1).f0)) || (!(((rd_T24 l0 x5_1).f1) == ((rd_T24 l1 x5_1).f1)))) = false := by simpa using c7
        clear c7
        have H' := Am H
        clear H
        have p606 : 0 ≤ (x5_1 : Int) := of_decide_eq_true (by first | (with_reducible assumption) | assumption)
        have q606 : x5_1 < (l0.length : Int) := of_decide_eq_true (by first | (with_reducible assumption) | assumption)
        obtain ⟨ad606, e606, hx606_0, hx606_1⟩ := at_T24 HR0.out x5_1 p606 q606
        cases e606
        replace p606 := eq_true p606
        replace q606 := eq_true q606
        have p607 : 0 ≤ (x5_1 : Int) := of_decide_eq_true (by first | (with_reducible assumption) | assumption)
        have q607 : x5_1 < (l1.length : Int) := of_decide_eq_true (by first | (with_reducible assumption) | assumption)
        obtain ⟨ad607, e607, hx607_0, hx607_1⟩ := at_T24 HR1.out x5_1 p607 q607
        cases e607
        replace p607 := eq_true p607
        replace q607 := eq_true q607
        go_wp2
        repeat (go_quiet (fail); try go_wp2)
        go_roundg k1
        case measure => have := HK1.out; omega
        case rel => exact ⟨(wrap64 (x5_1 + 1)), (by first | rfl | (simp; done) | (simp [*]; done)), H', ⟨by have := HK1.out; omega⟩, by repeat (first | exact Drawn0.refl _ | apply Drawn0.step)⟩
      ·rw [if_neg c6] at H
       exact absurd H (by simp)
     ·rw [if_neg c5] at H
      exact absurd H (by simp)
    ·rw [if_neg c4] at H
     have c4b0 : decide (x5_1 < (l0.length : Int)) = false := decide_eq_false c4
     clear c4
     obtain rfl := Option.some.inj H
     go_wp2
     repeat (go_quiet (fail); try go_wp2)
     go_ret
     exact ⟨by first | rfl | (simp; done) | (simp [*]; done), by repeat (first | exact Drawn0.refl _ | apply Drawn0.step)⟩
 ·rw [if_neg c3] at H
  have c3b0 : ((l0.length : Int) == (l1.length : Int)) = false := beq_eq_false_iff_ne.mpr c3
  have c3b1 : ((l0.length : Int) != (l1.length : Int)) = true := bne_iff_ne.mpr c3
  have c3b2 : (l0.length == l1.length) = false := by first | simpa using c3 | (simp at c3 ⊢; omega)
  obtain rfl := Option.some.inj H
  go_enter Try.func19, Try.ntmps19
  go_wp2
  repeat (go_quiet (fail); try go_wp2)
  go_ret
  exact ⟨by first | rfl | (simp; done) | (simp [*]; done), by repeat (first | exact Drawn0.refl _ | apply Drawn0.step)⟩
def larchlaw18_from.l0 : Nat → List (S24) → List (S62) → Int → Int → Option ((List (S24)))
 | 0, _, _, _, _ => none
 | k + 1, x3, x6, x7, x8 => if x8 < x7 then (if 0 ≤ x8 then (if x8 < (x6.length : Int) then (if x3.length < 8796093022208 then (larchlaw18_from.l0 k (x3 ++ [(⟨(rd_T62 x6 x8).f0, (rd_T62 x6 x8).f1⟩ : S24)]) x6 x7 (wrap64 (x8 + 1))) else (none)) else (none)) else (none)) else (some x3)
def larchlaw18_from.f (k : Nat) (l0 : List (S62)) : Option ((List (S24))) := larchlaw18_from.l0 k ([] : List (S24)) l0 (l0.length : Int) 0
set_option maxHeartbeats 8000000 in
set_option maxRecDepth 100000 in
theorem larchlaw18_from.calls (k : Nat) (A0 : Option Addr) (c0 : Nat) (l0 : List (S62)) (r : List (S24)) (w : World) (hr0 : Kd.C k62 w A0 l0.length l0) (hc0 : l0.length ≤ c0) (h : larchlaw18_from.f k l0 = some r) :
  Calls Try.prog 20 #[.slice A0 l0.length c0] w fun e w' => ∃ v0_ : Value, e = .returned (v0_) ∧ Kd.R k24 24 w' w.heap.size (fun _ => True) v0_ r ∧ Below w.heap.size w w' := by
 have hu62 := Try.underlying62
 have hu24 := Try.underlying24
 have HR0 := Am hr0
 have HC0 := Am hc0
 clear hr0 hc0
 have HB := Am (Below.refl w.heap.size w)
 have H : (larchlaw18_from.l0 k ([] : List (S24)) l0 (l0.length : Int) 0) = some r := h
 clear h
 have H' := Am H
 clear H
 go_enter Try.func20, Try.ntmps20
 go_wp2
 go_loopg [3, 8] k (fun kq v3 v8 w' => ∃ (x3_1 : List (S24)) (x8_1 : Int), v8 = .int .i64 x8_1 ∧ Aside0 (larchlaw18_from.l0 kq x3_1 l0 (l0.length : Int) x8_1 = some r) ∧ Aside0 (kq ≤ k) ∧ Aside0 (Kd.R k24 24 w' w.heap.size (fun _ => True) v3 x3_1) ∧ Aside0 (Below w.heap.size w w'))
 case atStart => exact ⟨(([] : List (S24))), (0), (by first | rfl | (simp; done) | (simp [*]; done)), H', ⟨Nat.le_refl _⟩, ⟨by first | exact Kd.R_nil _ _ _ _ _ | exact Kd.N_nil _ _ _ _ _ | exact Kd.V_nil _ _ _ _ _ | exact Kd.Q_nil _ _ _ _ _ | exact Kd.S_nil _ _ _ _ _⟩, ⟨by repeat (first | (with_reducible first | exact HB.out | apply ba | apply bn | apply bd) | exact HB.out)⟩⟩
 case round =>
  clear H'
  obtain ⟨x3_1, x8_1, rfl, HA, HK1, HO_3, HB⟩ := hrel
  cases gk with
  | zero => exact absurd HA.out (by simp [larchlaw18_from.l0])
  | succ k1 =>
   have H := HA.out
   clear HA
   simp only [larchlaw18_from.l0] at H
   by_cases c2 : x8_1 < (l0.length : Int)
   ·rw [if_pos c2] at H
    have c2b0 : decide (x8_1 < (l0.length : Int)) = true := decide_eq_true c2
    clear c2
    by_cases c3 : 0 ≤ x8_1
    ·rw [if_pos c3] at H
     have c3b0 : decide (0 ≤ x8_1) = true := decide_eq_true c3
     clear c3
     by_cases c4 : x8_1 < (l0.length : Int)
     ·rw [if_pos c4] at H
      have c4b0 : decide (x8_1 < (l0.length : Int)) = true := decide_eq_true c4
      clear c4
      by_cases c5 : x3_1.length < 8796093022208
      ·rw [if_pos c5] at H
       have LMc5 := Am c5
       clear c5
       obtain ⟨y610, hy610⟩ : ∃ y_ : List (S24), y_ = (x3_1 ++ [(⟨(rd_T62 l0 x8_1).f0, (rd_T62 l0 x8_1).f1⟩ : S24)]) := ⟨_, rfl⟩
       replace H : (larchlaw18_from.l0 k1 y610 l0 (l0.length : Int) (wrap64 (x8_1 + 1))) = some r := by first | (rw [hy610]; with_reducible exact H) | (have H2_ := (Option.bind_some _ _).symm.trans H; rw [hy610]; with_reducible exact H2_) | (have H2_ := (Option.bind_some _ _).symm.trans H; with_reducible exact H2_) | with_reducible exact H | (rw [hy610]; exact H) | exact H
       have Ny610 := Am hy610
       clear hy610
       have H' := Am H
       clear H
       have p608 : 0 ≤ (x8_1 : Int) := of_decide_eq_true (by first | (with_reducible assumption) | assumption)
       have q608 : x8_1 < (l0.length : Int) := of_decide_eq_true (by first | (with_reducible assumption) | assumption)
       obtain ⟨ad608, e608, hx608_0, hx608_1⟩ := at_T62 HR0.out x8_1 p608 q608
       cases e608
       replace hx608_0 := (HB.out.cell (blt w _ hx608_0)).trans hx608_0
       replace hx608_1 := (HB.out.cell (blt w _ hx608_1)).trans hx608_1
       replace p608 := eq_true p608
       replace q608 := eq_true q608
       go_wp2_with (first | ((with_reducible refine gate_dst (N := 5) rfl ?_); refine box_event ?hg (N := 5) ?hd (cs := #[.int .i64 0, .bool false]) (t := 62) ?hr ?_; (case hd => rfl); (case hg => rfl); (case hr => first | (go_simp; done) | (go_simp; rfl)); intro gb609 hg w6 hbox hb; have n0_ := Am (Kd.R_below (by (with_reducible repeat (first | apply Kd.R_alloc | apply Kd.R_drewN | apply Kd.R_drew)); exact HO_3.out) hb); have n1_ := Am (below_step (by repeat (first | (with_reducible first | exact HB.out | apply ba | apply bn | apply bd) | exact HB.out)) hb); have n2_ := Am (hbox); have n3_ := Am ((by rw [hg]; exact (below_size (by repeat (first | (with_reducible first | exact HB.out | apply ba | apply bn | apply bd) | exact HB.out))) : w.heap.size ≤ gb609)); have n4_ := Am ((by rw [hg]; exact (below_size (by repeat (first | (with_reducible first | exact HB.out | apply ba | apply bn | apply bd) | exact HB.out))) : w.heap.size ≤ gb609)); clear HO_3; clear HB; have HO_3 := n0_; have HB := n1_; have BK609 := n2_; have GW609 := n3_; have GE609 := n4_; clear n0_ n1_ n2_ n3_ n4_; clear hb hbox hg; have hcz7_0 : w6.cell? ⟨gb609, 0, none⟩ = some (.int .i64 0) := (blk_cell BK609.out 0).trans rfl; have hcz7_1 : w6.cell? ⟨gb609, 1, none⟩ = some (.bool false) := (blk_cell BK609.out 1).trans rfl; have hfz7_0 := blk_frozen BK609.out 0; have hfz7_1 := blk_frozen BK609.out 1) | ((with_reducible refine gate_builtin (b := .append) (xs := #[.tmp 12, .tmp 18]) rfl ?_); at_builtin; refine Kd.R_append k24 (w0 := w) w.heap.size rfl (.tmp 12) (.tmp 18) 37 24 (.agg #[(.int .i64 0), (.bool false)]) 16 rfl Try.underlying37 info24 rfl (by decide) (by omega) u3 x3_1 (⟨(rd_T62 l0 x8_1).f0, (rd_T62 l0 x8_1).f1⟩ : S24) [.int .i64 ((rd_T62 l0 x8_1).f0), .bool ((rd_T62 l0 x8_1).f1)] (fun _ => True) (fun _ => False) rfl (by first | (go_simp; done) | (go_simp; rfl)) ?aP (fun _ hk => hk.elim) ?aF ?aO ?aB ?aS ?aL ?_; (case aP => exact k24_mkM _ _ _ (⟨(rd_T62 l0 x8_1).f0, (rd_T62 l0 x8_1).f1⟩ : S24)); (case aB => exact (by repeat (first | (with_reducible first | exact HB.out | apply ba | apply bn | apply bd | refine below_set ?_ GE609.out) | exact HB.out))); (case aF => exact (fun _ _ => trivial)); (case aO => exact (by (with_reducible repeat (first | apply Kd.R_alloc | apply Kd.R_drewN | apply Kd.R_drew)); exact Kd.R_mono (Kd.R_far (p := ⟨gb609, 1, none⟩) (Kd.R_far (p := ⟨gb609, 0, none⟩) (Kd.R_types HO_3.out BK609.out (by decide)) (fun _ hk => hk.2) (.int .i64 ((rd_T62 l0 x8_1).f0))) (fun _ hk => hk.2) (.bool ((rd_T62 l0 x8_1).f1))) (fun _ hk => trivial))); (case aS => exact (below_size (by repeat (first | (with_reducible first | exact HB.out | apply ba | apply bn | apply bd | refine below_set ?_ GE609.out) | exact HB.out)))); (case aL => have := LMc5.out; omega); intro v611 w8 ho hb hg hat; rw [← Ny610.out] at ho; have n0_ := Am (blk_grown (g := gb609) (o := .cells #[.int .i64 ((rd_T62 l0 x8_1).f0), .bool ((rd_T62 l0 x8_1).f1)] 62 (0, 0)) (by (with_reducible repeat (first | refine blk_drewN ?_ _ | refine blk_drew ?_ | refine blk_alloc ?_ _)); refine blk_put (cs := #[.int .i64 ((rd_T62 l0 x8_1).f0), .bool false]) ?_ 1 _ rfl; (with_reducible repeat (first | refine blk_drewN ?_ _ | refine blk_drew ?_ | refine blk_alloc ?_ _)); refine blk_put (cs := #[.int .i64 0, .bool false]) ?_ 0 _ rfl; (with_reducible repeat (first | refine blk_drewN ?_ _ | refine blk_drew ?_ | refine blk_alloc ?_ _)); exact BK609.out) hg (Kd.R_ne HO_3.out BK609.out (by decide))); have n1_ := Am (hb); have n2_ := Am (ho); clear BK609; clear HB; clear HO_3; have BK609 := n0_; have HB := n1_; have HO612 := n2_; clear n0_ n1_ n2_; clear ho hb hg hat))
       go_roundg k1
       case measure => have := HK1.out; omega
       case rel => exact ⟨(y610), (wrap64 (x8_1 + 1)), (by first | rfl | (simp; done) | (simp [*]; done)), H', ⟨by have := HK1.out; omega⟩, ⟨by (with_reducible repeat (first | apply Kd.R_alloc | apply Kd.R_drewN | apply Kd.R_drew)); exact HO612.out⟩, ⟨by repeat (first | (with_reducible first | exact HB.out | apply ba | apply bn | apply bd | refine below_set ?_ GE609.out) | exact HB.out)⟩⟩
      ·rw [if_neg c5] at H
       exact absurd H (by simp)
     ·rw [if_neg c4] at H
      exact absurd H (by simp)
    ·rw [if_neg c3] at H
     exact absurd H (by simp)
   ·rw [if_neg c2] at H
    have c2b0 : decide (x8_1 < (l0.length : Int)) = false := decide_eq_false c2
    clear c2
    obtain rfl := Option.some.inj H
    go_wp2
    go_ret
    exact ⟨_, by first | rfl | (simp [errW_none, errW_some] <;> rfl) | (simp [*, errW_none, errW_some] <;> rfl), by (with_reducible repeat (first | apply Kd.R_alloc | apply Kd.R_drewN | apply Kd.R_drew)); exact HO_3.out, by repeat (first | (with_reducible first | exact HB.out | apply ba | apply bn | apply bd) | exact HB.out)⟩
-- NOT PRINTED: function 5 (larchlaw18_StepsSpots)
-- NOT PRINTED: function 56 (larchref18_with)
-- NOT PRINTED: function 83 (larchref18_node)
-- NOT PRINTED: function 55 (larchref18_do)
-- NOT PRINTED: function 57 (larchref18_great)
-- NOT PRINTED: function 58 (larchref18_instead)
-- NOT PRINTED: function 60 (larchref18_tree_lay)
-- NOT PRINTED: function 25 (larchref18_Do)
-- NOT PRINTED: function 61 (larchref18_outs)
-- NOT PRINTED: function 27 (larchref18_Touched)
-- NOT PRINTED: function 28 (steps_Can)
-- NOT PRINTED: function 31 (steps_Here)
-- NOT PRINTED: function 67 (steps_view_touched)
-- NOT PRINTED: function 32 (steps_Touched)
-- NOT PRINTED: function 7 (larchlaw18_StepsDo)
-- NOT PRINTED: function 8 (larchlaw18_StepsKeeps)
end Go.Proofs.Ytgleaefhflamnaa.T
/- The reference's Check and the program's Check answer alike. -/
namespace Go.Proofs.Ytgleaefhflamnaa.T
open Go.RowKit Go.Proofs.YtgleaefhflamnaaW.PrintWords Go.Proofs.YtgleaefhflamnaaW.PrintLast Go.Proofs.YtgleaefhflamnaaW.PrintMore
set_option linter.unusedVariables false
set_option linter.unusedSimpArgs false
set_option maxHeartbeats 4000000 in
theorem refnode_f (n : S34) (len k : Nat) : larchref16_node.f (k + 2) n.f0 n.f1 n.f2 n.f3 n.f4 n.f5 len = some (fmN n len) := by
 have e : ∀ b : Bool, (b = true ↔ (0 ≤ n.f2 ∧ n.f2 ≤ 1000000) ∧ (n.f1 = 0 ∨ (n.f1 = 1 ∧ n.f0 = 0 ∧ n.f3 = 0)) ∧ ((n.f4 = -1 ∧ n.f5 = -1) ∨ (n.f3 = 0 ∧ 1 ≤ n.f4 ∧ n.f4 < len ∧ 1 ≤ n.f5 ∧ n.f5 < len ∧ n.f4 ≠ n.f5))) → some b = some (fmN n len) := fun b h => by
  congr 1
  rw [Bool.eq_iff_iff, fmN_iff]
  exact h
 unfold larchref16_node.f
 simp only [larchref16_node.j0, larchref16_node.j1]
 generalize n.f0 = a at *
 generalize n.f1 = b at *
 generalize n.f2 = c at *
 generalize n.f3 = d at *
 generalize n.f4 = x at *
 generalize n.f5 = y at *
 simp only [Bool.false_eq_true, if_false, if_true, beq_iff_eq]
 clear k
 by_cases h1 : x = -1 <;> by_cases h2 : y = -1 <;> simp only [h1, h2, if_true, if_false]
 all_goals
  repeat' split
  all_goals
   refine e _ ?_
   clear e
   simp only [beq_iff_eq, decide_eq_true_eq, Bool.false_eq_true, false_iff, iff_true, true_iff]
   omega
/-- How often c is a child of the first m nodes. -/
def chB (n : S34) (c : Nat) : Nat := if n.f4 = -1 then 0 else (if n.f4.toNat = c then 1 else 0) + (if n.f5.toNat = c then 1 else 0)
def cnt (t : List S34) : Nat → Nat → Nat
 | 0, _ => 0
 | m + 1, c => cnt t m c + chB (t.getD m z34) c
theorem chB_le (n : S34) (c : Nat) : chB n c ≤ 2 := by unfold chB; split <;> (try split) <;> (try split) <;> omega
theorem cnt_le (t : List S34) (c : Nat) : ∀ m, cnt t m c ≤ 2 * m
 | 0 => Nat.le_refl _
 | m + 1 => by have := cnt_le t c m; have := chB_le (t.getD m z34) c; rw [cnt]; omega
end Go.Proofs.Ytgleaefhflamnaa.T
/- The reference's Check and the program's Check answer alike. -/
namespace Go.Proofs.Ytgleaefhflamnaa.T
open Go.RowKit Go.Proofs.YtgleaefhflamnaaW.PrintWords Go.Proofs.YtgleaefhflamnaaW.PrintLast Go.Proofs.YtgleaefhflamnaaW.PrintMore
set_option linter.unusedVariables false
set_option linter.unusedSimpArgs false
abbrev Fm (t : List S34) : Prop := ∀ i, i < t.length → fmN (t.getD i z34) t.length = true
theorem cnt_one {t : List S34} {c m : Nat} : ∀ {n : Nat}, m < n → chB (t.getD m z34) c ≤ cnt t n c
 | n + 1, h => by
  rw [cnt]
  by_cases e : m = n
  ·subst e; omega
  ·have := cnt_one (t := t) (c := c) (m := m) (n := n) (by omega); omega
theorem cnt_two {t : List S34} {c m m' : Nat} : ∀ {n : Nat}, m < n → m' < n → m ≠ m' → chB (t.getD m z34) c + chB (t.getD m' z34) c ≤ cnt t n c
 | n + 1, h, h', hne => by
  rw [cnt]
  by_cases e : m = n
  ·subst e; have := cnt_one (t := t) (c := c) (m := m') (n := m) (by omega); omega
  ·by_cases e' : m' = n
   ·subst e'; have := cnt_one (t := t) (c := c) (m := m) (n := m') (by omega); omega
   ·have := cnt_two (t := t) (c := c) (m := m) (m' := m') (n := n) (by omega) (by omega) hne; omega
theorem chB_child {t : List S34} {m c : Nat} (h : childOf t m c) : 1 ≤ chB (t.getD m z34) c := by
 unfold chB
 obtain ⟨h1, h2⟩ := h
 rw [if_neg (by omega)]
 rcases h2 with h2 | h2
 ·rw [if_pos h2]; omega
 ·rw [if_pos h2]; omega
/-- Each place but the root is a child once. -/
abbrev Uq (t : List S34) : Prop := ∀ c, 1 ≤ c → c < t.length → cnt t t.length c = 1
theorem child_rng {t : List S34} (hf : Fm t) {m c : Nat} (hm : m < t.length) (h : childOf t m c) : 1 ≤ c ∧ c < t.length := by
 have := (fmN_iff _ _).1 (hf m hm)
 obtain ⟨h1, h2⟩ := h
 omega
theorem child_one {t : List S34} (hf : Fm t) (hu : Uq t) {m m' c : Nat} (hm : m < t.length) (hm' : m' < t.length) (h : childOf t m c) (h' : childOf t m' c) : m = m' := by
 refine Decidable.byContradiction fun hne => ?_
 have hr := child_rng hf hm h
 have h1 := chB_child h
 have h2 := chB_child h'
 have h3 := cnt_two (t := t) (c := c) hm hm' hne
 have h4 := hu c hr.1 hr.2
 omega
/-- So many steps from p upwards lie q. -/
def Up (t : List S34) : Nat → Nat → Nat → Prop
 | 0, p, q => p = q
 | d + 1, p, q => ∃ m, m < t.length ∧ childOf t m p ∧ Up t d m q
theorem up_split {t : List S34} (hf : Fm t) (hu : Uq t) : ∀ {d e p a b : Nat}, Up t d p a → Up t (d + e) p b → Up t e a b
 | 0, e, p, a, b, h, h' => by obtain rfl := h; rwa [Nat.zero_add] at h'
 | d + 1, e, p, a, b, ⟨m, hm, hc, h⟩, h' => by
  rw [Nat.add_right_comm] at h'
  obtain ⟨m', hm', hc', h'⟩ := h'
  obtain rfl := child_one hf hu hm hm' hc hc'
  exact up_split hf hu h h'
theorem up_trans {t : List S34} : ∀ {d e p a b : Nat}, Up t d p a → Up t e a b → Up t (d + e) p b
 | 0, e, p, a, b, h, h' => by obtain rfl := h; rwa [Nat.zero_add]
 | d + 1, e, p, a, b, ⟨m, hm, hc, h⟩, h' => by rw [Nat.add_right_comm]; exact ⟨m, hm, hc, up_trans h h'⟩
theorem no_cycle {t : List S34} (hf : Fm t) (hu : Uq t) {i c : Nat} (hc : Up t (c + 1) i i) : ∀ n e : Nat, e ≤ n → Up t e i 0 → False := by
 intro n
 induction n with
 | zero =>
  intro e he h
  obtain rfl : e = 0 := by omega
  obtain rfl := h
  obtain ⟨m, hm, hch, _⟩ := hc
  have := child_rng hf hm hch
  omega
 | succ n ih =>
  intro e he h
  by_cases hle : c + 1 ≤ e
  ·obtain ⟨x, rfl⟩ : ∃ x, e = (c + 1) + x := ⟨e - (c + 1), by omega⟩
   exact ih x (by omega) (up_split hf hu hc h)
  ·obtain ⟨x, hx⟩ : ∃ x, c + 1 = e + (x + 1) := ⟨c - e, by omega⟩
   rw [hx] at hc
   obtain ⟨m, hm, hch, _⟩ := up_split hf hu h hc
   have := child_rng hf hm hch
   omega
theorem up_list {t : List S34} (hf : Fm t) (hu : Uq t) : ∀ (d i : Nat), i < t.length → Up t d i 0 → ∃ L : List Nat, L.length = d + 1 ∧ L.Nodup ∧ (∀ x ∈ L, x < t.length) ∧ ∀ x ∈ L, ∃ c, Up t c i x
 | 0, i, hi, h => ⟨[i], rfl, by simp, by simpa using hi, fun x hx => ⟨0, by simp at hx; exact hx.symm⟩⟩
 | d + 1, i, hi, h => by
  have h0 := h
  obtain ⟨m, hm, hc, h⟩ := h
  obtain ⟨L, h1, h2, h3, h4⟩ := up_list hf hu d m hm h
  refine ⟨i :: L, by simp [h1], List.nodup_cons.2 ⟨fun hin => ?_, h2⟩, fun x hx => ?_, fun x hx => ?_⟩
  ·obtain ⟨c, hc'⟩ := h4 i hin
   exact no_cycle hf hu (c := c) ⟨m, hm, hc, hc'⟩ (d + 1) (d + 1) (Nat.le_refl _) h0
  ·rcases List.mem_cons.1 hx with rfl | hx
   ·exact hi
   ·exact h3 x hx
  ·rcases List.mem_cons.1 hx with rfl | hx
   ·exact ⟨0, rfl⟩
   ·obtain ⟨c, hc'⟩ := h4 x hx
    exact ⟨c + 1, m, hm, hc, hc'⟩
theorem up_lt {t : List S34} (hf : Fm t) (hu : Uq t) {d i : Nat} (hi : i < t.length) (h : Up t d i 0) : d < t.length := by
 obtain ⟨L, h1, h2, h3, _⟩ := up_list hf hu d i hi h
 have := List.Nodup.length_le_of_subset h2 (l₂ := List.range t.length) (fun x hx => List.mem_range.2 (h3 x hx))
 rw [List.length_range] at this
 omega
theorem mk_total {t : List S34} (hf : Fm t) (hu : Uq t) : ∀ (k i d : Nat), i < t.length → Up t d i 0 → d + k = t.length → ∃ T, mkT t k i = some T := by
 intro k
 induction k with
 | zero => intro i d hi h hd; have := up_lt hf hu hi h; omega
 | succ k ih =>
  intro i d hi h hd
  have hfm := (fmN_iff _ _).1 (hf i hi)
  rw [mkT, if_pos hi]
  by_cases h4 : 0 ≤ (t.getD i z34).f4
  ·rw [if_pos h4]
   obtain ⟨l, hl⟩ := ih (t.getD i z34).f4.toNat (d + 1) (by omega) ⟨i, hi, ⟨h4, .inl rfl⟩, h⟩ (by omega)
   obtain ⟨r, hr⟩ := ih (t.getD i z34).f5.toNat (d + 1) (by omega) ⟨i, hi, ⟨h4, .inr rfl⟩, h⟩ (by omega)
   exact ⟨_, by rw [hl, Option.bind_some, hr, Option.bind_some]⟩
  ·exact ⟨_, if_neg h4⟩
theorem mem_up {t : List S34} (hf : Fm t) : ∀ (k i : Nat) (T : Tr), mkT t k i = some T → ∀ p : Nat, (p : Int) ∈ plT T → ∃ d, Up t d p i := by
 intro k
 induction k with
 | zero => intro i T h; simp [mkT] at h
 | succ k ih =>
  intro i T h p hp
  by_cases hl : (t.getD i z34).f4 = -1 ∧ (t.getD i z34).f5 = -1
  ·obtain ⟨hi, rfl⟩ := mkT_leaf hf h hl
   simp only [plT, List.append_nil, List.mem_singleton] at hp
   exact ⟨0, (by omega : p = i)⟩
  ·obtain ⟨k', l, r, hk, hi, h1, h2, rfl⟩ := mkT_inner hf h hl
   obtain rfl : k = k' := by omega
   have hfm := (fmN_iff _ _).1 (hf i hi)
   simp only [plT, List.mem_cons, List.mem_append] at hp
   rcases hp with hp | hp | hp
   ·exact ⟨0, (by omega : p = i)⟩
   ·obtain ⟨d, hd⟩ := ih _ l h1 p hp
    exact ⟨d + 1, up_trans hd (show Up t 1 _ i from ⟨i, hi, ⟨by omega, .inl rfl⟩, rfl⟩)⟩
   ·obtain ⟨d, hd⟩ := ih _ r h2 p hp
    exact ⟨d + 1, up_trans hd (show Up t 1 _ i from ⟨i, hi, ⟨by omega, .inr rfl⟩, rfl⟩)⟩
theorem up_two {t : List S34} (hf : Fm t) (hu : Uq t) {i a b d1 d2 p e : Nat} (hi : i < t.length) (ha : childOf t i a) (hb : childOf t i b) (hab : a ≠ b) (h1 : Up t d1 p a) (h2 : Up t d2 p b) (he : Up t e i 0) (hle : d1 ≤ d2) : False := by
 obtain ⟨x, rfl⟩ : ∃ x, d2 = d1 + x := ⟨d2 - d1, by omega⟩
 have h := up_split hf hu h1 h2
 cases x with
 | zero => exact hab h
 | succ x =>
  obtain ⟨m, hm, hc, h⟩ := h
  obtain rfl := child_one hf hu hm hi hc ha
  exact no_cycle hf hu (up_trans h (show Up t 1 b m from ⟨m, hi, hb, rfl⟩)) e e (Nat.le_refl _) he
theorem mk_nodup {t : List S34} (hf : Fm t) (hu : Uq t) : ∀ (k i : Nat) (T : Tr), mkT t k i = some T → (∃ e, Up t e i 0) → (plT T).Nodup := by
 intro k
 induction k with
 | zero => intro i T h; simp [mkT] at h
 | succ k ih =>
  intro i T h ⟨e, he⟩
  by_cases hl : (t.getD i z34).f4 = -1 ∧ (t.getD i z34).f5 = -1
  ·obtain ⟨hi, rfl⟩ := mkT_leaf hf h hl
   simp [plT]
  ·obtain ⟨k', l, r, hk, hi, h1, h2, rfl⟩ := mkT_inner hf h hl
   obtain rfl : k = k' := by omega
   have hfm := (fmN_iff _ _).1 (hf i hi)
   have ca : childOf t i (t.getD i z34).f4.toNat := ⟨by omega, .inl rfl⟩
   have cb : childOf t i (t.getD i z34).f5.toNat := ⟨by omega, .inr rfl⟩
   have no : ∀ {j : Nat} {S : Tr}, mkT t k j = some S → childOf t i j → (i : Int) ∉ plT S := fun {j S} hS hc hin => by
    obtain ⟨d, hd⟩ := mem_up hf _ _ _ hS i hin
    exact no_cycle hf hu (up_trans hd (show Up t 1 j i from ⟨i, hi, hc, rfl⟩)) e e (Nat.le_refl _) he
   rw [plT, List.nodup_cons, List.mem_append, not_or, List.nodup_append]
   refine ⟨⟨no h1 ca, no h2 cb⟩, ih _ l h1 ⟨e + 1, i, hi, ca, he⟩, ih _ r h2 ⟨e + 1, i, hi, cb, he⟩, fun p hp q hq hpq => ?_⟩
   subst hpq
   have h0 := (plT_mem _ _ _ h1).2 p hp
   obtain ⟨x, rfl⟩ : ∃ x : Nat, p = x := ⟨p.toNat, by omega⟩
   obtain ⟨d1, u1⟩ := mem_up hf _ _ _ h1 x hp
   obtain ⟨d2, u2⟩ := mem_up hf _ _ _ h2 x hq
   rcases Nat.le_total d1 d2 with hle | hle
   ·exact up_two hf hu hi ca cb (by omega) u1 u2 he hle
   ·exact up_two hf hu hi cb ca (by omega) u2 u1 he hle
def sumF (t : List S34) (c : Nat) : List Int → Nat
 | [] => 0
 | p :: ps => chB (t.getD p.toNat z34) c + sumF t c ps
theorem sumF_app (t : List S34) (c : Nat) : ∀ a b, sumF t c (a ++ b) = sumF t c a + sumF t c b
 | [], b => by simp [sumF]
 | p :: a, b => by rw [List.cons_append, sumF, sumF, sumF_app t c a b, Nat.add_assoc]
theorem sumF_perm {t : List S34} {c : Nat} {a b : List Int} (h : a.Perm b) : sumF t c a = sumF t c b := by
 induction h with
 | nil => rfl
 | cons x _ ih => rw [sumF, sumF, ih]
 | swap x y l => simp only [sumF]; omega
 | trans _ _ h1 h2 => rw [h1, h2]
theorem sumF_range (t : List S34) (c : Nat) : ∀ m, sumF t c ((List.range m).map (fun (i : Nat) => (i : Int))) = cnt t m c
 | 0 => rfl
 | m + 1 => by rw [List.range_succ, List.map_append, sumF_app, sumF_range t c m, cnt]; simp [sumF]
theorem tree_cnt {t : List S34} (hf : Fm t) (c : Nat) : ∀ (k i : Nat) (T : Tr), mkT t k i = some T → sumF t c (plT T) + (if i = c then 1 else 0) = (plT T).count (c : Int) := by
 intro k
 induction k with
 | zero => intro i T h; simp [mkT] at h
 | succ k ih =>
  intro i T h
  by_cases hl : (t.getD i z34).f4 = -1 ∧ (t.getD i z34).f5 = -1
  ·obtain ⟨hi, rfl⟩ := mkT_leaf hf h hl
   simp only [plT, List.append_nil, sumF, Int.toNat_natCast, chB, if_pos hl.1, List.count_cons, List.count_nil]
   by_cases e : i = c
   ·simp [e]
   ·simp [e]; omega
  ·obtain ⟨k', l, r, hk, hi, h1, h2, rfl⟩ := mkT_inner hf h hl
   obtain rfl : k = k' := by omega
   have hfm := (fmN_iff _ _).1 (hf i hi)
   have i1 := ih _ l h1
   have i2 := ih _ r h2
   have hc : chB (t.getD i z34) c = (if (t.getD i z34).f4.toNat = c then 1 else 0) + (if (t.getD i z34).f5.toNat = c then 1 else 0) := if_neg (by omega)
   rw [plT, sumF, sumF_app, Int.toNat_natCast, hc, List.count_cons, List.count_append, ← i1, ← i2]
   have : ((i : Int) == (c : Int)) = decide (i = c) := by rw [Bool.eq_iff_iff]; simp; omega
   rw [this]
   by_cases e : i = c
   ·simp [e]; omega
   ·simp [e]; omega
theorem perm_range : ∀ (n : Nat) (l : List Int), l.Nodup → (∀ x ∈ l, 0 ≤ x ∧ x < n) → l.length = n → l.Perm ((List.range n).map (fun (i : Nat) => (i : Int)))
 | 0, l, _, _, h => by rw [List.length_eq_zero_iff.1 h]; exact List.Perm.nil
 | n + 1, l, hn, hb, h => by
  have hin : (n : Int) ∈ l := by
   refine Decidable.byContradiction fun hni => ?_
   have := List.Nodup.length_le_of_subset hn (l₂ := (List.range n).map (fun (i : Nat) => (i : Int))) (fun x hx => by
    have h1 := hb x hx
    have h2 : x ≠ n := fun e => hni (e ▸ hx)
    exact List.mem_map.2 ⟨x.toNat, List.mem_range.2 (by omega), by omega⟩)
   rw [List.length_map, List.length_range] at this
   omega
  have hp := List.perm_cons_erase hin
  have hn' := hp.nodup_iff.1 hn
  rw [List.nodup_cons] at hn'
  have := perm_range n (l.erase (n : Int)) hn'.2 (fun x hx => by
   have h1 := hb x (List.mem_of_mem_erase hx)
   have h2 : x ≠ n := fun e => hn'.1 (e ▸ hx)
   omega) (by have := hp.length_eq; rw [List.length_cons] at this; omega)
  rw [List.range_succ, List.map_append]
  exact hp.trans ((this.cons _).trans (List.perm_append_comm (l₁ := [(n : Int)])))
theorem good_uq {t : List S34} {T : Tr} (hg : Good t T) : Uq t := by
 intro c hc hcl
 have hp := perm_range t.length (plT T) hg.nodup (plT_mem _ _ _ hg.tree).2 hg.all
 have h := tree_cnt hg.form c _ _ _ hg.tree
 rw [sumF_perm hp, sumF_range, if_neg (by omega), Nat.add_zero] at h
 rw [h]
 have hm : (c : Int) ∈ plT T := hp.mem_iff.2 (List.mem_map.2 ⟨c, List.mem_range.2 hcl, rfl⟩)
 have h1 := List.nodup_iff_count.1 hg.nodup (c : Int)
 have h2 := List.count_pos_iff.2 hm
 omega
end Go.Proofs.Ytgleaefhflamnaa.T
/- The reference's Check and the program's Check answer alike. -/
namespace Go.Proofs.Ytgleaefhflamnaa.T
open Go.RowKit Go.Proofs.YtgleaefhflamnaaW.PrintWords Go.Proofs.YtgleaefhflamnaaW.PrintLast Go.Proofs.YtgleaefhflamnaaW.PrintMore
set_option linter.unusedVariables false
set_option linter.unusedSimpArgs false
theorem wi {i : Nat} (h : i ≤ 10000000) : wrap64 ((i : Int) + 1) = ((i + 1 : Nat) : Int) := by rw [Go.IntWalk.wrap64_in _ (by omega)]; rfl
theorem rc_l0_bad {t : List S34} (hlen : t.length ≤ 100000) : ∀ (d i k : Nat) (x3 : List Int), i + d = t.length → d + 2 < k → x3.length = t.length → (∀ j, j < i → fmN (t.getD j z34) t.length = true) → ¬ Fm t → larchref16_Check.l0 k t x3 i = some 3 := by
 intro d
 induction d with
 | zero =>
  intro i k x3 hi hk hx hpre hb
  exact absurd (fun j hj => hpre j (by omega)) hb
 | succ d ih =>
  intro i k x3 hi hk hx hpre hb
  obtain ⟨k, rfl⟩ : ∃ x, k = x + 3 := ⟨k - 3, by omega⟩
  rw [larchref16_Check.l0, if_pos (by omega), if_pos (by omega), show rd_T34 t (i : Int) = t.getD i z34 from rfl, refnode_f, Option.bind_some]
  cases hn : fmN (t.getD i z34) t.length with
  | false => rw [if_neg (by simp)]
  | true =>
   have hfm := (fmN_iff _ _).1 hn
   have hpre' : ∀ j, j < i + 1 → fmN (t.getD j z34) t.length = true := fun j hj => by
    by_cases e : j = i
    ·rw [e]; exact hn
    ·exact hpre j (by omega)
   rw [if_pos rfl]
   by_cases h4 : (t.getD i z34).f4 = -1
   ·rw [if_pos h4, Go.IntWalk.wrap64_in _ (by omega)]
    exact ih (i + 1) (k + 2) x3 (by omega) (by omega) hx hpre' hb
   ·rw [if_neg h4, if_pos (by omega), if_pos (by omega), Option.bind_some, if_pos (by omega), if_pos (by omega), wi (i := i) (by omega)]
    exact ih (i + 1) (k + 2) _ (by omega) (by omega) (by rw [List.length_set, List.length_set]; exact hx) hpre' hb
theorem rc_l0 {t : List S34} (hlen : t.length ≤ 100000) (hf : Fm t) : ∀ (d i k : Nat) (x3 : List Int), i + d = t.length → x3.length = t.length → (∀ c, c < t.length → rd x3 c = cnt t i c) →
  ∃ x3', x3'.length = t.length ∧ (∀ c, c < t.length → rd x3' c = cnt t t.length c) ∧ larchref16_Check.l0 (k + d + 3) t x3 i = larchref16_Check.l1 (k + 2) t x3' ((1 : Nat) : Int) := by
 intro d
 induction d with
 | zero =>
  intro i k x3 hi hx hc
  obtain rfl : i = t.length := by omega
  exact ⟨x3, hx, hc, by rw [larchref16_Check.l0, if_neg (by omega)]; rfl⟩
 | succ d ih =>
  intro i k x3 hi hx hc
  have hn := hf i (by omega)
  have hfm := (fmN_iff _ _).1 hn
  rw [show k + (d + 1) + 3 = (k + d + 3) + 1 from rfl, larchref16_Check.l0, if_pos (by omega), if_pos (by omega), show rd_T34 t (i : Int) = t.getD i z34 from rfl, refnode_f, Option.bind_some, hn, if_pos rfl]
  by_cases h4 : (t.getD i z34).f4 = -1
  ·rw [if_pos h4, Go.IntWalk.wrap64_in _ (by omega)]
   exact ih (i + 1) k x3 (by omega) hx (fun c hcl => by rw [hc c hcl, cnt, chB, if_pos h4, Nat.add_zero])
  ·have hb4 := cnt_le t (t.getD i z34).f4.toNat i
   have hb5 := cnt_le t (t.getD i z34).f5.toNat i
   have r4 := hc (t.getD i z34).f4.toNat (by omega)
   have r5 := hc (t.getD i z34).f5.toNat (by omega)
   rw [Int.toNat_of_nonneg (by omega)] at r4 r5
   have e5 : rd (x3.set (t.getD i z34).f4.toNat (wrap64 (rd x3 (t.getD i z34).f4 + 1))) (t.getD i z34).f5 = rd x3 (t.getD i z34).f5 := by
    simp only [rd]
    rw [getD_set_ne _ _ _ (by omega)]
   rw [if_neg h4, if_pos (by omega), if_pos (by omega), Option.bind_some, if_pos (by omega), if_pos (by omega), e5, r4, r5, Go.IntWalk.wrap64_in _ (by omega), Go.IntWalk.wrap64_in _ (by omega), Go.IntWalk.wrap64_in _ (by omega)]
   refine ih (i + 1) k _ (by omega) (by rw [List.length_set, List.length_set]; exact hx) (fun c hcl => ?_)
   have h0 := hc c hcl
   rw [cnt, chB, if_neg h4]
   simp only [rd, Int.toNat_natCast] at h0 ⊢
   by_cases e2 : (t.getD i z34).f5.toNat = c
   ·rw [← e2, getD_set_eq _ _ _ (by rw [List.length_set]; omega), if_neg (by omega), if_pos rfl]
    omega
   ·rw [getD_set_ne _ _ _ e2, if_neg e2]
    by_cases e1 : (t.getD i z34).f4.toNat = c
    ·rw [← e1, getD_set_eq _ _ _ (by omega), if_pos rfl]
     omega
    ·rw [getD_set_ne _ _ _ e1, if_neg e1, h0]
     omega
theorem rc_l1_bad {t : List S34} (hlen : t.length ≤ 100000) {x3 : List Int} (hx : x3.length = t.length) (hc : ∀ c, c < t.length → rd x3 c = cnt t t.length c) : ∀ (d i k : Nat), i + d = t.length → d < k → (∀ c, 1 ≤ c → c < i → cnt t t.length c = 1) → 1 ≤ i → ¬ Uq t → larchref16_Check.l1 k t x3 i = some 3 := by
 intro d
 induction d with
 | zero =>
  intro i k hi hk hpre h1 hb
  exact absurd (fun c hc1 hcl => hpre c hc1 (by omega)) hb
 | succ d ih =>
  intro i k hi hk hpre h1 hb
  obtain ⟨k, rfl⟩ : ∃ x, k = x + 1 := ⟨k - 1, by omega⟩
  rw [larchref16_Check.l1, if_pos (by omega), if_pos (by omega), if_pos (by omega), hc i (by omega)]
  by_cases e : cnt t t.length i = 1
  ·rw [if_pos (by omega), Go.IntWalk.wrap64_in _ (by omega)]
   exact ih (i + 1) k (by omega) (by omega) (fun c hc1 hcl => by
    by_cases e2 : c = i
    ·rw [e2]; exact e
    ·exact hpre c hc1 (by omega)) (by omega) hb
  ·rw [if_neg (by omega)]
theorem rc_l1 {t : List S34} (hlen : t.length ≤ 100000) {x3 : List Int} (hx : x3.length = t.length) (hc : ∀ c, c < t.length → rd x3 c = cnt t t.length c) (hu : Uq t) : ∀ (d i k : Nat), i + d = t.length → 1 ≤ i → larchref16_Check.l1 (k + d + 1) t x3 i = larchref16_Check.l2 k t 0 [0] := by
 intro d
 induction d with
 | zero => intro i k hi h1; rw [larchref16_Check.l1, if_neg (by omega)]
 | succ d ih =>
  intro i k hi h1
  rw [show k + (d + 1) + 1 = (k + d + 1) + 1 from rfl, larchref16_Check.l1, if_pos (by omega), if_pos (by omega), if_pos (by omega), hc i (by omega), hu i h1 (by omega), if_pos (by omega), Go.IntWalk.wrap64_in _ (by omega)]
  exact ih (i + 1) k (by omega) (by omega)
theorem rc_l2 {t : List S34} (hlen : t.length ≤ 100000) (hf : Fm t) (K : Nat) : ∀ (k seen : Nat) (s ps : List Int), plF t K s = some ps → ps.length < k → seen + ps.length ≤ 1000000 →
  larchref16_Check.l2 k t seen s.reverse = some (if seen + ps.length = t.length then 0 else 3) := by
 intro k
 induction k with
 | zero => intro seen s ps _ h; exact absurd h (by omega)
 | succ k ih =>
  intro seen s ps hp hk ho
  cases s with
  | nil =>
   rw [plF] at hp
   injection hp with hp
   subst hp
   rw [List.reverse_nil, larchref16_Check.l2, if_neg (by simp)]
   by_cases e : seen = t.length
   ·rw [if_pos (by omega), if_pos (by simpa using e)]
   ·rw [if_neg (by omega), if_neg (by simpa using e)]
  | cons i s =>
   obtain ⟨T, q, h0, hT, hq, rfl⟩ := plF_cons hp
   have hsl := plF_len hp
   rw [List.length_cons, List.length_append] at hsl
   rw [List.length_append] at hk ho ⊢
   have e : (i :: s).reverse = s.reverse ++ [i] := List.reverse_cons
   have hl : s.reverse.length = s.length := List.length_reverse
   rw [e]
   have h1 : wrap64 (((s.reverse ++ [i]).length : Int) - 1) = s.length := by rw [List.length_append, List.length_singleton, hl, Go.IntWalk.wrap64_in _ (by omega)]; omega
   have h2 : rd (s.reverse ++ [i]) (s.length : Int) = i := by simp [rd]
   have h3 : (s.reverse ++ [i]).take ((s.length : Int)).toNat = s.reverse := by rw [Int.toNat_natCast, ← hl, List.take_left]
   cases K with
   | zero => simp [mkT] at hT
   | succ K =>
    have hi : i.toNat < t.length := by
     rw [mkT] at hT
     split at hT
     ·assumption
     ·exact absurd hT (by simp)
    rw [larchref16_Check.l2, h1, h2, h3, if_pos (by rw [List.length_append, List.length_singleton]; omega), if_pos (by omega), if_pos (by rw [List.length_append, List.length_singleton]; omega), if_pos h0, if_pos (by omega), if_pos (by rw [List.length_append, List.length_singleton]; omega), Option.bind_some, show rd_T34 t i = t.getD i.toNat z34 from rfl, Go.IntWalk.wrap64_in _ (by omega)]
    by_cases hlf : (t.getD i.toNat z34).f4 = -1 ∧ (t.getD i.toNat z34).f5 = -1
    ·obtain ⟨_, rfl⟩ := mkT_leaf hf hT hlf
     rw [if_pos hlf.1]
     have := ih (seen + 1) s q hq (by simp only [plT, List.length_cons, List.length_append, List.length_nil] at hk; omega) (by simp only [plT, List.length_cons, List.length_append, List.length_nil] at ho; omega)
     rw [show ((seen : Int) + 1) = ((seen + 1 : Nat) : Int) by omega, this]
     congr 1
     simp only [plT, List.length_cons, List.length_append, List.length_nil]
     rw [show seen + 1 + q.length = seen + (0 + 0 + 1 + q.length) by omega]
    ·obtain ⟨k', l, r, hk', _, m1, m2, rfl⟩ := mkT_inner hf hT hlf
     obtain rfl : K = k' := by omega
     have hfm := (fmN_iff _ _).1 (hf i.toNat hi)
     simp only [plT, List.length_cons, List.length_append] at hk ho hsl
     have hp2 := plF_mk (i := (t.getD i.toNat z34).f5) (by omega) (mkT_mono t _ _ _ m2) (plF_mk (i := (t.getD i.toNat z34).f4) (by omega) (mkT_mono t _ _ _ m1) hq)
     rw [if_neg (by omega), Option.bind_some, if_pos (by rw [hl]; simp; omega)]
     have := ih (seen + 1) _ _ hp2 (by simp only [List.length_append]; omega) (by simp only [List.length_append]; omega)
     rw [show s.reverse ++ [(t.getD i.toNat z34).f4, (t.getD i.toNat z34).f5] = ((t.getD i.toNat z34).f5 :: (t.getD i.toNat z34).f4 :: s).reverse by simp, show ((seen : Int) + 1) = ((seen + 1 : Nat) : Int) by omega, this]
     congr 1
     simp only [plT, List.length_cons, List.length_append]
     rw [show seen + 1 + ((plT r).length + ((plT l).length + q.length)) = seen + ((plT l).length + (plT r).length + 1 + q.length) by omega]
/-- The program's Check says 0 or 3. -/
theorem check_03 (t : List S34) : ∀ (k i : Nat) (r : Int), table_Check.l0 k t t t.length i = some r → i ≤ t.length → t.length ≤ 100000 → r = 0 ∨ r = 3 := by
 intro k
 induction k with
 | zero => intro i r h; simp [table_Check.l0] at h
 | succ k ih =>
  intro i r h hi hlen
  rw [table_Check.l0] at h
  split at h
  ·split at h
   ·obtain ⟨b, hb, h⟩ := Option.bind_eq_some_iff.1 h
    split at h
    ·rw [wi (i := i) (by omega)] at h
     exact ih (i + 1) r h (by omega) hlen
    ·exact .inr (Option.some.inj h).symm
   ·exact absurd h (by simp)
  ·obtain ⟨b, hb, h⟩ := Option.bind_eq_some_iff.1 h
   split at h
   ·exact .inl (Option.some.inj h).symm
   ·exact .inr (Option.some.inj h).symm
/-- Both Checks answer alike. -/
theorem checks_alike (t : List S34) : ∃ k v, table_Check.f k t = some v ∧ larchref16_Check.f k t = some v ∧ (v = 0 → ∃ T, Good t T) := by
 obtain ⟨k0, r0, h0, hr0⟩ := check_total t
 have bnd : ∀ {k'}, larchref16_Check.f k' t = some r0 → ∃ k v, table_Check.f k t = some v ∧ larchref16_Check.f k t = some v ∧ (v = 0 → ∃ T, Good t T) := fun {k'} h => ⟨max k0 k', r0, up_to (fun k => table_Check.mono t k) (Nat.le_max_left _ _) h0, up_to (fun k => larchref16_Check.mono t k) (Nat.le_max_right _ _) h, hr0⟩
 unfold table_Check.f at h0
 by_cases h1 : (t.length : Int) > 100000
 ·rw [if_pos h1] at h0
  exact bnd (k' := 0) (by unfold larchref16_Check.f; rw [if_pos h1]; exact h0)
 ·rw [if_neg h1] at h0
  by_cases h2 : (t.length : Int) = 0
  ·rw [if_pos h2] at h0
   exact bnd (k' := 0) (by unfold larchref16_Check.f; rw [if_neg h1, if_pos h2]; exact h0)
  ·rw [if_neg h2] at h0
   have hlen : t.length ≤ 100000 := by omega
   have h03 := check_03 t k0 0 r0 h0 (Nat.zero_le _) hlen
   have rep : ∀ c, c < t.length → rd (List.replicate t.length (0 : Int)) c = cnt t 0 c := fun c hc => by simp [rd, cnt, List.getD, List.getElem?_replicate, hc]
   have start : ∀ k, larchref16_Check.f k t = larchref16_Check.l0 k t (List.replicate t.length 0) ((0 : Nat) : Int) := fun k => by
    unfold larchref16_Check.f
    rw [if_neg h1, if_neg h2, if_pos (by omega), if_pos (by omega), Int.toNat_natCast]
    rfl
   by_cases hf : Fm t
   ·obtain ⟨x3, hx, hc, e0⟩ := rc_l0 hlen hf t.length 0 (2 * t.length + 5) _ (by omega) List.length_replicate rep
    by_cases hu : Uq t
    ·obtain ⟨T, hT⟩ := mk_total hf hu t.length 0 0 (by omega) rfl (by omega)
     have hn := mk_nodup hf hu _ _ _ hT ⟨0, rfl⟩
     have hle : (plT T).length ≤ t.length := by
      have := List.Nodup.length_le_of_subset hn (l₂ := (List.range t.length).map (fun (i : Nat) => (i : Int))) (fun x hx => by
       have h1 := (plT_mem _ _ _ hT).2 x hx
       exact List.mem_map.2 ⟨x.toNat, List.mem_range.2 (by omega), by omega⟩)
      rw [List.length_map, List.length_range] at this
      exact this
     have hp := plF_mk (i := 0) (by omega) hT (plF.eq_1 t t.length)
     rw [List.append_nil] at hp
     have e2 := rc_l2 hlen hf t.length (t.length + 8) 0 [0] (plT T) hp (by omega) (by omega)
     have e1 := rc_l1 hlen hx hc hu (t.length - 1) 1 (t.length + 8) (by omega) (by omega)
     rw [show t.length + 8 + (t.length - 1) + 1 = (2 * t.length + 5) + 2 + 1 by omega] at e1
     have hk : larchref16_Check.f ((2 * t.length + 6) + t.length + 3) t = some (if (plT T).length = t.length then 0 else 3) := by
      obtain ⟨x3', hx', hc', e0'⟩ := rc_l0 hlen hf t.length 0 (2 * t.length + 6) _ (by omega) List.length_replicate rep
      have e1' := rc_l1 hlen hx' hc' hu (t.length - 1) 1 (t.length + 8) (by omega) (by omega)
      rw [show t.length + 8 + (t.length - 1) + 1 = (2 * t.length + 6) + 2 by omega] at e1'
      have e2' := e2
      rw [show ([0] : List Int).reverse = [0] from rfl, Nat.zero_add, show ((0 : Nat) : Int) = 0 from rfl] at e2'
      rw [start, e0', e1', e2']
     refine bnd (hk.trans ?_)
     congr 1
     by_cases ha : (plT T).length = t.length
     ·have hg : Good t T := ⟨hlen, hf, hT, hn, ha⟩
      obtain ⟨kk, hkk⟩ := check_good hg
      have := up_to (fun k => table_Check.mono t k) (Nat.le_max_left k0 kk) (by unfold table_Check.f; rw [if_neg h1, if_neg h2]; exact h0)
      rw [up_to (fun k => table_Check.mono t k) (Nat.le_max_right k0 kk) hkk] at this
      rw [if_pos ha]
      exact Option.some.inj this
     ·rw [if_neg ha]
      rcases h03 with e | e
      ·obtain ⟨T', hg'⟩ := hr0 e
       have := hg'.tree
       rw [hT] at this
       obtain rfl := Option.some.inj this
       exact absurd hg'.all ha
      ·exact e.symm
    ·refine bnd (k' := (2 * t.length + 5) + t.length + 3) ?_
     rw [start, e0, rc_l1_bad hlen hx hc (t.length - 1) 1 _ (by omega) (by omega) (fun c h1 h2 => by omega) (Nat.le_refl _) hu]
     rcases h03 with e | e
     ·obtain ⟨T', hg'⟩ := hr0 e
      exact absurd (good_uq hg') hu
     ·rw [e]
   ·refine bnd (k' := t.length + 3) ?_
    rw [start, rc_l0_bad hlen t.length 0 _ _ (by omega) (by omega) List.length_replicate (fun j hj => absurd hj (by omega)) hf]
    rcases h03 with e | e
    ·obtain ⟨T', hg'⟩ := hr0 e
     exact absurd hg'.form hf
    ·rw [e]
end Go.Proofs.Ytgleaefhflamnaa.T
/- The reference's Root and the program's Root answer alike. -/
namespace Go.Proofs.Ytgleaefhflamnaa.T
open Go.RowKit Go.Proofs.YtgleaefhflamnaaW.PrintWords Go.Proofs.YtgleaefhflamnaaW.PrintLast Go.Proofs.YtgleaefhflamnaaW.PrintMore
set_option linter.unusedVariables false
set_option linter.unusedSimpArgs false
def infB (t : List S34) (p : Int) : Bool := decide ((t.getD p.toNat z34).f1 = 0)
theorem drop_cons {ps : List Int} {i : Nat} (h : i < ps.length) : ps.drop i = ps.getD i 0 :: ps.drop (i + 1) := by
 rw [List.drop_eq_getElem_cons h, List.getD, List.getElem?_eq_getElem h, Option.getD_some]
theorem getD_mem {ps : List Int} {i : Nat} (h : i < ps.length) : ps.getD i 0 ∈ ps := by rw [List.getD, List.getElem?_eq_getElem h, Option.getD_some]; exact List.getElem_mem _
theorem root_all (t : List S34) (v0 v1 v2 v3 v4 v5 : Int) (ps : List Int) (hp : ∀ p ∈ ps, 0 ≤ p ∧ p < t.length) (hlen : ps.length ≤ 1000000) : ∀ (d i k : Nat), i + d = ps.length → d < k →
  table_Root.l0 k t ps ps.length i v0 v1 v2 v3 v4 v5 = some (if (ps.drop i).all (infB t) then (v4, 0) else (0, 3)) := by
 intro d
 induction d with
 | zero =>
  intro i k hi hk
  obtain ⟨k, rfl⟩ : ∃ x, k = x + 1 := ⟨k - 1, by omega⟩
  rw [table_Root.l0, if_neg (by omega), List.drop_eq_nil_of_le (by omega), List.all_nil, if_pos rfl]
 | succ d ih =>
  intro i k hi hk
  obtain ⟨k, rfl⟩ : ∃ x, k = x + 1 := ⟨k - 1, by omega⟩
  have hr := hp _ (getD_mem (show i < ps.length by omega))
  rw [table_Root.l0, if_pos (by omega), if_pos (by omega), if_pos (by omega), show rd ps (i : Int) = ps.getD i 0 from rfl, show rd_T34 t (ps.getD i 0) = t.getD (ps.getD i 0).toNat z34 from rfl, if_pos hr.1, if_pos hr.2, drop_cons (by omega), List.all_cons]
  by_cases e : (t.getD (ps.getD i 0).toNat z34).f1 = 0
  ·rw [if_pos e, wi (i := i) (by omega), ih (i + 1) k (by omega) (by omega), infB, decide_eq_true e, Bool.true_and]
  ·rw [if_neg e, infB, decide_eq_false e, Bool.false_and, if_neg (by simp)]
theorem crown_all (t : List S34) (x4 : Int) (h4 : 0 ≤ x4 ∧ x4 < t.length) (ps : List Int) (hp : ∀ p ∈ ps, 0 ≤ p ∧ p < t.length) (hlen : ps.length ≤ 1000000) : ∀ (d i k : Nat), i + d = ps.length → d < k →
  larchref16_Crown.l0 k t x4 ps i = some (if (ps.drop i).all (infB t) then ((t.getD x4.toNat z34).f4, true) else (0, false)) := by
 intro d
 induction d with
 | zero =>
  intro i k hi hk
  obtain ⟨k, rfl⟩ : ∃ x, k = x + 1 := ⟨k - 1, by omega⟩
  rw [larchref16_Crown.l0, if_neg (by omega), if_pos h4.1, if_pos h4.2, List.drop_eq_nil_of_le (by omega), List.all_nil, if_pos rfl]
  rfl
 | succ d ih =>
  intro i k hi hk
  obtain ⟨k, rfl⟩ : ∃ x, k = x + 1 := ⟨k - 1, by omega⟩
  have hr := hp _ (getD_mem (show i < ps.length by omega))
  rw [larchref16_Crown.l0, if_pos (by omega), if_pos (by omega), show rd ps (i : Int) = ps.getD i 0 from rfl, show rd_T34 t (ps.getD i 0) = t.getD (ps.getD i 0).toNat z34 from rfl, if_pos hr.1, if_pos hr.2, drop_cons (by omega), List.all_cons]
  by_cases e : (t.getD (ps.getD i 0).toNat z34).f1 = 0
  ·rw [if_pos e, wi (i := i) (by omega), ih (i + 1) k (by omega) (by omega), infB, decide_eq_true e, Bool.true_and]
  ·rw [if_neg e, infB, decide_eq_false e, Bool.false_and, if_neg (by simp)]
theorem rows_tree {t : List S34} (hlen : t.length ≤ 100000) (hf : Fm t) (K : Nat) : ∀ (k : Nat) (out s ps : List Int), plF t K s = some ps → ps.length < k → out.length + ps.length ≤ 1000000 → larchref16_Rows.l0 k t out s.reverse = some (out ++ ps) := by
 intro k
 induction k with
 | zero => intro out s ps _ h; exact absurd h (by omega)
 | succ k ih =>
  intro out s ps hp hk ho
  cases s with
  | nil =>
   rw [plF] at hp
   injection hp with hp
   subst hp
   rw [List.reverse_nil, larchref16_Rows.l0, if_neg (by simp), List.append_nil]
  | cons i s =>
   obtain ⟨T, q, h0, hT, hq, rfl⟩ := plF_cons hp
   have hsl := plF_len hp
   rw [List.length_cons, List.length_append] at hsl
   rw [List.length_append] at hk ho
   have e : (i :: s).reverse = s.reverse ++ [i] := List.reverse_cons
   have hl : s.reverse.length = s.length := List.length_reverse
   rw [e]
   have h1 : wrap64 (((s.reverse ++ [i]).length : Int) - 1) = s.length := by rw [List.length_append, List.length_singleton, hl, Go.IntWalk.wrap64_in _ (by omega)]; omega
   have h2 : rd (s.reverse ++ [i]) (s.length : Int) = i := by simp [rd]
   have h3 : (s.reverse ++ [i]).take ((s.length : Int)).toNat = s.reverse := by rw [Int.toNat_natCast, ← hl, List.take_left]
   cases K with
   | zero => simp [mkT] at hT
   | succ K =>
    have hi : i.toNat < t.length := by
     rw [mkT] at hT
     split at hT
     ·assumption
     ·exact absurd hT (by simp)
    have hfm := (fmN_iff _ _).1 (hf i.toNat hi)
    rw [larchref16_Rows.l0, h1, h2, h3, if_pos (by rw [List.length_append, List.length_singleton]; omega), if_pos (by omega), if_pos (by rw [List.length_append, List.length_singleton]; omega), if_pos (by rw [List.length_append, List.length_singleton]; omega), Option.bind_some, if_pos (by omega), Option.bind_some, if_pos h0, if_pos (by omega), larchref16_Leaf.f, Option.bind_some, show rd_T34 t i = t.getD i.toNat z34 from rfl]
    by_cases hlf : (t.getD i.toNat z34).f4 = -1 ∧ (t.getD i.toNat z34).f5 = -1
    ·obtain ⟨_, rfl⟩ := mkT_leaf hf hT hlf
     simp only [plT, List.length_cons, List.length_append, List.length_nil] at hk ho
     rw [if_pos (by simpa using hlf.1)]
     have := ih (out ++ [i]) s q hq (by omega) (by rw [List.length_append, List.length_singleton]; omega)
     rw [this, List.append_assoc]
     simp only [plT, List.append_nil, Int.toNat_of_nonneg h0]
    ·obtain ⟨k', l, r, hk', _, m1, m2, rfl⟩ := mkT_inner hf hT hlf
     obtain rfl : K = k' := by omega
     simp only [plT, List.length_cons, List.length_append] at hk ho hsl
     have hp2 := plF_mk (i := (t.getD i.toNat z34).f4) (by omega) (mkT_mono t _ _ _ m1) (plF_mk (i := (t.getD i.toNat z34).f5) (by omega) (mkT_mono t _ _ _ m2) hq)
     rw [if_neg (by simp only [beq_iff_eq]; omega), Option.bind_some, if_pos (by rw [hl]; simp; omega)]
     have := ih (out ++ [i]) _ _ hp2 (by simp only [List.length_append]; omega) (by simp only [List.length_append, List.length_cons, List.length_nil]; omega)
     rw [show s.reverse ++ [(t.getD i.toNat z34).f5, (t.getD i.toNat z34).f4] = ((t.getD i.toNat z34).f4 :: (t.getD i.toNat z34).f5 :: s).reverse by simp, this]
     simp only [plT, List.append_assoc, Int.toNat_of_nonneg h0, List.cons_append, List.nil_append]
theorem end_f {t : List S34} (n : S34) (hn : fmN n t.length = true) : larchref16_end.f n.f0 n.f1 n.f2 n.f3 n.f4 n.f5 = some (snB n) := by
 have h := (fmN_iff _ _).1 hn
 unfold larchref16_end.f larchref16_Leaf.f
 rw [Option.bind_some]
 have hs := sent_iff n
 by_cases h4 : n.f4 = -1
 ·rw [if_pos (by simpa using h4)]
  by_cases h1 : n.f1 = 1
  ·rw [if_pos h1]
   congr 1
   rw [Bool.eq_iff_iff]
   simp only [snB, Bool.and_eq_true, beq_iff_eq]
   omega
  ·rw [if_neg h1]
   congr 1
   rw [eq_comm, Bool.eq_false_iff]
   intro e
   exact h1 (by rw [hs.1 e]; rfl)
 ·rw [if_neg (by simpa using h4)]
  congr 1
  rw [eq_comm, Bool.eq_false_iff]
  intro e
  exact h4 (by rw [hs.1 e]; rfl)
theorem top_f {t : List S34} (hf : Fm t) (i : Int) (h0 : 0 ≤ i) (hi : i < t.length) : ∃ b, larchref16_top.f t i = some b ∧ (b = true ↔ crP t (t.getD i.toNat z34)) := by
 have hfm := (fmN_iff _ _).1 (hf i.toNat (by omega))
 unfold larchref16_top.f larchref16_Leaf.f
 rw [if_pos h0, if_pos hi, Option.bind_some, show rd_T34 t i = t.getD i.toNat z34 from rfl]
 generalize t.getD i.toNat z34 = n at hfm ⊢
 by_cases h4 : n.f4 = -1
 ·exact ⟨false, by rw [if_pos (by simpa using h4)], by simp only [crP, Bool.false_eq_true, false_iff]; omega⟩
 ·rw [if_neg (by simpa using h4)]
  by_cases h1 : n.f1 = 1
  ·rw [if_pos h1]
   by_cases h2 : n.f2 = 1
   ·rw [if_pos h2, if_pos (by omega), if_pos (by omega), show rd_T34 t n.f5 = t.getD n.f5.toNat z34 from rfl, end_f _ (hf n.f5.toNat (by omega)), Option.bind_some]
    refine ⟨_, rfl, ?_⟩
    rw [sent_iff]
    exact ⟨fun h => ⟨fun e => h4 e.1, h1, h2, h⟩, fun h => h.2.2.2⟩
   ·exact ⟨false, by rw [if_neg h2], by simp [crP, h2]⟩
  ·exact ⟨false, by rw [if_neg h1], by simp [crP, h1]⟩
/-- Both Roots answer alike. -/
theorem roots_alike (t : List S34) : ∃ k v, table_Root.f k t = some v ∧ larchref16_Root.f k t = some v ∧ (v.2 = 0 → ∃ T X0, Good t T ∧ Crown T X0 ∧ plc X0 = v.1) := by
 obtain ⟨k0, r1, r2, h0, hr⟩ := root_total t
 obtain ⟨kc, v, c1, c2, c3⟩ := checks_alike t
 suffices hs : ∃ k, larchref16_Root.f k t = some (r1, r2) by
  obtain ⟨k, hk⟩ := hs
  exact ⟨max k0 k, (r1, r2), up_to (fun k => table_Root.mono t k) (Nat.le_max_left _ _) h0, up_to (fun k => larchref16_Root.mono t k) (Nat.le_max_right _ _) hk, hr⟩
 have h0' : ∀ k, k0 ≤ k → table_Root.f k t = some (r1, r2) := fun k hk => up_to (fun k => table_Root.mono t k) hk h0
 by_cases hv : v = 0
 ·subst hv
  obtain ⟨T, hg⟩ := c3 rfl
  have hlen := hg.len
  have hpos := hg.pos
  have hf := hg.form
  have f0 := hf 0 hpos
  have f0' := (fmN_iff _ _).1 f0
  obtain ⟨b0, hb0, hb0'⟩ := crowned_f t (t.getD 0 z34) f0
  obtain ⟨b0r, hb0r, hb0r'⟩ := top_f hf 0 (Int.le_refl _) (by omega)
  obtain rfl : b0r = b0 := by rw [Bool.eq_iff_iff, hb0', hb0r']; exact Iff.rfl
  have hprog := h0' (k0 + kc + t.length + 5) (by omega)
  unfold table_Root.f at hprog
  rw [up_to (fun k => table_Check.mono t k) (show kc ≤ k0 + kc + t.length + 5 by omega) c1, Option.bind_some, if_pos rfl, if_pos (by omega), show rd_T34 t 0 = t.getD 0 z34 from rfl, show rd_T34 t (t.getD 0 z34).f4 = t.getD (t.getD 0 z34).f4.toNat z34 from rfl, hb0, Option.bind_some] at hprog
  refine ⟨k0 + kc + t.length + 5, ?_⟩
  unfold larchref16_Root.f larchref16_Crown.f
  rw [up_to (fun k => larchref16_Check.mono t k) (show kc ≤ k0 + kc + t.length + 5 by omega) c2, Option.bind_some, if_pos rfl, hb0r, Option.bind_some]
  cases b0r with
  | false =>
   rw [if_neg (by simp)] at hprog
   rw [if_neg (by simp), Option.bind_some]
   simp only
   rw [if_neg (by simp)]
   exact hprog
  | true =>
   have hcr := hb0'.1 rfl
   rw [if_pos rfl, if_pos (by have := hcr.1; omega), if_pos (by have := hcr.1; omega)] at hprog
   rw [if_pos rfl, if_pos (by omega), show rd_T34 t 0 = t.getD 0 z34 from rfl, if_pos (by have := hcr.1; omega), if_pos (by have := hcr.1; omega), show rd_T34 t (t.getD 0 z34).f4 = t.getD (t.getD 0 z34).f4.toNat z34 from rfl]
   obtain ⟨k1, l, r, hk1, _, hl, hr', hT⟩ := mkT_inner hf hg.tree hcr.1
   have f1 := hf (t.getD 0 z34).f4.toNat (by have := hcr.1; omega)
   have f1' := (fmN_iff _ _).1 f1
   obtain ⟨b1, hb1, hb1'⟩ := crowned_f t _ f1
   obtain ⟨b1r, hb1r, hb1r'⟩ := top_f hf (t.getD 0 z34).f4 (by have := hcr.1; omega) (by have := hcr.1; omega)
   obtain rfl : b1r = b1 := by rw [Bool.eq_iff_iff, hb1', hb1r']
   rw [end_f _ f1, Option.bind_some]
   simp only [table_sentinel.f, Option.bind_some] at hprog
   generalize hm : t.getD (t.getD 0 z34).f4.toNat z34 = m at hprog hb1 hb1' f1' f1 ⊢
   rw [show (m.f0 == 0 && (m.f1 == 1 && (m.f2 == 1 && (m.f3 == 0 && (m.f4 == -1 && m.f5 == -1))))) = snB m from rfl, hb1, Option.bind_some] at hprog
   rw [hb1r]
   cases hs : snB m with
   | true =>
    rw [hs, if_pos rfl] at hprog
    rw [if_pos rfl, Option.bind_some]
    simp only
    rw [if_pos trivial, if_pos trivial]
    exact hprog
   | false =>
    rw [hs, if_neg (by simp)] at hprog
    rw [if_neg (by simp), Option.bind_some]
    cases b1r with
    | false =>
     rw [if_neg (by simp)] at hprog
     rw [if_neg (by simp), Option.bind_some]
     simp only
     rw [if_neg (by simp)]
     exact hprog
    | true =>
     have hcr1 := hb1'.1 rfl
     have hcr1' := hcr1
     rw [← hm] at hcr1'
     obtain ⟨k2, X0, rr, hk2, hi2, hl1, hr1, hT1⟩ := mkT_inner hf hl hcr1'.1
     rw [hm] at hl1 hr1 hT1
     have hn := hg.nodup
     have ha := hg.all
     rw [hT, hT1] at hn ha
     simp only [plT, List.nodup_cons, List.cons_append, List.length_cons, List.length_append] at hn ha
     have hnX : (plT X0).Nodup := by
      have h1 := hn.2
      rw [List.append_assoc] at h1
      exact nodup_app_l h1.2
     have hmB := hcr1.1
     have hmem := (plT_mem _ _ _ hl1).2
     have hp := plF_mk (i := m.f4) (by omega) hl1 (plF.eq_1 t k2)
     rw [List.append_nil] at hp
     have hrows := rows_tree hlen hf k2 (k0 + kc + t.length + 5) [] [m.f4] (plT X0) hp (by omega) (by simp; omega)
     rw [List.nil_append, show ([m.f4] : List Int).reverse = [m.f4] from rfl] at hrows
     have ra := root_all t m.f0 m.f1 m.f2 m.f3 m.f4 m.f5 (plT X0) hmem (by omega) (plT X0).length 0 (k0 + kc + t.length + 5) (by omega) (by omega)
     have ca := crown_all t (t.getD 0 z34).f4 (by have := hcr.1; omega) (plT X0) hmem (by omega) (plT X0).length 0 (k0 + kc + t.length + 5) (by omega) (by omega)
     rw [hm, List.drop_zero, show ((0 : Nat) : Int) = 0 from rfl] at ca
     rw [List.drop_zero, show ((0 : Nat) : Int) = 0 from rfl] at ra
     rw [if_pos rfl, order_f_tree hlen (formT_of hf) (by omega) hl1 hnX (by omega) _ (by omega), Option.bind_some, ra] at hprog
     rw [if_pos rfl]
     unfold larchref16_Rows.f
     rw [hrows, Option.bind_some, ca, Option.bind_some]
     cases hall : (plT X0).all (infB t) with
     | true =>
      rw [hall, if_pos rfl] at hprog
      rw [if_pos rfl]
      simp only
      rw [if_pos trivial, if_neg (by omega)]
      exact hprog
     | false =>
      rw [hall, if_neg (by simp)] at hprog
      rw [if_neg (by simp)]
      exact hprog
 ·refine ⟨kc, ?_⟩
  have hprog := h0' (k0 + kc) (by omega)
  unfold table_Root.f at hprog
  rw [up_to (fun k => table_Check.mono t k) (show kc ≤ k0 + kc by omega) c1, Option.bind_some, if_neg hv] at hprog
  unfold larchref16_Root.f
  rw [c2, Option.bind_some, if_neg hv]
  exact hprog
end Go.Proofs.Ytgleaefhflamnaa.T
namespace Go.Proofs.Ytgleaefhflamnaa.T
open Go.RowKit Go.Proofs.YtgleaefhflamnaaW.PrintWords Go.Proofs.YtgleaefhflamnaaW.PrintLast Go.Proofs.YtgleaefhflamnaaW.PrintMore
/-- The tree mirrored. -/
def mirT : Tr → Tr
 | .nil => .nil
 | .node n p l r => .node n p (mirT r) (mirT l)
theorem mir_l (m : Bool) (T : Tr) : lT (!m) (mirT T) = mirT (lT m T) := by cases T <;> cases m <;> rfl
theorem mir_r (m : Bool) (T : Tr) : rT (!m) (mirT T) = mirT (rT m T) := by cases T <;> cases m <;> rfl
theorem wt_m (T : Tr) : wt (mirT T) = wt T := by cases T <;> rfl
/-- A tree in which each node has two children or none. -/
def TwoT : Tr → Prop
 | .nil => True
 | .node _ _ l r => (l = .nil ↔ r = .nil) ∧ TwoT l ∧ TwoT r
theorem two_ok : ∀ {T : Tr}, Ok T → TwoT T
 | .nil, h => h.elim
 | .node n p l r, ⟨_, _, h⟩ => by
  rcases h with ⟨h1, h2, _⟩ | ⟨_, h1, h2⟩
  ·subst h1 h2; exact ⟨Iff.rfl, trivial, trivial⟩
  ·exact ⟨⟨fun e => absurd e (ok_ne h1), fun e => absurd e (ok_ne h2)⟩, two_ok h1, two_ok h2⟩
theorem two_l (m : Bool) {T : Tr} (h : TwoT T) : TwoT (lT m T) := by
 cases T with
 | nil => exact h
 | node n p l r =>
  cases m
  ·exact h.2.1
  ·exact h.2.2
theorem two_r (m : Bool) {T : Tr} (h : TwoT T) : TwoT (rT m T) := by
 cases T with
 | nil => exact h
 | node n p l r =>
  cases m
  ·exact h.2.2
  ·exact h.2.1
theorem inner_m {T : Tr} (h : TwoT T) : innerB (mirT T) = innerB T := by
 cases T with
 | nil => rfl
 | node n p l r =>
  cases l with
  | nil => have e := h.1.1 rfl; subst e; rfl
  | node n1 p1 l1 r1 =>
   cases r with
   | nil => exact absurd (h.1.2 rfl) (by simp)
   | node n2 p2 l2 r2 => rfl
theorem mir_can (m rt : Bool) {X : Tr} (h : TwoT X) (kind : Int) : canT (!m) rt (mirT X) kind = canT m rt X kind := by
 unfold canT can1 can2 can3 can4 can5 can6 can7 can8 can9 can10 can11
 simp only [mir_l, mir_r, wt_m]
 rw [inner_m (two_r m (two_l m h)), inner_m (two_l m (two_l m (two_r m h))), inner_m (two_l m (two_r m h))]
end Go.Proofs.Ytgleaefhflamnaa.T
/- The reference's trees: w, left, right, inner, mirrored, place, side. -/
namespace Go.Proofs.Ytgleaefhflamnaa.T
open Go.RowKit Go.Proofs.YtgleaefhflamnaaW.PrintWords Go.Proofs.YtgleaefhflamnaaW.PrintLast Go.Proofs.YtgleaefhflamnaaW.PrintMore
set_option linter.unusedVariables false
set_option linter.unusedSimpArgs false
def rdC (n : S34) (pl : Int) (vl vr : Value) : Array Value := #[.int .i64 n.f0, .int .i64 n.f1, .int .i64 n.f2, .int .i64 n.f3, .int .i64 n.f4, .int .i64 n.f5, vl, vr, .int .i64 pl]
/-- The reference's pointer v leads to the tree T, through blocks of S alone. -/
def Rp (S : Nat → Prop) (w : World) : Value → Tr → Prop
 | v, .nil => v = .pointer none
 | v, .node n pl l r => ∃ b vl vr, v = .pointer (some ⟨b, 0, none⟩) ∧ w.heap[b]? = some (.cells (rdC n pl vl vr) 107 (0, 0)) ∧ Rp S w vl l ∧ Rp S w vr r ∧ S b
variable {S : Nat → Prop}
theorem Rp.keptS {w w' : World} (hk : ∀ k, S k → k < w.heap.size → w'.heap[k]? = w.heap[k]?) : ∀ {v : Value} {T : Tr}, Rp S w v T → Rp S w' v T
 | _, .nil, h => h
 | _, .node .., ⟨b, vl, vr, e, hb, hl, hr, hs⟩ => ⟨b, vl, vr, e, (hk b hs (Array.getElem?_eq_some_iff.1 hb).1).trans hb, hl.keptS hk, hr.keptS hk, hs⟩
theorem Rp.below {w w' : World} {v : Value} {T : Tr} (h : Rp S w v T) (hb : Below w.heap.size w w') : Rp S w' v T := h.keptS (fun k _ hk => hb.block k hk)
theorem Rp.mono {S' : Nat → Prop} {w : World} (hs : ∀ k, S k → S' k) : ∀ {v : Value} {T : Tr}, Rp S w v T → Rp S' w v T
 | _, .nil, h => h
 | _, .node .., ⟨b, vl, vr, e, hb, hl, hr, h⟩ => ⟨b, vl, vr, e, hb, hl.mono hs, hr.mono hs, hs b h⟩
theorem Rp.ptr {w : World} {v : Value} : ∀ {T : Tr}, Rp S w v T → ∃ p, v = .pointer p
 | .nil, h => ⟨none, h⟩
 | .node .., ⟨b, _, _, e, _⟩ => ⟨some ⟨b, 0, none⟩, e⟩
theorem Rp.some {w : World} {v : Value} {T : Tr} (h : Rp S w v T) (hT : T ≠ .nil) : ∃ a, v = .pointer (some a) := by
 cases T with
 | nil => exact absurd rfl hT
 | node n p l r => obtain ⟨b, _, _, e, _⟩ := h; exact ⟨_, e⟩
set_option maxHeartbeats 1000000 in
theorem rw_any (v : Value) (T : Tr) (w : World) (h : Rp S w v T) :
  Calls Try.prog 80 #[v] w fun e w' => e = .returned (.int .i64 (wt T)) ∧ w' = w := by
 cases T with
 | nil =>
  obtain rfl := h
  go_enter Try.func80, Try.ntmps80
  go_wp2
  go_ret
  exact ⟨rfl, rfl⟩
 | node n pl l r =>
  obtain ⟨b, vl, vr, rfl, hb, _, _, _⟩ := h
  have hc : w.cell? ⟨b, 2, none⟩ = some (.int .i64 n.f2) := (cell_of hb 2).trans rfl
  clear hb
  go_enter Try.func80, Try.ntmps80
  go_wp2
  go_ret
  exact ⟨rfl, rfl⟩
set_option maxHeartbeats 1000000 in
theorem rleft_any (v : Value) (T : Tr) (w : World) (h : Rp S w v T) :
  Calls Try.prog 78 #[v] w fun e w' => ∃ p, e = .returned (.pointer p) ∧ Rp S w (.pointer p) (lT false T) ∧ w' = w := by
 cases T with
 | nil =>
  obtain rfl := h
  go_enter Try.func78, Try.ntmps78
  go_wp2
  go_ret
  exact ⟨none, rfl, rfl, rfl⟩
 | node n pl l r =>
  obtain ⟨b, vl, vr, rfl, hb, hl, hr, _⟩ := h
  have hc : w.cell? ⟨b, 6, none⟩ = some vl := (cell_of hb 6).trans rfl
  obtain ⟨p, rfl⟩ := hl.ptr
  have HL := Am hl
  clear hb hl hr
  go_enter Try.func78, Try.ntmps78
  go_wp2
  go_ret
  exact ⟨p, rfl, HL.out, rfl⟩
set_option maxHeartbeats 1000000 in
theorem rright_any (v : Value) (T : Tr) (w : World) (h : Rp S w v T) :
  Calls Try.prog 79 #[v] w fun e w' => ∃ p, e = .returned (.pointer p) ∧ Rp S w (.pointer p) (rT false T) ∧ w' = w := by
 cases T with
 | nil =>
  obtain rfl := h
  go_enter Try.func79, Try.ntmps79
  go_wp2
  go_ret
  exact ⟨none, rfl, rfl, rfl⟩
 | node n pl l r =>
  obtain ⟨b, vl, vr, rfl, hb, hl, hr, _⟩ := h
  have hc : w.cell? ⟨b, 7, none⟩ = some vr := (cell_of hb 7).trans rfl
  obtain ⟨p, rfl⟩ := hr.ptr
  have HR := Am hr
  clear hb hl hr
  go_enter Try.func79, Try.ntmps79
  go_wp2
  go_ret
  exact ⟨p, rfl, HR.out, rfl⟩
set_option maxHeartbeats 1000000 in
theorem rinner_any (v : Value) (T : Tr) (w : World) (h : Rp S w v T) (hT : T ≠ .nil) :
  Calls Try.prog 81 #[v] w fun e w' => e = .returned (.bool (innerB T)) ∧ w' = w := by
 cases T with
 | nil => exact absurd rfl hT
 | node n pl l r =>
  obtain ⟨b, vl, vr, rfl, hb, hl, _, _⟩ := h
  have hc : w.cell? ⟨b, 6, none⟩ = some vl := (cell_of hb 6).trans rfl
  clear hb
  cases l with
  | nil =>
   obtain rfl := hl
   unfold innerB
   go_enter Try.func81, Try.ntmps81
   go_wp2
   go_ret
   exact ⟨rfl, rfl⟩
  | node n' pl' l' r' =>
   obtain ⟨b', _, _, rfl, _⟩ := hl
   unfold innerB
   go_enter Try.func81, Try.ntmps81
   go_wp2
   go_ret
   exact ⟨rfl, rfl⟩
/-- The part at a place, from above downwards, left ahead of right. -/
def orT : Tr → Tr → Tr
 | .nil, R => R
 | .node n p l r, _ => .node n p l r
def plaT (a : Int) : Tr → Tr
 | .nil => .nil
 | .node n p l r => if p = a then .node n p l r else orT (plaT a l) (plaT a r)
set_option maxHeartbeats 1000000 in
theorem rplace_any (a : Int) : ∀ (T : Tr) (v : Value) (w : World), Rp S w v T →
  Calls Try.prog 77 #[v, .int .i64 a] w fun e w' => ∃ p, e = .returned (.pointer p) ∧ Rp S w (.pointer p) (plaT a T) ∧ w' = w
 | .nil, v, w, h => by
  obtain rfl := h
  go_enter Try.func77, Try.ntmps77
  go_wp2
  go_ret
  exact ⟨none, rfl, rfl, rfl⟩
 | .node n pl l r, v, w, h => by
  have H0 := Am h
  obtain ⟨b, vl, vr, rfl, hb, hl, hr, _⟩ := h
  have c6 : w.cell? ⟨b, 6, none⟩ = some vl := (cell_of hb 6).trans rfl
  have c7 : w.cell? ⟨b, 7, none⟩ = some vr := (cell_of hb 7).trans rfl
  have c8 : w.cell? ⟨b, 8, none⟩ = some (.int .i64 pl) := (cell_of hb 8).trans rfl
  obtain ⟨p6, rfl⟩ := hl.ptr
  obtain ⟨p7, rfl⟩ := hr.ptr
  have HL := Am hl
  have HR := Am hr
  clear hb hl hr
  rw [plaT]
  cases hq : (pl == a) with
  | true =>
   rw [if_pos (by simpa using hq)]
   go_enter Try.func77, Try.ntmps77
   go_wp2
   go_ret
   exact ⟨_, rfl, H0.out, rfl⟩
  | false =>
   rw [if_neg (by simpa using hq)]
   obtain ⟨R, hR⟩ : ∃ R, orT (plaT a l) (plaT a r) = R := ⟨_, rfl⟩
   rw [hR]
   go_enter Try.func77, Try.ntmps77
   go_wp2_with (fail)
   refine (rplace_any a l _ _ HL.out).mono ?_
   rintro e w' ⟨p, rfl, hp, rfl⟩
   generalize plaT a l = L at hp hR
   cases L with
   | nil =>
    obtain ⟨rfl⟩ := hp
    obtain rfl : plaT a r = R := hR
    go_wp2_with (fail)
    refine (rplace_any a r _ _ HR.out).mono ?_
    rintro e w' ⟨p, rfl, hp, rfl⟩
    have HP := Am hp
    clear hp
    go_wp2
    go_ret
    exact ⟨_, rfl, HP.out, rfl⟩
   | node n' p' l' r' =>
    obtain rfl : Tr.node n' p' l' r' = R := hR
    have HP := Am hp
    obtain ⟨b', _, _, e, _⟩ := hp
    cases e
    go_wp2
    go_ret
    exact ⟨_, rfl, HP.out, rfl⟩
end Go.Proofs.Ytgleaefhflamnaa.T
namespace Go.Proofs.Ytgleaefhflamnaa.T
open Go.RowKit Go.Proofs.YtgleaefhflamnaaW.PrintWords Go.Proofs.YtgleaefhflamnaaW.PrintLast Go.Proofs.YtgleaefhflamnaaW.PrintMore
attribute [local go_sem] max2_int min2_int max_two min_two max_three min_three max_four min_four   -- for this text's walks alone
set_option linter.unusedVariables false
set_option linter.unusedSimpArgs false
def table_Pairs.l0 : Nat → List (S34) → List (S78) → List Int → Int → Int → Option ((List (S78)) × Int)
 | 0, _, _, _, _, _ => none
 | k + 1, x0, x6, x17, x18, x19 => if x19 < x18 then (if 0 ≤ x19 then (if x19 < (x17.length : Int) then (if 0 ≤ (rd x17 x19) then (if (rd x17 x19) < (x0.length : Int) then (if ((rd_T34 x0 (rd x17 x19)).f1) = 0 then (if x6.length < 8796093022208 then (table_Pairs.l0 k x0 (x6 ++ [(⟨(rd_T34 x0 (rd x17 x19)).f0, (rd_T34 x0 (rd x17 x19)).f3⟩ : S78)]) x17 x18 (wrap64 (x19 + 1))) else (none)) else (table_Pairs.l0 k x0 x6 x17 x18 (wrap64 (x19 + 1)))) else (none)) else (none)) else (none)) else (none)) else (some (x6, 0))
def table_Pairs.f (k : Nat) (l0 : List (S34)) : Option ((List (S78)) × Int) := (table_Leaves.f k l0).bind fun bt310 => (if bt310.2 = 0 then (table_Pairs.l0 k l0 ([] : List (S78)) bt310.1 (bt310.1.length : Int) 0) else (some (([] : List (S78)), bt310.2)))
-- NOT PRINTED: function 37 (table_Ordered)
def table_Sub.f (k : Nat) (l0 : List (S34)) (a1 : Int) : Option ((List (S34)) × Int) := (table_Check.f k l0).bind fun t396 => (if t396 = 0 then (if a1 < 0 then (some (([] : List (S34)), 1)) else (if a1 ≥ (l0.length : Int) then (some (([] : List (S34)), 1)) else ((table_sub.f k l0 a1).bind fun t397 => (some (t397, 0))))) else (some (([] : List (S34)), t396)))
def table_both.f (k : Nat) (l0 : List (S34)) (l1 : List (S34)) : Option (Int) := (table_Check.f k l0).bind fun t400 => (if t400 = 0 then ((table_Check.f k l1).bind fun t401 => (some t401)) else (some t400))
end Go.Proofs.Ytgleaefhflamnaa.T
namespace Go.Proofs.Ytgleaefhflamnaa.T
open Go.RowKit Go.Proofs.YtgleaefhflamnaaW.PrintWords Go.Proofs.YtgleaefhflamnaaW.PrintLast Go.Proofs.YtgleaefhflamnaaW.PrintMore
attribute [local go_sem] max2_int min2_int max_two min_two max_three min_three max_four min_four   -- for this text's walks alone
set_option linter.unusedVariables false
set_option linter.unusedSimpArgs false
mutual
def table_Graft.j0 : Nat → List (S34) → Int → List (S34) → Bool → Option ((List (S34)) × Int)
 | 0, _, _, _, _ => none
 | k + 1, x0, x1, x2, x27 => if x27 = true then (some (([] : List (S34)), 1)) else ((table_order.f k x0 x1).bind fun t403 => (if (wrap64 ((wrap64 ((x0.length : Int) - (t403.length : Int))) + (x2.length : Int))) > 100000 then (some (([] : List (S34)), 2)) else (if x1 = 0 then ((table_sub.f k x2 0).bind fun t406 => (some (t406, 0))) else (if 0 ≤ (wrap64 ((x0.length : Int) + (x2.length : Int))) then (if (wrap64 ((x0.length : Int) + (x2.length : Int)) : Int).toNat ≤ 5864062014805 then (table_Graft.l0 k x0 x1 x2 (([] : List (S34))) x0 (x0.length : Int) 0) else (none)) else (none)))))
def table_Graft.l0 : Nat → List (S34) → Int → List (S34) → List (S34) → List (S34) → Int → Int → Option ((List (S34)) × Int)
 | 0, _, _, _, _, _, _, _ => none
 | k + 1, x0, x1, x2, x9, x49, x50, x51 => if x51 < x50 then (if 0 ≤ x51 then (if x51 < (x49.length : Int) then ((table_isLeaf.f ((rd_T34 x49 x51).f0) ((rd_T34 x49 x51).f1) ((rd_T34 x49 x51).f2) ((rd_T34 x49 x51).f3) ((rd_T34 x49 x51).f4) ((rd_T34 x49 x51).f5)).bind fun t414 => (if t414 = true then (if x9.length < 2932031007402 then (table_Graft.l0 k x0 x1 x2 (x9 ++ [(⟨(rd_T34 x49 x51).f0, (rd_T34 x49 x51).f1, (rd_T34 x49 x51).f2, (rd_T34 x49 x51).f3, (rd_T34 x49 x51).f4, (rd_T34 x49 x51).f5⟩ : S34)]) x49 x50 (wrap64 (x51 + 1))) else (none)) else (if ((rd_T34 x49 x51).f4) = x1 then (if ((rd_T34 x49 x51).f5) = x1 then (if x9.length < 2932031007402 then (table_Graft.l0 k x0 x1 x2 (x9 ++ [(⟨(rd_T34 x49 x51).f0, (rd_T34 x49 x51).f1, (rd_T34 x49 x51).f2, (rd_T34 x49 x51).f3, (x0.length : Int), (x0.length : Int)⟩ : S34)]) x49 x50 (wrap64 (x51 + 1))) else (none)) else (if x9.length < 2932031007402 then (table_Graft.l0 k x0 x1 x2 (x9 ++ [(⟨(rd_T34 x49 x51).f0, (rd_T34 x49 x51).f1, (rd_T34 x49 x51).f2, (rd_T34 x49 x51).f3, (x0.length : Int), (rd_T34 x49 x51).f5⟩ : S34)]) x49 x50 (wrap64 (x51 + 1))) else (none))) else (if ((rd_T34 x49 x51).f5) = x1 then (if x9.length < 2932031007402 then (table_Graft.l0 k x0 x1 x2 (x9 ++ [(⟨(rd_T34 x49 x51).f0, (rd_T34 x49 x51).f1, (rd_T34 x49 x51).f2, (rd_T34 x49 x51).f3, (rd_T34 x49 x51).f4, (x0.length : Int)⟩ : S34)]) x49 x50 (wrap64 (x51 + 1))) else (none)) else (if x9.length < 2932031007402 then (table_Graft.l0 k x0 x1 x2 (x9 ++ [(⟨(rd_T34 x49 x51).f0, (rd_T34 x49 x51).f1, (rd_T34 x49 x51).f2, (rd_T34 x49 x51).f3, (rd_T34 x49 x51).f4, (rd_T34 x49 x51).f5⟩ : S34)]) x49 x50 (wrap64 (x51 + 1))) else (none)))))) else (none)) else (none)) else (table_Graft.l1 k x0 x9 x2 (x2.length : Int) 0)
def table_Graft.l1 : Nat → List (S34) → List (S34) → List (S34) → Int → Int → Option ((List (S34)) × Int)
 | 0, _, _, _, _, _ => none
 | k + 1, x0, x9, x77, x78, x79 => if x79 < x78 then (if 0 ≤ x79 then (if x79 < (x77.length : Int) then ((table_isLeaf.f ((rd_T34 x77 x79).f0) ((rd_T34 x77 x79).f1) ((rd_T34 x77 x79).f2) ((rd_T34 x77 x79).f3) ((rd_T34 x77 x79).f4) ((rd_T34 x77 x79).f5)).bind fun t432 => (if t432 = true then (if x9.length < 2932031007402 then (table_Graft.l1 k x0 (x9 ++ [(⟨(rd_T34 x77 x79).f0, (rd_T34 x77 x79).f1, (rd_T34 x77 x79).f2, (rd_T34 x77 x79).f3, (rd_T34 x77 x79).f4, (rd_T34 x77 x79).f5⟩ : S34)]) x77 x78 (wrap64 (x79 + 1))) else (none)) else (if x9.length < 2932031007402 then (table_Graft.l1 k x0 (x9 ++ [(⟨(rd_T34 x77 x79).f0, (rd_T34 x77 x79).f1, (rd_T34 x77 x79).f2, (rd_T34 x77 x79).f3, wrap64 (((rd_T34 x77 x79).f4) + (x0.length : Int)), wrap64 (((rd_T34 x77 x79).f5) + (x0.length : Int))⟩ : S34)]) x77 x78 (wrap64 (x79 + 1))) else (none)))) else (none)) else (none)) else ((table_sub.f k x9 0).bind fun t439 => (some (t439, 0)))
end
def table_Graft.f (k : Nat) (l0 : List (S34)) (a1 : Int) (l2 : List (S34)) : Option ((List (S34)) × Int) := (table_both.f k l0 l2).bind fun t402 => (if t402 = 0 then (if a1 < 0 then (table_Graft.j0 k l0 a1 l2 true) else (table_Graft.j0 k l0 a1 l2 (decide (a1 ≥ (l0.length : Int))))) else (some (([] : List (S34)), t402)))
-- NOT PRINTED: function 9 (larchlaw18_StepsLeaves)
end Go.Proofs.Ytgleaefhflamnaa.T
namespace Go.Proofs.Ytgleaefhflamnaa.T
open Go.RowKit Go.Proofs.YtgleaefhflamnaaW.PrintWords Go.Proofs.YtgleaefhflamnaaW.PrintLast Go.Proofs.YtgleaefhflamnaaW.PrintMore
def table_Mirror.l0 : Nat → List (S34) → List (S34) → Int → Int → Option ((List (S34)) × Int)
 | 0, _, _, _, _ => none
 | k + 1, x5, x16, x17, x18 => if x18 < x17 then (if 0 ≤ x18 then (if x18 < (x16.length : Int) then (if x5.length < 2932031007402 then (table_Mirror.l0 k (x5 ++ [(⟨(rd_T34 x16 x18).f0, (rd_T34 x16 x18).f1, (rd_T34 x16 x18).f2, (rd_T34 x16 x18).f3, (rd_T34 x16 x18).f5, (rd_T34 x16 x18).f4⟩ : S34)]) x16 x17 (wrap64 (x18 + 1))) else (none)) else (none)) else (none)) else ((table_sub.f k x5 0).bind fun t469 => (some (t469, 0)))
def table_Mirror.f (k : Nat) (l0 : List (S34)) : Option ((List (S34)) × Int) := (table_Check.f k l0).bind fun t460 => (if t460 = 0 then (if 0 ≤ (l0.length : Int) then (if ((l0.length : Int) : Int).toNat ≤ 5864062014805 then (table_Mirror.l0 k (([] : List (S34))) l0 (l0.length : Int) 0) else (none)) else (none)) else (some (([] : List (S34)), t460)))
def larchlaw18_flipped.f (k : Nat) (l0 : List (S34)) (a1 : Int) : Option ((List (S34)) × Bool) := (table_Sub.f k l0 a1).bind fun bt472 => ((table_Mirror.f k bt472.1).bind fun bt476 => ((table_Graft.f k l0 a1 bt476.1).bind fun bt480 => (if bt472.2 = 0 then (if bt476.2 = 0 then (some (bt480.1, (bt480.2 == 0))) else (some (bt480.1, false))) else (some (bt480.1, false)))))
def larchlaw18_mirrored.l0 : Nat → List (S34) → Bool → List (S34) → Bool → Int → Int → Option ((List (S34)) × Int × Bool)
 | 0, _, _, _, _, _, _ => none
 | k + 1, x10, x11, x12, x13, x42, x43 => if x43 < x42 then (if x11 = true then (if x13 = true then (if 0 ≤ x43 then (if x43 < (x12.length : Int) then (if x43 < (x10.length : Int) then (if ((rd_T34 x12 x43).f2) = ((rd_T34 x10 x43).f2) then (larchlaw18_mirrored.l0 k x10 x11 x12 x13 x42 (wrap64 (x43 + 1))) else (some (x10, x43, true))) else (none)) else (none)) else (none)) else (larchlaw18_mirrored.l0 k x10 x11 x12 x13 x42 (wrap64 (x43 + 1)))) else (larchlaw18_mirrored.l0 k x10 x11 x12 x13 x42 (wrap64 (x43 + 1)))) else (some (([] : List (S34)), 0, false))
def larchlaw18_mirrored.f (k : Nat) (l0 : List (S34)) (a1 : Int) : Option ((List (S34)) × Int × Bool) := (table_Root.f k l0).bind fun bt484 => (if bt484.2 = 0 then ((some (([] : List (S34)) : List (S34))).bind fun y486 => (if y486.length + l0.length < 2932031007402 then ((some (y486 ++ l0 : List (S34))).bind fun y489 => (if 0 ≤ a1 then (if a1 < (y489.length : Int) then ((larchlaw18_flipped.f k l0 bt484.1).bind fun bt493 => ((larchlaw18_flipped.f k (y489.set (a1 : Int).toNat (⟨(rd_T34 y489 a1).f0, (rd_T34 y489 a1).f1, 1000000, (rd_T34 y489 a1).f3, (rd_T34 y489 a1).f4, (rd_T34 y489 a1).f5⟩ : S34)) bt484.1).bind fun bt497 => (larchlaw18_mirrored.l0 k bt493.1 bt493.2 bt497.1 bt497.2 (bt497.1.length : Int) 0))) else (none)) else (none))) else (none))) else (some (([] : List (S34)), 0, false)))
mutual
def larchlaw18_StepsMirrors.j0 : Nat → List (S34) → Int → List (S34) → Bool → Bool → Int → Bool → Option (Bool)
 | 0, _, _, _, _, _, _, _ => none
 | k + 1, x0, x1, x7, x8, x35, x504000, x504001 => if x35 = true then (if x8 = true then (some (decide ((x7.length : Int) > 0))) else (some true)) else ((larchlaw18_mirrored.f k x0 x1).bind fun bt510 => (if bt510.2.2 = true then (if x504000 = 1 then (larchlaw18_StepsMirrors.j1 k x7 bt510.1 bt510.2.1 false x504000 x504001 x504000 x504001) else (if x504000 = 11 then (larchlaw18_StepsMirrors.j1 k x7 bt510.1 bt510.2.1 false x504000 x504001 x504000 x504001) else (larchlaw18_StepsMirrors.j1 k x7 bt510.1 bt510.2.1 (x504000 != 12) x504000 x504001 x504000 x504001))) else (some false)))
def larchlaw18_StepsMirrors.j1 : Nat → List (S34) → List (S34) → Int → Bool → Int → Bool → Int → Bool → Option (Bool)
 | 0, _, _, _, _, _, _, _, _ => none
 | k + 1, x7, x9, x10, x65, x504000, x504001, x516000, x516001 => if x65 = true then (larchlaw18_StepsMirrors.j2 k x7 x9 x10 x516000 (!x504001)) else (larchlaw18_StepsMirrors.j2 k x7 x9 x10 x516000 x516001)
def larchlaw18_StepsMirrors.j2 : Nat → List (S34) → List (S34) → Int → Int → Bool → Option (Bool)
 | 0, _, _, _, _, _ => none
 | k + 1, x7, x9, x10, x516000, x516001 => (larchlaw18_done.f k x9 x10 x516000 x516001).bind fun bt516 => ((table_Root.f k x7).bind fun bt520 => ((larchlaw18_flipped.f k x7 bt520.1).bind fun bt522 => (if bt516.2 = true then (if bt520.2 = 0 then (if bt522.2 = true then ((larchref18_SameTable.f k bt516.1 bt522.1).bind fun t526 => (some t526)) else (some false)) else (some false)) else (some false))))
end
def larchlaw18_StepsMirrors.f (k : Nat) (l0 : List (S34)) (a1 : Int) (a2_0 : Int) (a2_1 : Bool) : Option (Bool) := (larchlaw18_awake.f k).bind fun t504 => (if t504 = true then ((larchlaw18_done.f k l0 a1 a2_0 a2_1).bind fun bt505 => (if bt505.2 = true then (if 0 ≤ a1 then (if a1 < (l0.length : Int) then (larchlaw18_StepsMirrors.j0 k l0 a1 bt505.1 bt505.2 (((rd_T34 l0 a1).f2) == 1000000) a2_0 a2_1) else (none)) else (none)) else (larchlaw18_StepsMirrors.j0 k l0 a1 bt505.1 bt505.2 true a2_0 a2_1))) else (some false))
end Go.Proofs.Ytgleaefhflamnaa.T
/- table.Mirror. -/
namespace Go.Proofs.Ytgleaefhflamnaa.T
open Go.RowKit Go.Proofs.YtgleaefhflamnaaW.PrintWords Go.Proofs.YtgleaefhflamnaaW.PrintLast Go.Proofs.YtgleaefhflamnaaW.PrintMore
set_option linter.unusedVariables false
set_option linter.unusedSimpArgs false
theorem rd_cells {w : World} {A : Option Addr} {l : List S34} (h : Kd.C k34 w A l.length l) {i : Nat} (hi : i < l.length) : ∃ ad, A = some ad ∧ ∀ w', Below w.heap.size w w' → w'.cell? (ad.add (i * 6)) = some (.int .i64 (l.getD i z34).f0) ∧ w'.cell? ⟨(ad.add (i * 6)).block, (ad.add (i * 6)).off + 1, none⟩ = some (.int .i64 (l.getD i z34).f1) ∧ w'.cell? ⟨(ad.add (i * 6)).block, (ad.add (i * 6)).off + 2, none⟩ = some (.int .i64 (l.getD i z34).f2) ∧ w'.cell? ⟨(ad.add (i * 6)).block, (ad.add (i * 6)).off + 3, none⟩ = some (.int .i64 (l.getD i z34).f3) ∧ w'.cell? ⟨(ad.add (i * 6)).block, (ad.add (i * 6)).off + 4, none⟩ = some (.int .i64 (l.getD i z34).f4) ∧ w'.cell? ⟨(ad.add (i * 6)).block, (ad.add (i * 6)).off + 5, none⟩ = some (.int .i64 (l.getD i z34).f5) := by
 obtain ⟨ad, e, h0, h1, h2, h3, h4, h5⟩ := at_T34 h (i : Int) (by omega) (by omega)
 have t : ∀ (w' : World) (a : Addr) (v : Value), Below w.heap.size w w' → w.cell? a = some v → w'.cell? a = some v := fun w' a v hb h => (hb.cell (blt w a h)).trans h
 exact ⟨ad, e, fun w' hb => ⟨t _ _ _ hb h0, t _ _ _ hb h1, t _ _ _ hb h2, t _ _ _ hb h3, t _ _ _ hb h4, t _ _ _ hb h5⟩⟩
end Go.Proofs.Ytgleaefhflamnaa.T
/- table.Graft, where it goes well. -/
namespace Go.Proofs.Ytgleaefhflamnaa.T
open Go.RowKit Go.Proofs.YtgleaefhflamnaaW.PrintWords Go.Proofs.YtgleaefhflamnaaW.PrintLast Go.Proofs.YtgleaefhflamnaaW.PrintMore
set_option linter.unusedVariables false
set_option linter.unusedSimpArgs false
/-- A box of a node at block g beside the row v. -/
structure Bx (w : World) (g : Nat) (v : Value) (xs : List S34) (cs : Array Value) (W : World) : Prop where
 ge : w.heap.size ≤ g
 r : Kd.R k34 34 W w.heap.size (fun k => True ∧ k ≠ g) v xs
 b : Below w.heap.size w W
 k : W.heap[g]? = some (.cells cs 34 (0, 0))
end Go.Proofs.Ytgleaefhflamnaa.T
/- table.Ordered. -/
namespace Go.Proofs.Ytgleaefhflamnaa.T
open Go.RowKit Go.Proofs.YtgleaefhflamnaaW.PrintWords Go.Proofs.YtgleaefhflamnaaW.PrintLast Go.Proofs.YtgleaefhflamnaaW.PrintMore
set_option linter.unusedVariables false
set_option linter.unusedSimpArgs false
/-- The three rows of the loop. -/
structure Os (w : World) (n ga ca gs cs : Nat) (Ap : Option Addr) (cp : Nat) (ps : List Int) (A : List S125) (B : List Bool) (W : World) : Prop where
 b : Below w.heap.size w W
 la : A.length = n
 lb : B.length = n
 ra : Kd.R k125 125 W w.heap.size (fun _ => True) (.slice (some ⟨ga, 0, none⟩) n ca) A
 rb : Kd.R Kd.bool 4 W w.heap.size (fun _ => True) (.slice (some ⟨gs, 0, none⟩) n cs) B
 rp : Kd.R (Kd.int .i64) 3 W w.heap.size (fun _ => True) (.slice Ap ps.length cp) ps
section
variable {w W W1 : World} {n ga ca gs cs cp : Nat} {Ap : Option Addr} {ps : List Int} {A : List S125} {B : List Bool}
/-- With the node's box and the bounds' box. -/
structure Ob (w : World) (n ga ca gs cs : Nat) (Ap : Option Addr) (cp : Nat) (ps : List Int) (A : List S125) (B : List Bool) (g9 g10 : Nat) (c9 c10 : Array Value) (W : World) : Prop where
 os : Os w n ga ca gs cs Ap cp ps A B W
 k9 : W.heap[g9]? = some (.cells c9 34 (0, 0))
 k10 : W.heap[g10]? = some (.cells c10 125 (0, 0))
 h9 : w.heap.size ≤ g9
 h10 : w.heap.size ≤ g10
 d9 : g9 ≠ ga
 d10 : g10 ≠ ga
/-- With the two new bounds' boxes too. -/
structure Oc (w : World) (n ga ca gs cs : Nat) (Ap : Option Addr) (cp : Nat) (ps : List Int) (A : List S125) (B : List Bool) (g9 g10 g11 g12 : Nat) (c9 c10 c11 c12 : Array Value) (W : World) : Prop where
 ob : Ob w n ga ca gs cs Ap cp ps A B g9 g10 c9 c10 W
 k11 : W.heap[g11]? = some (.cells c11 125 (0, 0))
 k12 : W.heap[g12]? = some (.cells c12 125 (0, 0))
 h11 : w.heap.size ≤ g11
 h12 : w.heap.size ≤ g12
 d11 : g11 ≠ ga
 d12 : g12 ≠ ga
 e11 : g11 ≠ g10
 e12 : g12 ≠ g10
 e : g11 ≠ g12
variable {g9 g10 g11 g12 : Nat} {c9 c10 c11 c12 : Array Value}
theorem gen_any {P : Program} {md : Region.Mode} {ops : Array Oper} {Q : Exit → Act → World → Prop} {T : World → Prop} {ds : List Nat} {f : Nat} {l : Array Bool} {a : Act} {W : World} (S : World → Prop) (h : S W) (k : ∀ W', S W' → wpAnyLast P md ops Q T ds f l a W') : wpAnyLast P md ops Q T ds f l a W := k W h
end
end Go.Proofs.Ytgleaefhflamnaa.T
/- The reference's trees: mirrored, grow, side. -/
namespace Go.Proofs.Ytgleaefhflamnaa.T
open Go.RowKit Go.Proofs.YtgleaefhflamnaaW.PrintWords Go.Proofs.YtgleaefhflamnaaW.PrintLast Go.Proofs.YtgleaefhflamnaaW.PrintMore
set_option linter.unusedVariables false
set_option linter.unusedSimpArgs false
variable {S : Nat → Prop}
theorem bel_t' {w w1 w2 : World} (h : Below w.heap.size w w1) (hb : Below w1.heap.size w1 w2) : Below w.heap.size w w2 := h.trans (hb.mono h.size)
theorem rd9 {w : World} {b : Nat} {n : S34} {pl : Int} {vl vr : Value} (h : w.heap[b]? = some (.cells (rdC n pl vl vr) 107 (0, 0))) : w.cell? ⟨b, 0, none⟩ = some (.int .i64 n.f0) ∧ w.cell? ⟨b, 1, none⟩ = some (.int .i64 n.f1) ∧ w.cell? ⟨b, 2, none⟩ = some (.int .i64 n.f2) ∧ w.cell? ⟨b, 3, none⟩ = some (.int .i64 n.f3) ∧ w.cell? ⟨b, 4, none⟩ = some (.int .i64 n.f4) ∧ w.cell? ⟨b, 5, none⟩ = some (.int .i64 n.f5) ∧
  w.cell? ⟨b, 6, none⟩ = some vl ∧ w.cell? ⟨b, 7, none⟩ = some vr ∧ w.cell? ⟨b, 8, none⟩ = some (.int .i64 pl) :=
 ⟨(cell_of h 0).trans rfl, (cell_of h 1).trans rfl, (cell_of h 2).trans rfl, (cell_of h 3).trans rfl, (cell_of h 4).trans rfl, (cell_of h 5).trans rfl, (cell_of h 6).trans rfl, (cell_of h 7).trans rfl, (cell_of h 8).trans rfl⟩
set_option maxHeartbeats 4000000 in
set_option maxRecDepth 100000 in
theorem rmirrored_any : ∀ (T : Tr) (v : Value) (w : World), Rp S w v T →
  Calls Try.prog 82 #[v] w fun e w' => ∃ p, e = .returned (.pointer p) ∧ Rp (fun _ => True) w' (.pointer p) (mirT T) ∧ Below w.heap.size w w'
 | .nil, v, w, h => by
  obtain rfl := h
  go_enter Try.func82, Try.ntmps82
  go_wp2
  go_ret
  exact ⟨none, rfl, rfl, Below.refl _ _⟩
 | .node n pl l r, v, w, h => by
  have hu34 := Try.underlying34
  have hu107 := Try.underlying107
  obtain ⟨b, vl, vr, rfl, hb, hl, hr, _⟩ := h
  obtain ⟨p6, rfl⟩ := hl.ptr
  obtain ⟨p7, rfl⟩ := hr.ptr
  have HL := Am hl
  have HR := Am hr
  have HB := Am hb
  clear hb hl hr
  go_enter Try.func82, Try.ntmps82
  go_wp2
  refine start_ (n := 21) (S := fun W' => W'.heap[b]? = some (.cells (rdC n pl (.pointer p6) (.pointer p7)) 107 (0, 0))) (ds := []) #[false, false, false, false, false, false, false, false, false, false, false, false, false, false, false, false, false, false, false, false, false] (by kernel_rfl) rfl rfl HB.out (fun hHeld => ?_)
  refine pu 0 5 ?_
  refine pu 1 6 ?_
  refine pu 2 7 ?_
  refine ta 3 8 hHeld (hy := by intro w' hs; obtain ⟨z0, z1, z2, z3, z4, z5, z6, z7, z8⟩ := rd9 hs; go_simp; with_reducible rfl) ?_
  refine pu 4 9 ?_
  refine pu 5 10 ?_
  refine pu 6 11 ?_
  refine ta 7 12 hHeld (hy := by intro w' hs; obtain ⟨z0, z1, z2, z3, z4, z5, z6, z7, z8⟩ := rd9 hs; go_simp; with_reducible rfl) ?_
  refine pu 9 14 ?_
  refine pu 10 15 ?_
  refine pu 11 16 ?_
  refine ta 12 17 hHeld (hy := by intro w' hs; obtain ⟨z0, z1, z2, z3, z4, z5, z6, z7, z8⟩ := rd9 hs; go_simp; with_reducible rfl) ?_
  refine pu 14 19 ?_
  refine pu 15 20 ?_
  refine pu 16 21 ?_
  refine ta 17 22 hHeld (hy := by intro w' hs; obtain ⟨z0, z1, z2, z3, z4, z5, z6, z7, z8⟩ := rd9 hs; go_simp; with_reducible rfl) ?_
  refine one_ (i := 8) (N := some 13) #[true, true, true, true, true, true, true, true, true, true, true, true, true, false, true, true, true, true, false, false, false] rfl rfl (by kernel_rfl) (by decide) (fun K hK => ?_)
  refine goes_ Try.func82 (by kernel_rfl) rfl #[.pointer p7] (by rfl) rfl rfl (by (try simp only [List.map_toArray, List.map_cons, List.map_nil]); first | done | rfl) ?_
  refine (rmirrored_any r _ _ (HR.out.below ((Below.refl _ _).drew))).mono ?_
  rintro e w1 ⟨x1, rfl, h1, hb1⟩
  have HB1 := Am ((hb1.block b (blk_lt hHeld)).trans hHeld)
  have H1 := Am h1
  have HL1 := Am ((HL.out.below ((Below.refl _ _).drew)).below hb1)
  have HW1 := Am (((Below.refl w.heap.size w).drew).trans hb1)
  refine ⟨_, rfl, ?_⟩
  refine hK.out _ _ HB1.out (fun hHeld => ?_)
  clear hK K h1 hb1
  refine norm_ (a' := ?_) ?_ ?_
  rotate_left
  ·show Act.put _ (some 13) _ = _
   simp only [Act.put, sI, sZ, sS]
   rfl
  refine one_ (i := 13) (N := some 18) #[true, true, true, true, true, true, true, true, true, true, true, true, true, true, true, true, true, true, false, false, false] rfl rfl (by kernel_rfl) (by decide) (fun K hK => ?_)
  refine goes_ Try.func82 (by kernel_rfl) rfl #[.pointer p6] (by rfl) rfl rfl (by (try simp only [List.map_toArray, List.map_cons, List.map_nil]); first | done | rfl) ?_
  refine (rmirrored_any l _ _ HL1.out).mono ?_
  rintro e w2 ⟨x2, rfl, h2, hb2⟩
  have HB2 := Am ((hb2.block b (blk_lt hHeld)).trans hHeld)
  have H2 := Am h2
  have H12 := Am (H1.out.below hb2)
  have HW2 := Am (bel_t' HW1.out hb2)
  refine ⟨_, rfl, ?_⟩
  refine hK.out _ _ HB2.out (fun hHeld => ?_)
  clear hK K h2 hb2
  refine norm_ (a' := ?_) ?_ ?_
  rotate_left
  ·show Act.put _ (some 18) _ = _
   simp only [Act.put, sI, sZ, sS]
   rfl
  refine pu 18 23 ?_
  refine one_ (i := 19) (N := some 24) #[true, true, true, true, true, true, true, true, true, true, true, true, true, true, true, true, true, true, true, true, false] rfl rfl (by kernel_rfl) (by decide) (fun K hK => ?_)
  refine box_step (by rfl) (N := 24) rfl (cs := rdC n pl (.pointer x1) (.pointer x2)) (t := 107) ?hr ?_
  case hr => first | (go_simp; done) | (go_simp; rfl)
  intro g hg w3 k3 b3
  subst hg
  refine hK.out _ _ ((b3.block b (blk_lt hHeld)).trans hHeld) (fun hHeld => ?_)
  clear hK K
  refine norm_ (a' := ?_) ?_ ?_
  rotate_left
  ·show Act.put _ (some 24) _ = _
   simp only [Act.put, sI, sZ, sS]
   rfl
  refine pu 20 2 ?_
  refine done_ (by kernel_rfl) ?_
  have hfin : Rp (fun _ => True) w3 (.pointer (some ⟨w2.heap.size, 0, none⟩)) (mirT (.node n pl l r)) := ⟨w2.heap.size, _, _, rfl, k3, H12.out.below b3, H2.out.below b3, trivial⟩
  have HFI := Am hfin
  have HW3 := Am (bel_t' HW2.out b3)
  clear hfin k3 b3
  go_wp2
  go_ret
  exact ⟨_, rfl, HFI.out, HW3.out⟩
set_option maxHeartbeats 4000000 in
set_option maxRecDepth 100000 in
theorem rgrow_any (A0 : Option Addr) (c0 : Nat) (t : List S34) (hf : ∀ i, i < t.length → fmN (t.getD i z34) t.length = true) : ∀ (k i : Nat) (T : Tr) (w : World), Kd.C k34 w A0 t.length t → t.length ≤ c0 → mkT t k i = some T →
  Calls Try.prog 59 #[.slice A0 t.length c0, .int .i64 i] w fun e w' => ∃ p, e = .returned (.pointer p) ∧ Rp (fun k => w.heap.size ≤ k) w' (.pointer p) T ∧ Below w.heap.size w w'
 | 0, i, T, w, _, _, h => by simp [mkT] at h
 | k + 1, i, T, w, hr0, hc0, h => by
  have hu34 := Try.underlying34
  have hu107 := Try.underlying107
  rw [mkT] at h
  split at h
  case isFalse => exact absurd h (by simp)
  rename_i hi
  have hfm := (fmN_iff _ _).1 (hf i hi)
  obtain ⟨ad, rfl, hz⟩ := rd_cells hr0 hi
  obtain ⟨n, hn⟩ : ∃ n, t.getD i z34 = n := ⟨_, rfl⟩
  rw [hn] at h hz hfm
  obtain ⟨z0, z1, z2, z3, z4, z5⟩ := hz _ (Below.refl _ _)
  have a4 := fun o => cell_al o z4
  have HZ := Am hz
  have HR0 := Am hr0
  have HC0 := Am hc0
  have p1 : (0 ≤ (i : Int)) = True := eq_true (by omega)
  have p2 : ((i : Int) < (t.length : Int)) = True := eq_true (by omega)
  clear hr0 hc0 hz hn
  split at h
  ·rename_i h4
   obtain ⟨l, hl, h⟩ := Option.bind_eq_some_iff.1 h
   obtain ⟨r, hr, h⟩ := Option.bind_eq_some_iff.1 h
   obtain rfl := Option.some.inj h
   obtain ⟨x, hx⟩ : ∃ x : Nat, n.f4 = x := ⟨n.f4.toNat, by omega⟩
   obtain ⟨y, hy⟩ : ∃ y : Nat, n.f5 = y := ⟨n.f5.toNat, by omega⟩
   rw [hx, Int.toNat_natCast] at hl
   rw [hy, Int.toNat_natCast] at hr
   have HL := Am hl
   have HRr := Am hr
   have p3 : decide (n.f4 ≥ 0) = true := decide_eq_true h4
   have HX := Am hx
   have HY := Am hy
   clear h hl hr h4 hfm hx hy
   go_enter Try.func59, Try.ntmps59
   go_wp2_with (fail)
   have hgo := fun o => rgrow_any (some ad) c0 t hf k x l _ (Kd.C_below HR0.out (ba (Below.refl _ _) o)) HC0.out HL.out
   rw [← HX.out] at hgo
   refine (hgo _).mono ?_
   clear hgo
   rintro e w1 ⟨q1, rfl, h1, hb1⟩
   have hk1 : w1.heap[w.heap.size]? = some (.cells (rdC n i (.pointer none) (.pointer none)) 107 (0, 0)) := by rw [hb1.block _ (by simp)]; exact heap_alloc_new w _
   have HB1 := Am ((ba (Below.refl w.heap.size w) _).trans (hb1.mono (by simp)))
   have H1 := Am (Rp.mono (S' := fun k => w.heap.size ≤ k ∧ k ≠ w.heap.size) (fun k hk => by simp at hk; omega) h1)
   have K1 := Am hk1
   have y6 : w1.cell? ⟨w.heap.size, 6, none⟩ = some (.pointer none) := (cell_of hk1 6).trans rfl
   have f6 := frz_of hk1 6
   have hB2 := below_set (j := 6) (v := .pointer q1) HB1.out (Nat.le_refl _)
   obtain ⟨x0, x1, x2, x3, x4, x5⟩ := HZ.out _ hB2
   have HB2 := Am hB2
   clear h1 hb1 hk1 hB2 z0 z1 z2 z3 z4 z5 a4
   go_wp2_with (fail)
   have hgo := rgrow_any (some ad) c0 t hf k y r _ (Kd.C_below HR0.out HB2.out) HC0.out HRr.out
   rw [← HY.out] at hgo
   refine hgo.mono ?_
   clear hgo
   rintro e w3 ⟨q2, rfl, h2, hb2⟩
   have k2 := blk_set K1.out 6 (.pointer q1)
   have hk3 : w3.heap[w.heap.size]? = some (.cells (rdC n i (.pointer q1) (.pointer none)) 107 (0, 0)) := (hb2.block _ (blk_lt k2)).trans k2
   have g1 : Rp (fun k => w.heap.size ≤ k ∧ k ≠ w.heap.size) w3 (.pointer q1) l := (H1.out.keptS (w' := w1.setCell ⟨w.heap.size, 6, none⟩ (.pointer q1)) (fun k hk _ => Below.heap_setCell _ _ _ _ hk.2)).below hb2
   have hsz : w.heap.size < (w1.setCell ⟨w.heap.size, 6, none⟩ (.pointer q1)).heap.size := blk_lt k2
   have g2 : Rp (fun k => w.heap.size ≤ k ∧ k ≠ w.heap.size) w3 (.pointer q2) r := Rp.mono (fun k hk => by omega) h2
   have G1 := Am g1
   have G2 := Am g2
   have K3 := Am hk3
   have HB3 := Am (HB2.out.trans (hb2.mono (by omega)))
   have y7 : w3.cell? ⟨w.heap.size, 7, none⟩ = some (.pointer none) := (cell_of hk3 7).trans rfl
   have f7 := frz_of hk3 7
   clear h2 hb2 k2 hk3 g1 g2 hsz x0 x1 x2 x3 x4 x5 y6 f6
   go_wp2
   go_ret
   have ne : ∀ {v : Value} {T : Tr}, Rp (fun k => w.heap.size ≤ k ∧ k ≠ w.heap.size) w3 v T → Rp (fun k => w.heap.size ≤ k) (w3.setCell ⟨w.heap.size, 7, none⟩ (.pointer q2)) v T := fun h => Rp.mono (fun _ h => h.1) (h.keptS (fun k hk _ => Below.heap_setCell _ _ _ _ hk.2))
   exact ⟨_, rfl, ⟨_, _, _, rfl, blk_set K3.out 7 (.pointer q2), ne G1.out, ne G2.out, Nat.le_refl _⟩, below_set HB3.out (Nat.le_refl _)⟩
  ·rename_i h4
   obtain rfl := Option.some.inj h
   have p3 : decide (n.f4 ≥ 0) = false := decide_eq_false h4
   clear h h4
   go_enter Try.func59, Try.ntmps59
   go_wp2
   go_ret
   exact ⟨_, rfl, ⟨_, _, _, rfl, heap_alloc_new w _, rfl, rfl, Nat.le_refl _⟩, ba (Below.refl _ _) _⟩
end Go.Proofs.Ytgleaefhflamnaa.T
namespace Go.Proofs.Ytgleaefhflamnaa.T
open Go.RowKit Go.Proofs.YtgleaefhflamnaaW.PrintWords Go.Proofs.YtgleaefhflamnaaW.PrintLast Go.Proofs.YtgleaefhflamnaaW.PrintMore
set_option linter.unusedVariables false
set_option linter.unusedSimpArgs false
variable {S : Nat → Prop}
set_option maxHeartbeats 16000000 in
set_option maxRecDepth 100000 in
theorem rcan1_any (p : Option Addr) (T : Tr) (rt : Bool) (w : World) (Hx : Aside0 (Rp S w (.pointer p) T)) :
  Calls Try.prog 53 #[.pointer p, .int .i64 1, .bool rt] w fun e w' => e = .returned (.bool (can1 false T)) ∧ w' = w := by
 obtain ⟨r, hr⟩ : ∃ r, can1 false T = r := ⟨_, rfl⟩
 rw [hr]
 have HR := Am hr
 clear hr
 rcases ch4' (wt (lT false (lT false T)) == 0) (wt (rT false (lT false T)) == 0) (wt (lT false (rT false T)) == 0) (wt (rT false (rT false T)) == 0) with g0 | ⟨g0, g1⟩ | ⟨g0, g1, g2⟩ | ⟨g0, g1, g2, g3⟩ | ⟨g0, g1, g2, g3⟩ <;>
 rcases ch3 (wt (lT false T) == 0) (wt (rT false T) == 0) (decide (0 < wt T)) with h0 | ⟨h0, h1⟩ | ⟨h0, h1, h2⟩ | ⟨h0, h1, h2⟩
 all_goals
  go_enter Try.func53, Try.ntmps53
  go_wp2_with (fail)
  refine (rleft_any _ _ _ Hx.out).mono ?_
  rintro e w' ⟨pl, rfl, hq, rfl⟩
  have Hl := Am hq
  clear hq
  go_wp2_with (fail)
  refine (rright_any _ _ _ Hx.out).mono ?_
  rintro e w' ⟨pr, rfl, hq, rfl⟩
  have Hr := Am hq
  clear hq
  go_wp2_with (fail)
  refine (rleft_any _ _ _ Hl.out).mono ?_
  rintro e w' ⟨pll, rfl, hq, rfl⟩
  have Hll := Am hq
  clear hq
  go_wp2_with (fail)
  refine (rright_any _ _ _ Hl.out).mono ?_
  rintro e w' ⟨plr, rfl, hq, rfl⟩
  have Hlr := Am hq
  clear hq
  go_wp2_with (fail)
  refine (rleft_any _ _ _ Hr.out).mono ?_
  rintro e w' ⟨prl, rfl, hq, rfl⟩
  have Hrl := Am hq
  clear hq
  go_wp2_with (fail)
  refine (rright_any _ _ _ Hr.out).mono ?_
  rintro e w' ⟨prr, rfl, hq, rfl⟩
  have Hrr := Am hq
  clear hq
  go_wp2_with (first | (go_at_call 80; refine (rw_any _ _ _ (by first | exact Hx.out | exact Hl.out | exact Hr.out | exact Hll.out | exact Hlr.out | exact Hrl.out | exact Hrr.out)).mono ?_; rintro e w' ⟨rfl, rfl⟩))
  go_ret
  exact ⟨by rw [← HR.out]; simp only [can1]; simp [*], rfl⟩
set_option maxHeartbeats 16000000 in
set_option maxRecDepth 100000 in
theorem rcan2_any (p : Option Addr) (T : Tr) (rt : Bool) (w : World) (Hx : Aside0 (Rp S w (.pointer p) T)) :
  Calls Try.prog 53 #[.pointer p, .int .i64 2, .bool rt] w fun e w' => e = .returned (.bool (can2 false T)) ∧ w' = w := by
 obtain ⟨r, hr⟩ : ∃ r, can2 false T = r := ⟨_, rfl⟩
 rw [hr]
 have HR := Am hr
 clear hr
 rcases ch4 (decide (0 < wt T)) (wt (lT false T) == 0) (wt (lT false (lT false T)) == 0) (decide (0 < wt (rT false T))) with h0 | ⟨h0, h1⟩ | ⟨h0, h1, h2⟩ | ⟨h0, h1, h2, h3⟩ | ⟨h0, h1, h2, h3⟩
 all_goals
  go_enter Try.func53, Try.ntmps53
  go_wp2_with (fail)
  refine (rleft_any _ _ _ Hx.out).mono ?_
  rintro e w' ⟨pl, rfl, hq, rfl⟩
  have Hl := Am hq
  clear hq
  go_wp2_with (fail)
  refine (rright_any _ _ _ Hx.out).mono ?_
  rintro e w' ⟨pr, rfl, hq, rfl⟩
  have Hr := Am hq
  clear hq
  go_wp2_with (fail)
  refine (rleft_any _ _ _ Hl.out).mono ?_
  rintro e w' ⟨pll, rfl, hq, rfl⟩
  have Hll := Am hq
  clear hq
  go_wp2_with (fail)
  refine (rright_any _ _ _ Hl.out).mono ?_
  rintro e w' ⟨plr, rfl, hq, rfl⟩
  have Hlr := Am hq
  clear hq
  go_wp2_with (fail)
  refine (rleft_any _ _ _ Hr.out).mono ?_
  rintro e w' ⟨prl, rfl, hq, rfl⟩
  have Hrl := Am hq
  clear hq
  go_wp2_with (fail)
  refine (rright_any _ _ _ Hr.out).mono ?_
  rintro e w' ⟨prr, rfl, hq, rfl⟩
  have Hrr := Am hq
  clear hq
  go_wp2_with (first | (go_at_call 80; refine (rw_any _ _ _ (by first | exact Hx.out | exact Hl.out | exact Hr.out | exact Hll.out | exact Hlr.out | exact Hrl.out | exact Hrr.out)).mono ?_; rintro e w' ⟨rfl, rfl⟩))
  go_ret
  exact ⟨by rw [← HR.out]; simp only [can2]; simp [*], rfl⟩
end Go.Proofs.Ytgleaefhflamnaa.T
namespace Go.Proofs.Ytgleaefhflamnaa.T
open Go.RowKit Go.Proofs.YtgleaefhflamnaaW.PrintWords Go.Proofs.YtgleaefhflamnaaW.PrintLast Go.Proofs.YtgleaefhflamnaaW.PrintMore
set_option linter.unusedVariables false
set_option linter.unusedSimpArgs false
variable {S : Nat → Prop}
set_option maxHeartbeats 16000000 in
set_option maxRecDepth 100000 in
theorem rcan3_any (p : Option Addr) (T : Tr) (rt : Bool) (w : World) (Hx : Aside0 (Rp S w (.pointer p) T)) :
  Calls Try.prog 53 #[.pointer p, .int .i64 3, .bool rt] w fun e w' => e = .returned (.bool (can3 false T)) ∧ w' = w := by
 obtain ⟨r, hr⟩ : ∃ r, can3 false T = r := ⟨_, rfl⟩
 rw [hr]
 have HR := Am hr
 clear hr
 rcases ch6 (decide (0 < wt T)) (wt (lT false T) == 0) (wt (rT false (lT false T)) == 0) (innerB (rT false (lT false T))) (decide (0 < wt (lT false (lT false T)))) (decide (0 < wt (rT false T))) with h0 | ⟨h0, h1⟩ | ⟨h0, h1, h2⟩ | ⟨h0, h1, h2, h3⟩ | ⟨h0, h1, h2, h3, h4⟩ | ⟨h0, h1, h2, h3, h4, h5⟩ | ⟨h0, h1, h2, h3, h4, h5⟩
 all_goals
  go_enter Try.func53, Try.ntmps53
  go_wp2_with (fail)
  refine (rleft_any _ _ _ Hx.out).mono ?_
  rintro e w' ⟨pl, rfl, hq, rfl⟩
  have Hl := Am hq
  clear hq
  go_wp2_with (fail)
  refine (rright_any _ _ _ Hx.out).mono ?_
  rintro e w' ⟨pr, rfl, hq, rfl⟩
  have Hr := Am hq
  clear hq
  go_wp2_with (fail)
  refine (rleft_any _ _ _ Hl.out).mono ?_
  rintro e w' ⟨pll, rfl, hq, rfl⟩
  have Hll := Am hq
  clear hq
  go_wp2_with (fail)
  refine (rright_any _ _ _ Hl.out).mono ?_
  rintro e w' ⟨plr, rfl, hq, rfl⟩
  have Hlr := Am hq
  clear hq
  go_wp2_with (fail)
  refine (rleft_any _ _ _ Hr.out).mono ?_
  rintro e w' ⟨prl, rfl, hq, rfl⟩
  have Hrl := Am hq
  clear hq
  go_wp2_with (fail)
  refine (rright_any _ _ _ Hr.out).mono ?_
  rintro e w' ⟨prr, rfl, hq, rfl⟩
  have Hrr := Am hq
  clear hq
  go_wp2_with (first | (go_at_call 80; refine (rw_any _ _ _ (by first | exact Hx.out | exact Hl.out | exact Hr.out | exact Hll.out | exact Hlr.out | exact Hrl.out | exact Hrr.out)).mono ?_; rintro e w' ⟨rfl, rfl⟩) | (go_at_call 81; refine (rinner_any _ _ _ Hlr.out (by rintro e; rw [e] at h2; exact absurd h2 (by decide))).mono ?_; rintro e w' ⟨rfl, rfl⟩))
  go_ret
  exact ⟨by rw [← HR.out]; simp only [can3]; simp [*], rfl⟩
set_option maxHeartbeats 16000000 in
set_option maxRecDepth 100000 in
theorem rcan4_any (p : Option Addr) (T : Tr) (rt : Bool) (w : World) (Hx : Aside0 (Rp S w (.pointer p) T)) :
  Calls Try.prog 53 #[.pointer p, .int .i64 4, .bool rt] w fun e w' => e = .returned (.bool (can4 false T)) ∧ w' = w := by
 obtain ⟨r, hr⟩ : ∃ r, can4 false T = r := ⟨_, rfl⟩
 rw [hr]
 have HR := Am hr
 clear hr
 rcases ch4 (decide (1 < wt (lT false T))) (wt (rT false T) == 1) (decide (0 < wt (lT false (rT false T)))) (decide (0 < wt (rT false (rT false T)))) with h0 | ⟨h0, h1⟩ | ⟨h0, h1, h2⟩ | ⟨h0, h1, h2, h3⟩ | ⟨h0, h1, h2, h3⟩
 all_goals
  go_enter Try.func53, Try.ntmps53
  go_wp2_with (fail)
  refine (rleft_any _ _ _ Hx.out).mono ?_
  rintro e w' ⟨pl, rfl, hq, rfl⟩
  have Hl := Am hq
  clear hq
  go_wp2_with (fail)
  refine (rright_any _ _ _ Hx.out).mono ?_
  rintro e w' ⟨pr, rfl, hq, rfl⟩
  have Hr := Am hq
  clear hq
  go_wp2_with (fail)
  refine (rleft_any _ _ _ Hl.out).mono ?_
  rintro e w' ⟨pll, rfl, hq, rfl⟩
  have Hll := Am hq
  clear hq
  go_wp2_with (fail)
  refine (rright_any _ _ _ Hl.out).mono ?_
  rintro e w' ⟨plr, rfl, hq, rfl⟩
  have Hlr := Am hq
  clear hq
  go_wp2_with (fail)
  refine (rleft_any _ _ _ Hr.out).mono ?_
  rintro e w' ⟨prl, rfl, hq, rfl⟩
  have Hrl := Am hq
  clear hq
  go_wp2_with (fail)
  refine (rright_any _ _ _ Hr.out).mono ?_
  rintro e w' ⟨prr, rfl, hq, rfl⟩
  have Hrr := Am hq
  clear hq
  go_wp2_with (first | (go_at_call 80; refine (rw_any _ _ _ (by first | exact Hx.out | exact Hl.out | exact Hr.out | exact Hll.out | exact Hlr.out | exact Hrl.out | exact Hrr.out)).mono ?_; rintro e w' ⟨rfl, rfl⟩))
  go_ret
  exact ⟨by rw [← HR.out]; simp only [can4]; simp [*], rfl⟩
set_option maxHeartbeats 16000000 in
set_option maxRecDepth 100000 in
theorem rcan11_any (p : Option Addr) (T : Tr) (rt : Bool) (w : World) (Hx : Aside0 (Rp S w (.pointer p) T)) :
  Calls Try.prog 53 #[.pointer p, .int .i64 11, .bool rt] w fun e w' => e = .returned (.bool (can11 false T)) ∧ w' = w := by
 obtain ⟨r, hr⟩ : ∃ r, can11 false T = r := ⟨_, rfl⟩
 rw [hr]
 have HR := Am hr
 clear hr
 rcases ch2 (decide (1 < wt (lT false T))) (decide (1 < wt (rT false T))) with h0 | ⟨h0, h1⟩ | ⟨h0, h1⟩
 all_goals
  go_enter Try.func53, Try.ntmps53
  go_wp2_with (fail)
  refine (rleft_any _ _ _ Hx.out).mono ?_
  rintro e w' ⟨pl, rfl, hq, rfl⟩
  have Hl := Am hq
  clear hq
  go_wp2_with (fail)
  refine (rright_any _ _ _ Hx.out).mono ?_
  rintro e w' ⟨pr, rfl, hq, rfl⟩
  have Hr := Am hq
  clear hq
  go_wp2_with (fail)
  refine (rleft_any _ _ _ Hl.out).mono ?_
  rintro e w' ⟨pll, rfl, hq, rfl⟩
  have Hll := Am hq
  clear hq
  go_wp2_with (fail)
  refine (rright_any _ _ _ Hl.out).mono ?_
  rintro e w' ⟨plr, rfl, hq, rfl⟩
  have Hlr := Am hq
  clear hq
  go_wp2_with (fail)
  refine (rleft_any _ _ _ Hr.out).mono ?_
  rintro e w' ⟨prl, rfl, hq, rfl⟩
  have Hrl := Am hq
  clear hq
  go_wp2_with (fail)
  refine (rright_any _ _ _ Hr.out).mono ?_
  rintro e w' ⟨prr, rfl, hq, rfl⟩
  have Hrr := Am hq
  clear hq
  go_wp2_with (first | (go_at_call 80; refine (rw_any _ _ _ (by first | exact Hx.out | exact Hl.out | exact Hr.out | exact Hll.out | exact Hlr.out | exact Hrl.out | exact Hrr.out)).mono ?_; rintro e w' ⟨rfl, rfl⟩))
  go_ret
  exact ⟨by rw [← HR.out]; simp only [can11]; simp [*], rfl⟩
set_option maxHeartbeats 16000000 in
set_option maxRecDepth 100000 in
theorem rcan9_any (p : Option Addr) (T : Tr) (rt : Bool) (w : World) (Hx : Aside0 (Rp S w (.pointer p) T)) :
  Calls Try.prog 53 #[.pointer p, .int .i64 9, .bool rt] w fun e w' => e = .returned (.bool (can9 false T)) ∧ w' = w := by
 obtain ⟨r, hr⟩ : ∃ r, can9 false T = r := ⟨_, rfl⟩
 rw [hr]
 have HR := Am hr
 clear hr
 rcases ch3 (decide (1 < wt (lT false T))) (wt (rT false T) == 1) (wt (rT false (rT false T)) == 0) with h0 | ⟨h0, h1⟩ | ⟨h0, h1, h2⟩ | ⟨h0, h1, h2⟩
 all_goals
  go_enter Try.func53, Try.ntmps53
  go_wp2_with (fail)
  refine (rleft_any _ _ _ Hx.out).mono ?_
  rintro e w' ⟨pl, rfl, hq, rfl⟩
  have Hl := Am hq
  clear hq
  go_wp2_with (fail)
  refine (rright_any _ _ _ Hx.out).mono ?_
  rintro e w' ⟨pr, rfl, hq, rfl⟩
  have Hr := Am hq
  clear hq
  go_wp2_with (fail)
  refine (rleft_any _ _ _ Hl.out).mono ?_
  rintro e w' ⟨pll, rfl, hq, rfl⟩
  have Hll := Am hq
  clear hq
  go_wp2_with (fail)
  refine (rright_any _ _ _ Hl.out).mono ?_
  rintro e w' ⟨plr, rfl, hq, rfl⟩
  have Hlr := Am hq
  clear hq
  go_wp2_with (fail)
  refine (rleft_any _ _ _ Hr.out).mono ?_
  rintro e w' ⟨prl, rfl, hq, rfl⟩
  have Hrl := Am hq
  clear hq
  go_wp2_with (fail)
  refine (rright_any _ _ _ Hr.out).mono ?_
  rintro e w' ⟨prr, rfl, hq, rfl⟩
  have Hrr := Am hq
  clear hq
  go_wp2_with (first | (go_at_call 80; refine (rw_any _ _ _ (by first | exact Hx.out | exact Hl.out | exact Hr.out | exact Hll.out | exact Hlr.out | exact Hrl.out | exact Hrr.out)).mono ?_; rintro e w' ⟨rfl, rfl⟩))
  go_ret
  exact ⟨by rw [← HR.out]; simp only [can9]; simp [*], rfl⟩
set_option maxHeartbeats 2000000 in
set_option maxRecDepth 100000 in
theorem rcan12_any (p : Option Addr) (T : Tr) (rt : Bool) (w : World) (Hx : Aside0 (Rp S w (.pointer p) T)) :
  Calls Try.prog 53 #[.pointer p, .int .i64 12, .bool rt] w fun e w' => e = .returned (.bool (rt && wt T != 1)) ∧ w' = w := by
 cases rt
 all_goals
  go_enter Try.func53, Try.ntmps53
  go_wp2_with (fail)
  refine (rleft_any _ _ _ Hx.out).mono ?_
  rintro e w' ⟨pl, rfl, hq, rfl⟩
  have Hl := Am hq
  clear hq
  go_wp2_with (fail)
  refine (rright_any _ _ _ Hx.out).mono ?_
  rintro e w' ⟨pr, rfl, hq, rfl⟩
  have Hr := Am hq
  clear hq
  go_wp2_with (fail)
  refine (rleft_any _ _ _ Hl.out).mono ?_
  rintro e w' ⟨pll, rfl, hq, rfl⟩
  have Hll := Am hq
  clear hq
  go_wp2_with (fail)
  refine (rright_any _ _ _ Hl.out).mono ?_
  rintro e w' ⟨plr, rfl, hq, rfl⟩
  have Hlr := Am hq
  clear hq
  go_wp2_with (fail)
  refine (rleft_any _ _ _ Hr.out).mono ?_
  rintro e w' ⟨prl, rfl, hq, rfl⟩
  have Hrl := Am hq
  clear hq
  go_wp2_with (fail)
  refine (rright_any _ _ _ Hr.out).mono ?_
  rintro e w' ⟨prr, rfl, hq, rfl⟩
  have Hrr := Am hq
  clear hq
  go_wp2_with (first | (go_at_call 80; refine (rw_any _ _ _ (by first | exact Hx.out | exact Hl.out | exact Hr.out | exact Hll.out | exact Hlr.out | exact Hrl.out | exact Hrr.out)).mono ?_; rintro e w' ⟨rfl, rfl⟩))
  go_ret
  exact ⟨by simp, rfl⟩
end Go.Proofs.Ytgleaefhflamnaa.T
namespace Go.Proofs.Ytgleaefhflamnaa.T
open Go.RowKit Go.Proofs.YtgleaefhflamnaaW.PrintWords Go.Proofs.YtgleaefhflamnaaW.PrintLast Go.Proofs.YtgleaefhflamnaaW.PrintMore
set_option linter.unusedVariables false
set_option linter.unusedSimpArgs false
variable {S : Nat → Prop}
set_option maxHeartbeats 16000000 in
set_option maxRecDepth 100000 in
theorem rcan10_any (p : Option Addr) (T : Tr) (rt : Bool) (w : World) (Hx : Aside0 (Rp S w (.pointer p) T)) :
  Calls Try.prog 53 #[.pointer p, .int .i64 10, .bool rt] w fun e w' => e = .returned (.bool (can10 false T)) ∧ w' = w := by
 obtain ⟨r, hr⟩ : ∃ r, can10 false T = r := ⟨_, rfl⟩
 rw [hr]
 have HR := Am hr
 clear hr
 rcases ch5 (decide (1 < wt (lT false T))) (wt (rT false T) == 1) (wt (lT false (rT false T)) == 0) (innerB (lT false (rT false T))) (decide (0 < wt (rT false (rT false T)))) with h0 | ⟨h0, h1⟩ | ⟨h0, h1, h2⟩ | ⟨h0, h1, h2, h3⟩ | ⟨h0, h1, h2, h3, h4⟩ | ⟨h0, h1, h2, h3, h4⟩
 all_goals
  go_enter Try.func53, Try.ntmps53
  go_wp2_with (fail)
  refine (rleft_any _ _ _ Hx.out).mono ?_
  rintro e w' ⟨pl, rfl, hq, rfl⟩
  have Hl := Am hq
  clear hq
  go_wp2_with (fail)
  refine (rright_any _ _ _ Hx.out).mono ?_
  rintro e w' ⟨pr, rfl, hq, rfl⟩
  have Hr := Am hq
  clear hq
  go_wp2_with (fail)
  refine (rleft_any _ _ _ Hl.out).mono ?_
  rintro e w' ⟨pll, rfl, hq, rfl⟩
  have Hll := Am hq
  clear hq
  go_wp2_with (fail)
  refine (rright_any _ _ _ Hl.out).mono ?_
  rintro e w' ⟨plr, rfl, hq, rfl⟩
  have Hlr := Am hq
  clear hq
  go_wp2_with (fail)
  refine (rleft_any _ _ _ Hr.out).mono ?_
  rintro e w' ⟨prl, rfl, hq, rfl⟩
  have Hrl := Am hq
  clear hq
  go_wp2_with (fail)
  refine (rright_any _ _ _ Hr.out).mono ?_
  rintro e w' ⟨prr, rfl, hq, rfl⟩
  have Hrr := Am hq
  clear hq
  go_wp2_with (first | (go_at_call 80; refine (rw_any _ _ _ (by first | exact Hx.out | exact Hl.out | exact Hr.out | exact Hll.out | exact Hlr.out | exact Hrl.out | exact Hrr.out)).mono ?_; rintro e w' ⟨rfl, rfl⟩) | (go_at_call 81; refine (rinner_any _ _ _ Hrl.out (by rintro e; rw [e] at h2; exact absurd h2 (by decide))).mono ?_; rintro e w' ⟨rfl, rfl⟩))
  go_ret
  exact ⟨by rw [← HR.out]; simp only [can10]; simp [*], rfl⟩
set_option maxHeartbeats 16000000 in
set_option maxRecDepth 100000 in
theorem rcan5_any (p : Option Addr) (T : Tr) (rt : Bool) (w : World) (Hx : Aside0 (Rp S w (.pointer p) T)) :
  Calls Try.prog 53 #[.pointer p, .int .i64 5, .bool rt] w fun e w' => e = .returned (.bool (can5 false T)) ∧ w' = w := by
 obtain ⟨r, hr⟩ : ∃ r, can5 false T = r := ⟨_, rfl⟩
 rw [hr]
 have HR := Am hr
 clear hr
 rcases ch3 (decide (1 < wt (lT false T))) (wt (rT false T) == 0) (decide (1 < wt (lT false (rT false T)))) with h0 | ⟨h0, h1⟩ | ⟨h0, h1, h2⟩ | ⟨h0, h1, h2⟩
 all_goals
  go_enter Try.func53, Try.ntmps53
  go_wp2_with (fail)
  refine (rleft_any _ _ _ Hx.out).mono ?_
  rintro e w' ⟨pl, rfl, hq, rfl⟩
  have Hl := Am hq
  clear hq
  go_wp2_with (fail)
  refine (rright_any _ _ _ Hx.out).mono ?_
  rintro e w' ⟨pr, rfl, hq, rfl⟩
  have Hr := Am hq
  clear hq
  go_wp2_with (fail)
  refine (rleft_any _ _ _ Hl.out).mono ?_
  rintro e w' ⟨pll, rfl, hq, rfl⟩
  have Hll := Am hq
  clear hq
  go_wp2_with (fail)
  refine (rright_any _ _ _ Hl.out).mono ?_
  rintro e w' ⟨plr, rfl, hq, rfl⟩
  have Hlr := Am hq
  clear hq
  go_wp2_with (fail)
  refine (rleft_any _ _ _ Hr.out).mono ?_
  rintro e w' ⟨prl, rfl, hq, rfl⟩
  have Hrl := Am hq
  clear hq
  go_wp2_with (fail)
  refine (rright_any _ _ _ Hr.out).mono ?_
  rintro e w' ⟨prr, rfl, hq, rfl⟩
  have Hrr := Am hq
  clear hq
  go_wp2_with (first | (go_at_call 80; refine (rw_any _ _ _ (by first | exact Hx.out | exact Hl.out | exact Hr.out | exact Hll.out | exact Hlr.out | exact Hrl.out | exact Hrr.out)).mono ?_; rintro e w' ⟨rfl, rfl⟩))
  go_ret
  exact ⟨by rw [← HR.out]; simp only [can5]; simp [*], rfl⟩
set_option maxHeartbeats 16000000 in
set_option maxRecDepth 100000 in
theorem rcan6_any (p : Option Addr) (T : Tr) (rt : Bool) (w : World) (Hx : Aside0 (Rp S w (.pointer p) T)) :
  Calls Try.prog 53 #[.pointer p, .int .i64 6, .bool rt] w fun e w' => e = .returned (.bool (can6 false T)) ∧ w' = w := by
 obtain ⟨r, hr⟩ : ∃ r, can6 false T = r := ⟨_, rfl⟩
 rw [hr]
 have HR := Am hr
 clear hr
 rcases ch5 (decide (1 < wt (lT false T))) (wt (rT false T) == 0) (wt (lT false (rT false T)) == 1) (decide (0 < wt (lT false (lT false (rT false T))))) (decide (0 < wt (rT false (lT false (rT false T))))) with h0 | ⟨h0, h1⟩ | ⟨h0, h1, h2⟩ | ⟨h0, h1, h2, h3⟩ | ⟨h0, h1, h2, h3, h4⟩ | ⟨h0, h1, h2, h3, h4⟩
 all_goals
  go_enter Try.func53, Try.ntmps53
  go_wp2_with (fail)
  refine (rleft_any _ _ _ Hx.out).mono ?_
  rintro e w' ⟨pl, rfl, hq, rfl⟩
  have Hl := Am hq
  clear hq
  go_wp2_with (fail)
  refine (rright_any _ _ _ Hx.out).mono ?_
  rintro e w' ⟨pr, rfl, hq, rfl⟩
  have Hr := Am hq
  clear hq
  go_wp2_with (fail)
  refine (rleft_any _ _ _ Hl.out).mono ?_
  rintro e w' ⟨pll, rfl, hq, rfl⟩
  have Hll := Am hq
  clear hq
  go_wp2_with (fail)
  refine (rright_any _ _ _ Hl.out).mono ?_
  rintro e w' ⟨plr, rfl, hq, rfl⟩
  have Hlr := Am hq
  clear hq
  go_wp2_with (fail)
  refine (rleft_any _ _ _ Hr.out).mono ?_
  rintro e w' ⟨prl, rfl, hq, rfl⟩
  have Hrl := Am hq
  clear hq
  go_wp2_with (fail)
  refine (rright_any _ _ _ Hr.out).mono ?_
  rintro e w' ⟨prr, rfl, hq, rfl⟩
  have Hrr := Am hq
  clear hq
  go_wp2_with (first | (go_at_call 80; refine (rw_any _ _ _ (by first | exact Hx.out | exact Hl.out | exact Hr.out | exact Hll.out | exact Hlr.out | exact Hrl.out | exact Hrr.out | exact Ha.out | exact Hb.out)).mono ?_; rintro e w' ⟨rfl, rfl⟩) | (go_at_call 78; refine (rleft_any _ _ _ Hrl.out).mono ?_; rintro e w' ⟨pa, rfl, hq, rfl⟩; have Ha := Am hq; clear hq) | (go_at_call 79; refine (rright_any _ _ _ Hrl.out).mono ?_; rintro e w' ⟨pb, rfl, hq, rfl⟩; have Hb := Am hq; clear hq))
  go_ret
  exact ⟨by rw [← HR.out]; simp only [can6]; simp [*], rfl⟩
end Go.Proofs.Ytgleaefhflamnaa.T
namespace Go.Proofs.Ytgleaefhflamnaa.T
open Go.RowKit Go.Proofs.YtgleaefhflamnaaW.PrintWords Go.Proofs.YtgleaefhflamnaaW.PrintLast Go.Proofs.YtgleaefhflamnaaW.PrintMore
set_option linter.unusedVariables false
set_option linter.unusedSimpArgs false
variable {S : Nat → Prop}
set_option maxHeartbeats 16000000 in
set_option maxRecDepth 100000 in
theorem rcan7_any (p : Option Addr) (T : Tr) (rt : Bool) (w : World) (Hx : Aside0 (Rp S w (.pointer p) T)) :
  Calls Try.prog 53 #[.pointer p, .int .i64 7, .bool rt] w fun e w' => e = .returned (.bool (can7 false T)) ∧ w' = w := by
 obtain ⟨r, hr⟩ : ∃ r, can7 false T = r := ⟨_, rfl⟩
 rw [hr]
 have HR := Am hr
 clear hr
 rcases ch6 (decide (1 < wt (lT false T))) (wt (rT false T) == 0) (wt (lT false (rT false T)) == 1) (wt (lT false (lT false (rT false T))) == 0) (innerB (lT false (lT false (rT false T)))) (decide (0 < wt (rT false (lT false (rT false T))))) with h0 | ⟨h0, h1⟩ | ⟨h0, h1, h2⟩ | ⟨h0, h1, h2, h3⟩ | ⟨h0, h1, h2, h3, h4⟩ | ⟨h0, h1, h2, h3, h4, h5⟩ | ⟨h0, h1, h2, h3, h4, h5⟩
 all_goals
  go_enter Try.func53, Try.ntmps53
  go_wp2_with (fail)
  refine (rleft_any _ _ _ Hx.out).mono ?_
  rintro e w' ⟨pl, rfl, hq, rfl⟩
  have Hl := Am hq
  clear hq
  go_wp2_with (fail)
  refine (rright_any _ _ _ Hx.out).mono ?_
  rintro e w' ⟨pr, rfl, hq, rfl⟩
  have Hr := Am hq
  clear hq
  go_wp2_with (fail)
  refine (rleft_any _ _ _ Hl.out).mono ?_
  rintro e w' ⟨pll, rfl, hq, rfl⟩
  have Hll := Am hq
  clear hq
  go_wp2_with (fail)
  refine (rright_any _ _ _ Hl.out).mono ?_
  rintro e w' ⟨plr, rfl, hq, rfl⟩
  have Hlr := Am hq
  clear hq
  go_wp2_with (fail)
  refine (rleft_any _ _ _ Hr.out).mono ?_
  rintro e w' ⟨prl, rfl, hq, rfl⟩
  have Hrl := Am hq
  clear hq
  go_wp2_with (fail)
  refine (rright_any _ _ _ Hr.out).mono ?_
  rintro e w' ⟨prr, rfl, hq, rfl⟩
  have Hrr := Am hq
  clear hq
  go_wp2_with (first | (go_at_call 80; refine (rw_any _ _ _ (by first | exact Hx.out | exact Hl.out | exact Hr.out | exact Hll.out | exact Hlr.out | exact Hrl.out | exact Hrr.out | exact Ha.out | exact Hb.out)).mono ?_; rintro e w' ⟨rfl, rfl⟩) | (go_at_call 78; refine (rleft_any _ _ _ Hrl.out).mono ?_; rintro e w' ⟨pa, rfl, hq, rfl⟩; have Ha := Am hq; clear hq) | (go_at_call 79; refine (rright_any _ _ _ Hrl.out).mono ?_; rintro e w' ⟨pb, rfl, hq, rfl⟩; have Hb := Am hq; clear hq) | (go_at_call 81; refine (rinner_any _ _ _ Ha.out (by rintro e; rw [e] at h3; exact absurd h3 (by decide))).mono ?_; rintro e w' ⟨rfl, rfl⟩))
  go_ret
  exact ⟨by rw [← HR.out]; simp only [can7]; simp [*], rfl⟩
set_option maxHeartbeats 16000000 in
set_option maxRecDepth 100000 in
theorem rcan8_any (p : Option Addr) (T : Tr) (rt : Bool) (w : World) (Hx : Aside0 (Rp S w (.pointer p) T)) :
  Calls Try.prog 53 #[.pointer p, .int .i64 8, .bool rt] w fun e w' => e = .returned (.bool (can8 false T)) ∧ w' = w := by
 obtain ⟨r, hr⟩ : ∃ r, can8 false T = r := ⟨_, rfl⟩
 rw [hr]
 have HR := Am hr
 clear hr
 rcases ch4 (decide (1 < wt (lT false T))) (wt (rT false T) == 0) (wt (lT false (rT false T)) == 1) (wt (rT false (lT false (rT false T))) == 0) with h0 | ⟨h0, h1⟩ | ⟨h0, h1, h2⟩ | ⟨h0, h1, h2, h3⟩ | ⟨h0, h1, h2, h3⟩
 all_goals
  go_enter Try.func53, Try.ntmps53
  go_wp2_with (fail)
  refine (rleft_any _ _ _ Hx.out).mono ?_
  rintro e w' ⟨pl, rfl, hq, rfl⟩
  have Hl := Am hq
  clear hq
  go_wp2_with (fail)
  refine (rright_any _ _ _ Hx.out).mono ?_
  rintro e w' ⟨pr, rfl, hq, rfl⟩
  have Hr := Am hq
  clear hq
  go_wp2_with (fail)
  refine (rleft_any _ _ _ Hl.out).mono ?_
  rintro e w' ⟨pll, rfl, hq, rfl⟩
  have Hll := Am hq
  clear hq
  go_wp2_with (fail)
  refine (rright_any _ _ _ Hl.out).mono ?_
  rintro e w' ⟨plr, rfl, hq, rfl⟩
  have Hlr := Am hq
  clear hq
  go_wp2_with (fail)
  refine (rleft_any _ _ _ Hr.out).mono ?_
  rintro e w' ⟨prl, rfl, hq, rfl⟩
  have Hrl := Am hq
  clear hq
  go_wp2_with (fail)
  refine (rright_any _ _ _ Hr.out).mono ?_
  rintro e w' ⟨prr, rfl, hq, rfl⟩
  have Hrr := Am hq
  clear hq
  go_wp2_with (first | (go_at_call 80; refine (rw_any _ _ _ (by first | exact Hx.out | exact Hl.out | exact Hr.out | exact Hll.out | exact Hlr.out | exact Hrl.out | exact Hrr.out | exact Hb.out)).mono ?_; rintro e w' ⟨rfl, rfl⟩) | (go_at_call 79; refine (rright_any _ _ _ Hrl.out).mono ?_; rintro e w' ⟨pb, rfl, hq, rfl⟩; have Hb := Am hq; clear hq))
  go_ret
  exact ⟨by rw [← HR.out]; simp only [can8]; simp [*], rfl⟩
end Go.Proofs.Ytgleaefhflamnaa.T
/- The reference's asked and side. -/
namespace Go.Proofs.Ytgleaefhflamnaa.T
open Go.RowKit Go.Proofs.YtgleaefhflamnaaW.PrintWords Go.Proofs.YtgleaefhflamnaaW.PrintLast Go.Proofs.YtgleaefhflamnaaW.PrintMore
set_option linter.unusedVariables false
set_option linter.unusedSimpArgs false
/-- What asked comes to: the node's tree, whether it is the root of the keys, the error. -/
def AskR (k : Nat) (t : List S34) (a kind : Int) (mir : Bool) (X : Tr) (rt : Bool) (e : Int) : Prop :=
 (larchref16_Check.f k t = some e ∧ (e != 0) = true ∧ X = .nil ∧ rt = false) ∨
 (larchref16_Check.f k t = some 0 ∧ ∃ r, larchref16_Root.f k t = some (r, e) ∧ (e != 0) = true ∧ X = .nil ∧ rt = false) ∨
 (larchref16_Check.f k t = some 0 ∧ ∃ r, larchref16_Root.f k t = some (r, 0) ∧ larchref18_IsMove.f kind mir = some false ∧ X = .nil ∧ rt = false ∧ e = 5) ∨
 (larchref16_Check.f k t = some 0 ∧ larchref18_IsMove.f kind mir = some true ∧ (∀ i, i < t.length → fmN (t.getD i z34) t.length = true) ∧ ∃ (r : Nat) (X0 : Tr) (b : Bool), larchref16_Root.f k t = some ((r : Int), 0) ∧ mkT t t.length r = some X0 ∧ (a == (r : Int)) = b ∧
  ((plaT a X0 = .nil ∧ X = .nil ∧ rt = false ∧ e = 1) ∨ (plaT a X0 = X ∧ X ≠ .nil ∧ rt = b ∧ e = 0)))
set_option maxHeartbeats 4000000 in
set_option maxRecDepth 100000 in
theorem asked_any (k : Nat) (A0 : Option Addr) (c0 : Nat) (t : List S34) (a kind : Int) (mir : Bool) (X : Tr) (rt : Bool) (e : Int) (w : World) (hr0 : Kd.C k34 w A0 t.length t) (hc0 : t.length ≤ c0) (h : AskR k t a kind mir X rt e) :
  Calls Try.prog 52 #[.slice A0 t.length c0, .int .i64 a, .agg #[.int .i64 kind, .bool mir]] w fun ed w' => ∃ p, ed = .returned (.tuple #[.pointer p, .bool rt, .int .i64 e]) ∧ Rp (fun _ => True) w' (.pointer p) X ∧ Below w.heap.size w w' := by
 have hu24 := Try.underlying24
 have HR0 := Am hr0
 have HC0 := Am hc0
 clear hr0 hc0
 rcases h with ⟨h1, h2, rfl, rfl⟩ | ⟨h1, r, h2, h3, rfl, rfl⟩ | ⟨h1, r, h2, h3, rfl, rfl, rfl⟩ | ⟨h1, h2, hf, r, X0, b, h3, h4, h5, h6⟩
 ·have H1 := Am h1
  clear h1
  go_enter Try.func52, Try.ntmps52
  go_wp2_with (fail)
  refine (larchref16_Check.calls k A0 c0 t e _ (Kd.C_below HR0.out (ba (Below.refl _ _) _)) HC0.out H1.out).mono ?_
  rintro _ w1 ⟨rfl, hb⟩
  have hk := (hb.block w.heap.size (by simp)).trans (heap_alloc_new w (.cells #[.int .i64 kind, .bool mir] 24))
  have HB := Am ((ba (Below.refl w.heap.size w) _).trans (hb.mono (by simp)))
  have HK := Am hk
  clear hb hk
  go_wp2
  go_ret3
  exact ⟨none, rfl, rfl, HB.out⟩
 ·have H1 := Am h1
  have H2 := Am h2
  clear h1 h2
  go_enter Try.func52, Try.ntmps52
  go_wp2_with (fail)
  refine (larchref16_Check.calls k A0 c0 t 0 _ (Kd.C_below HR0.out (ba (Below.refl _ _) _)) HC0.out H1.out).mono ?_
  rintro _ w1 ⟨rfl, hb⟩
  have hk := (hb.block w.heap.size (by simp)).trans (heap_alloc_new w (.cells #[.int .i64 kind, .bool mir] 24))
  have HB := Am ((ba (Below.refl w.heap.size w) _).trans (hb.mono (by simp)))
  have HK := Am hk
  clear hb hk
  go_wp2_with (fail)
  refine (larchref16_Root.calls k A0 c0 t r e _ (Kd.C_below HR0.out HB.out) HC0.out H2.out).mono ?_
  rintro _ w2 ⟨rfl, hb⟩
  have hk := (hb.block w.heap.size (blk_lt HK.out)).trans HK.out
  have HB2 := Am (bel_t' HB.out hb)
  have HK2 := Am hk
  have z0 : w2.cell? ⟨w.heap.size, 0, none⟩ = some (.int .i64 kind) := (cell_of hk 0).trans rfl
  have z1 : w2.cell? ⟨w.heap.size, 1, none⟩ = some (.bool mir) := (cell_of hk 1).trans rfl
  clear hb hk HK HB
  go_wp2
  go_ret3
  exact ⟨none, rfl, rfl, HB2.out⟩
 ·have H1 := Am h1
  have H2 := Am h2
  have H3 := Am h3
  clear h1 h2 h3
  go_enter Try.func52, Try.ntmps52
  go_wp2_with (fail)
  refine (larchref16_Check.calls k A0 c0 t 0 _ (Kd.C_below HR0.out (ba (Below.refl _ _) _)) HC0.out H1.out).mono ?_
  rintro _ w1 ⟨rfl, hb⟩
  have hk := (hb.block w.heap.size (by simp)).trans (heap_alloc_new w (.cells #[.int .i64 kind, .bool mir] 24))
  have HB := Am ((ba (Below.refl w.heap.size w) _).trans (hb.mono (by simp)))
  have HK := Am hk
  clear hb hk
  go_wp2_with (fail)
  refine (larchref16_Root.calls k A0 c0 t r 0 _ (Kd.C_below HR0.out HB.out) HC0.out H2.out).mono ?_
  rintro _ w2 ⟨rfl, hb⟩
  have hk := (hb.block w.heap.size (blk_lt HK.out)).trans HK.out
  have HB2 := Am (bel_t' HB.out hb)
  have HK2 := Am hk
  have z0 : w2.cell? ⟨w.heap.size, 0, none⟩ = some (.int .i64 kind) := (cell_of hk 0).trans rfl
  have z1 : w2.cell? ⟨w.heap.size, 1, none⟩ = some (.bool mir) := (cell_of hk 1).trans rfl
  clear hb hk HK HB
  go_wp2_with (fail)
  refine (larchref18_IsMove.calls kind mir false _ H3.out).mono ?_
  rintro _ w3 ⟨rfl, hb⟩
  have HB3 := Am (bel_t' HB2.out hb)
  clear hb HB2 HK2 z0 z1
  go_wp2
  go_ret3
  exact ⟨none, rfl, rfl, HB3.out⟩
 ·have H1 := Am h1
  have H3 := Am h2
  have H2 := Am h3
  have HM := Am h4
  have HF := Am hf
  have H6 := Am h6
  clear h1 h2 h3 h4 hf h6
  go_enter Try.func52, Try.ntmps52
  go_wp2_with (fail)
  refine (larchref16_Check.calls k A0 c0 t 0 _ (Kd.C_below HR0.out (ba (Below.refl _ _) _)) HC0.out H1.out).mono ?_
  rintro _ w1 ⟨rfl, hb⟩
  have hk := (hb.block w.heap.size (by simp)).trans (heap_alloc_new w (.cells #[.int .i64 kind, .bool mir] 24))
  have HB := Am ((ba (Below.refl w.heap.size w) _).trans (hb.mono (by simp)))
  have HK := Am hk
  clear hb hk
  go_wp2_with (fail)
  refine (larchref16_Root.calls k A0 c0 t r 0 _ (Kd.C_below HR0.out HB.out) HC0.out H2.out).mono ?_
  rintro _ w2 ⟨rfl, hb⟩
  have hk := (hb.block w.heap.size (blk_lt HK.out)).trans HK.out
  have HB2 := Am (bel_t' HB.out hb)
  have HK2 := Am hk
  have z0 : w2.cell? ⟨w.heap.size, 0, none⟩ = some (.int .i64 kind) := (cell_of hk 0).trans rfl
  have z1 : w2.cell? ⟨w.heap.size, 1, none⟩ = some (.bool mir) := (cell_of hk 1).trans rfl
  clear hb hk HK HB
  go_wp2_with (fail)
  refine (larchref18_IsMove.calls kind mir true _ H3.out).mono ?_
  rintro _ w3 ⟨rfl, hb⟩
  have HB3 := Am (bel_t' HB2.out hb)
  clear hb HB2 HK2 z0 z1
  go_wp2_with (fail)
  refine (rgrow_any A0 c0 t HF.out _ r X0 _ (Kd.C_below HR0.out HB3.out) HC0.out HM.out).mono ?_
  rintro _ w4 ⟨p1, rfl, h1, hb⟩
  have HB4 := Am (bel_t' HB3.out hb)
  have HT := Am h1
  clear hb h1 HB3
  go_wp2_with (fail)
  refine (rplace_any a X0 _ _ HT.out).mono ?_
  rintro _ w5 ⟨p2, rfl, h1, rfl⟩
  rcases H6.out with ⟨e1, rfl, rfl, rfl⟩ | ⟨e1, e2, rfl, rfl⟩
  ·rw [e1] at h1
   obtain ⟨rfl⟩ := h1
   go_wp2
   go_ret3
   exact ⟨none, rfl, rfl, HB4.out⟩
  ·rw [e1] at h1
   obtain ⟨ad, e3⟩ := h1.some e2
   cases e3
   have HX := Am (Rp.mono (S' := fun _ => True) (fun _ _ => trivial) h1)
   clear h1 e1
   go_wp2
   go_ret3
   exact ⟨_, rfl, HX.out, HB4.out⟩
end Go.Proofs.Ytgleaefhflamnaa.T
/- The reference's side, Can, Here, Spots. -/
namespace Go.Proofs.Ytgleaefhflamnaa.T
open Go.RowKit Go.Proofs.YtgleaefhflamnaaW.PrintWords Go.Proofs.YtgleaefhflamnaaW.PrintLast Go.Proofs.YtgleaefhflamnaaW.PrintMore
set_option linter.unusedVariables false
set_option linter.unusedSimpArgs false
def sideT (mir : Bool) (X : Tr) : Tr := if mir then mirT X else X
set_option maxHeartbeats 2000000 in
set_option maxRecDepth 100000 in
theorem side_any (p : Option Addr) (X : Tr) (kind : Int) (mir : Bool) (w : World) (h : Rp (fun _ => True) w (.pointer p) X) :
  Calls Try.prog 54 #[.pointer p, .agg #[.int .i64 kind, .bool mir]] w fun e w' => ∃ q, e = .returned (.pointer q) ∧ Rp (fun _ => True) w' (.pointer q) (sideT mir X) ∧ Below w.heap.size w w' := by
 have hu24 := Try.underlying24
 have H := Am h
 clear h
 cases mir with
 | false =>
  go_enter Try.func54, Try.ntmps54
  go_wp2
  go_ret
  exact ⟨_, rfl, H.out.below (ba (Below.refl _ _) _), ba (Below.refl _ _) _⟩
 | true =>
  go_enter Try.func54, Try.ntmps54
  go_wp2_with (fail)
  refine (rmirrored_any X _ _ (H.out.below (ba (Below.refl _ _) (.cells #[.int .i64 kind, .bool true] 24)))).mono ?_
  rintro _ w1 ⟨q, rfl, h1, hb⟩
  have H1 := Am h1
  have HB := Am ((ba (Below.refl w.heap.size w) _).trans (hb.mono (by simp)))
  clear h1 hb
  go_wp2
  go_ret
  exact ⟨_, rfl, H1.out, HB.out⟩
theorem rcan_all (p : Option Addr) (T : Tr) (rt : Bool) (w : World) (Hx : Aside0 (Rp (fun _ => True) w (.pointer p) T)) (kind : Int) (hk : 1 ≤ kind ∧ kind ≤ 12) :
  Calls Try.prog 53 #[.pointer p, .int .i64 kind, .bool rt] w fun e w' => e = .returned (.bool (canT false rt T kind)) ∧ w' = w := by
 have hd : kind = 1 ∨ kind = 2 ∨ kind = 3 ∨ kind = 4 ∨ kind = 5 ∨ kind = 6 ∨ kind = 7 ∨ kind = 8 ∨ kind = 9 ∨ kind = 10 ∨ kind = 11 ∨ kind = 12 := by omega
 rcases hd with rfl | rfl | rfl | rfl | rfl | rfl | rfl | rfl | rfl | rfl | rfl | rfl
 ·exact rcan1_any p T rt w Hx
 ·exact rcan2_any p T rt w Hx
 ·exact rcan3_any p T rt w Hx
 ·exact rcan4_any p T rt w Hx
 ·exact rcan5_any p T rt w Hx
 ·exact rcan6_any p T rt w Hx
 ·exact rcan7_any p T rt w Hx
 ·exact rcan8_any p T rt w Hx
 ·exact rcan9_any p T rt w Hx
 ·exact rcan10_any p T rt w Hx
 ·exact rcan11_any p T rt w Hx
 ·exact rcan12_any p T rt w Hx
theorem side_can (mir rt : Bool) {X : Tr} (h : Ok X) (kind : Int) : canT false rt (sideT mir X) kind = canT mir rt X kind := by
 cases mir with
 | false => rfl
 | true => exact mir_can true rt (two_ok h) kind
theorem c2_of {W : World} {g : Nat} {t : TypeId} {a b : Value} (h : W.heap[g]? = some (.cells #[a, b] t (0, 0))) : W.cell? ⟨g, 0, none⟩ = some a ∧ W.cell? ⟨g, 1, none⟩ = some b := ⟨(cell_of h 0).trans rfl, (cell_of h 1).trans rfl⟩
set_option maxHeartbeats 4000000 in
set_option maxRecDepth 100000 in
theorem rCan_any (k : Nat) (A0 : Option Addr) (c0 : Nat) (t : List S34) (a kind : Int) (mir : Bool) (X : Tr) (rt : Bool) (e : Int) (c : Bool) (w : World) (hr0 : Kd.C k34 w A0 t.length t) (hc0 : t.length ≤ c0) (h : AskR k t a kind mir X rt e) (hc : e = 0 → Ok X ∧ (1 ≤ kind ∧ kind ≤ 12) ∧ canT mir rt X kind = c) (hc' : e ≠ 0 → c = false) :
  Calls Try.prog 24 #[.slice A0 t.length c0, .int .i64 a, .agg #[.int .i64 kind, .bool mir]] w fun ed w' => ed = .returned (.tuple #[.bool c, .int .i64 e]) ∧ Below w.heap.size w w' := by
 have hu24 := Try.underlying24
 have HR0 := Am hr0
 have HC0 := Am hc0
 have H := Am h
 have HC1 := Am hc
 have HC2 := Am hc'
 clear hr0 hc0 h hc hc'
 go_enter Try.func24, Try.ntmps24
 go_wp2_with (fail)
 refine (asked_any k A0 c0 t a kind mir X rt e _ (Kd.C_below HR0.out (ba (Below.refl _ _) (.cells #[.int .i64 kind, .bool mir] 24))) HC0.out H.out).mono ?_
 rintro _ w1 ⟨p, rfl, h1, hb⟩
 have hk := (hb.block w.heap.size (by simp)).trans (heap_alloc_new w (.cells #[.int .i64 kind, .bool mir] 24))
 have HB := Am ((ba (Below.refl w.heap.size w) _).trans (hb.mono (by simp)))
 have HK := Am hk
 have HX := Am h1
 clear h1 hb hk H
 by_cases he : e = 0
 rotate_left
 ·have q1 : (e != 0) = true := by simpa using he
  obtain rfl := HC2.out he
  clear he HC1 HC2
  go_wp2
  go_ret2
  exact ⟨rfl, HB.out⟩
 ·subst he
  obtain ⟨h1, h2, h3⟩ := HC1.out rfl
  have HC := Am ((side_can mir rt h1 kind).trans h3)
  have HKD := Am h2
  clear h1 h2 h3 HC1 HC2
  go_wp2
  refine start_ (n := 9) (S := fun W' => W'.heap[w.heap.size]? = some (.cells #[.int .i64 kind, .bool mir] 24 (0, 0))) (ds := []) #[false, false, false, false, false, false, false, false, false] (by kernel_rfl) rfl rfl HK.out (fun hHeld => ?_)
  refine pu 0 22 ?_
  refine ta 1 23 hHeld (hy := by intro w' hs; obtain ⟨y0, y1⟩ := c2_of hs; go_simp; with_reducible rfl) ?_
  refine pu 3 25 ?_
  refine ta 4 26 hHeld (hy := by intro w' hs; obtain ⟨y0, y1⟩ := c2_of hs; go_simp; with_reducible rfl) ?_
  refine pu 5 27 ?_
  refine one_ (i := 2) (N := some 24) #[true, true, true, true, true, true, false, false, false] rfl rfl (by kernel_rfl) (by decide) (fun K hK => ?_)
  refine goes_ Try.func54 (by kernel_rfl) rfl #[.pointer p, .agg #[.int .i64 kind, .bool mir]] (by rfl) rfl rfl (by (try simp only [List.map_toArray, List.map_cons, List.map_nil]); first | done | rfl) ?_
  refine (side_any p X kind mir _ (HX.out.below ((Below.refl _ _).drew))).mono ?_
  rintro _ w2 ⟨q, rfl, h2, hb2⟩
  have HK2 := Am ((hb2.block w.heap.size (blk_lt hHeld)).trans hHeld)
  have H2 := Am h2
  have HB2 := Am (bel_t' (below_drew HB.out) hb2)
  clear h2 hb2
  refine ⟨_, rfl, ?_⟩
  refine hK.out _ _ HK2.out (fun hHeld => ?_)
  clear hK K
  refine norm_ (a' := ?_) ?_ ?_
  rotate_left
  ·show Act.put _ (some 24) _ = _
   simp only [Act.put, sI, sZ, sS]
   rfl
  refine one_ (i := 6) (N := some 28) #[true, true, true, true, true, true, true, false, false] rfl rfl (by kernel_rfl) (by decide) (fun K hK => ?_)
  refine goes_ Try.func53 (by kernel_rfl) rfl #[.pointer q, .int .i64 kind, .bool rt] (by rfl) rfl rfl (by (try simp only [List.map_toArray, List.map_cons, List.map_nil]); first | done | rfl) ?_
  refine (rcan_all q (sideT mir X) rt _ H2 kind HKD.out).mono ?_
  rintro _ w3 ⟨rfl, rfl⟩
  rw [HC.out]
  refine ⟨_, rfl, ?_⟩
  refine hK.out _ _ HK2.out (fun hHeld => ?_)
  clear hK K
  refine norm_ (a' := ?_) ?_ ?_
  rotate_left
  ·show Act.put _ (some 28) _ = _
   simp only [Act.put, sI, sZ, sS]
   rfl
  refine pu 7 6 ?_
  refine pu 8 7 ?_
  refine done_ (by kernel_rfl) ?_
  go_wp2
  go_ret2
  exact ⟨rfl, HB2.out⟩
end Go.Proofs.Ytgleaefhflamnaa.T
/- The reference's side, Can, Here, Spots. -/
namespace Go.Proofs.Ytgleaefhflamnaa.T
open Go.RowKit Go.Proofs.YtgleaefhflamnaaW.PrintWords Go.Proofs.YtgleaefhflamnaaW.PrintLast Go.Proofs.YtgleaefhflamnaaW.PrintMore
set_option linter.unusedVariables false
set_option linter.unusedSimpArgs false
def allM : List S24 := [⟨1, false⟩, ⟨2, false⟩, ⟨2, true⟩, ⟨3, false⟩, ⟨3, true⟩, ⟨4, false⟩, ⟨4, true⟩, ⟨5, false⟩, ⟨5, true⟩, ⟨6, false⟩, ⟨6, true⟩, ⟨7, false⟩, ⟨7, true⟩, ⟨8, false⟩, ⟨8, true⟩, ⟨9, false⟩, ⟨9, true⟩, ⟨10, false⟩, ⟨10, true⟩, ⟨11, false⟩, ⟨12, false⟩]
theorem all_f : larchref18_All.f 20 = some allM := by kernel_rfl
theorem allM_ok : ∀ i, i < 21 → larchref18_IsMove.f (allM.getD i z24).f0 (allM.getD i z24).f1 = some true ∧ 1 ≤ (allM.getD i z24).f0 ∧ (allM.getD i z24).f0 ≤ 12 := by decide
def hereL (rt : Bool) (X : Tr) : List S24 := allM.filter (fun m => canT m.f1 rt X m.f0)
theorem take_filter {α : Type} (P : α → Bool) (l : List α) (i : Nat) (d : α) (h : i < l.length) : (l.take (i + 1)).filter P = (l.take i).filter P ++ (if P (l.getD i d) then [l.getD i d] else []) := by
 rw [← List.take_append_getElem h, List.filter_append, List.filter_cons, List.filter_nil, List.getD, List.getElem?_eq_getElem h, Option.getD_some]
theorem ask_move {k : Nat} {t : List S34} {a kind : Int} {mir : Bool} {X : Tr} {rt : Bool} (h : AskR k t a 1 false X rt 0) (hm : larchref18_IsMove.f kind mir = some true) : AskR k t a kind mir X rt 0 := by
 rcases h with ⟨_, h2, _⟩ | ⟨_, r, _, h3, _⟩ | ⟨_, r, _, _, _, _, h6⟩ | ⟨h1, h2, h3, h4⟩
 ·exact absurd h2 (by simp)
 ·exact absurd h3 (by simp)
 ·exact absurd h6 (by decide)
 ·exact .inr (.inr (.inr ⟨h1, hm, h3, h4⟩))
set_option maxHeartbeats 4000000 in
set_option maxRecDepth 100000 in
theorem rHere_any (k : Nat) (A0 : Option Addr) (c0 : Nat) (t : List S34) (a : Int) (X : Tr) (rt : Bool) (e : Int) (L : List S24) (w : World) (hr0 : Kd.C k34 w A0 t.length t) (hc0 : t.length ≤ c0) (h : AskR k t a 1 false X rt e) (hL : e = 0 → Ok X ∧ hereL rt X = L) (hL' : e ≠ 0 → L = []) :
  Calls Try.prog 26 #[.slice A0 t.length c0, .int .i64 a] w fun ed w' => ∃ v, ed = .returned (.tuple #[v, .int .i64 e]) ∧ Kd.R k24 24 w' w.heap.size (fun _ => True) v L ∧ Below w.heap.size w w' := by
 have hu24 := Try.underlying24
 have HR0 := Am hr0
 have HC0 := Am hc0
 have H := Am h
 have HL1 := Am hL
 have HL2 := Am hL'
 clear hr0 hc0 h hL hL'
 go_enter Try.func26, Try.ntmps26
 go_wp2_with (fail)
 refine (asked_any k A0 c0 t a 1 false X rt e _ HR0.out HC0.out H.out).mono ?_
 rintro _ w1 ⟨p, rfl, h1, hb⟩
 have HB := Am hb
 clear h1 hb
 by_cases he : e = 0
 rotate_left
 ·have q1 : (e != 0) = true := by simpa using he
  obtain rfl := HL2.out he
  clear he HL1 HL2
  go_wp2
  go_ret2
  exact ⟨_, rfl, Kd.R_nil _ _ _ _ _, HB.out⟩
 ·subst he
  obtain ⟨h1, h2⟩ := HL1.out rfl
  have HX := Am h1
  have HLL := Am h2
  clear h1 h2 HL1 HL2
  go_wp2_with (fail)
  refine (larchref18_All.calls 20 allM _ all_f).mono ?_
  rintro _ w2 ⟨vl, rfl, ho, hb⟩
  obtain ⟨Al, cl, rfl⟩ := Kd.R_slice ho
  have HL := Am (Kd.R_reads' ho).2.2
  have HB2 := Am (bel_t' HB.out hb)
  clear ho hb HB
  have h21 : allM.length = 21 := rfl
  go_wp2
  go_loopg [9, 11] 22 (fun kq v9 v11 w' => ∃ i : Nat, v11 = .int .i64 i ∧ Aside0 (i ≤ 21 ∧ kq + i = 22) ∧ Aside0 (Kd.R k24 24 w' w2.heap.size (fun _ => True) v9 ((allM.take i).filter (fun m => canT m.f1 rt X m.f0))) ∧ Aside0 (Below w2.heap.size w2 w'))
  case atStart => exact ⟨0, rfl, ⟨by decide, rfl⟩, ⟨Kd.R_nil _ _ _ _ _⟩, ⟨Below.refl _ _⟩⟩
  case round =>
   obtain ⟨i, rfl, HI, HO, HW⟩ := hrel
   obtain ⟨kq1, rfl⟩ : ∃ x, gk = x + 1 := ⟨gk - 1, by have := HI.out; omega⟩
   by_cases q1 : i < 21
   ·obtain ⟨m1, m2, m3⟩ := allM_ok i q1
    obtain ⟨ad1, e1, x0, x1⟩ := at_T24 (Kd.C_below HL.out HW.out) (i : Int) (by omega) (by omega)
    cases e1
    rw [Int.toNat_natCast, show rd_T24 allM (i : Int) = allM.getD i z24 from rfl] at x0 x1
    have p5 : (0 ≤ (i : Int)) = True := eq_true (by omega)
    have p6 : ((i : Int) < (allM.length : Int)) = True := eq_true (by omega)
    have p7 : decide ((i : Int) < (allM.length : Int)) = true := decide_eq_true (by omega)
    have hstep := take_filter (fun m : S24 => canT m.f1 rt X m.f0) allM i z24 (by omega)
    generalize hm : allM.getD i z24 = m at m1 m2 m3 x0 x1 hstep
    have HLn : Aside0 (((allM.take i).filter (fun m => canT m.f1 rt X m.f0)).length ≤ 21) := ⟨Nat.le_trans (List.length_filter_le _ _) (by rw [List.length_take]; omega)⟩
    have HS := Am hstep
    have HAk := Am (ask_move H.out m1)
    have HM := Am (And.intro m2 m3)
    have HG := Am hm
    clear m1 m2 m3 hstep hm h21
    go_wp2_with (fail)
    refine (rCan_any k A0 c0 t a m.f0 m.f1 X rt 0 (canT m.f1 rt X m.f0) _ (Kd.C_below HR0.out (HB2.out.trans (HW.out.mono HB2.out.size))) HC0.out HAk.out (fun _ => ⟨HX.out, HM.out, rfl⟩) (fun h => absurd rfl h)).mono ?_
    rintro _ w4 ⟨rfl, hb⟩
    have HW4 := Am (HW.out.trans (hb.mono HW.out.size))
    have HO4 := Am (Kd.R_below HO.out hb)
    clear hb HW HO x0 x1
    obtain ⟨ad1', e1, x0, x1⟩ := at_T24 (Kd.C_below HL.out HW4.out) (i : Int) (by omega) (by have : allM.length = 21 := rfl; omega)
    cases e1
    rw [Int.toNat_natCast, show rd_T24 allM (i : Int) = allM.getD i z24 from rfl, HG.out] at x0 x1
    cases hc : canT m.f1 rt X m.f0
    ·go_wp2
     go_roundg kq1
     case measure => omega
     case rel => exact ⟨i + 1, by first | rfl | (rw [Go.IntWalk.wrap64_in _ (by omega)]; rfl), ⟨by omega, by have := HI.out.2; omega⟩, ⟨by rw [HS.out, hc, if_neg (by simp), List.append_nil]; exact HO4.out⟩, ⟨HW4.out⟩⟩
    ·go_wp2_with (first | ((with_reducible refine gate_builtin (b := .append) (xs := #[.tmp 43, .tmp 48]) rfl ?_); at_builtin; refine Kd.R_append k24 (w0 := w2) w2.heap.size rfl (.tmp 43) (.tmp 48) 37 24 (.agg #[(.int .i64 0), (.bool false)]) 16 rfl Try.underlying37 info24 rfl (by decide) (by omega) u9 ((allM.take i).filter (fun m => canT m.f1 rt X m.f0)) m [.int .i64 m.f0, .bool m.f1] (fun _ => True) (fun _ => False) rfl rfl ?aP (fun _ hk => hk.elim) ?aF ?aO ?aB ?aS ?aL ?_; (case aP => exact k24_mkM _ _ _ m); (case aB => exact HW4.out); (case aF => exact (fun _ _ => trivial)); (case aO => exact HO4.out); (case aS => exact (below_size HW4.out)); (case aL => have := HLn.out; omega); intro vN wN hoN hbN hgN hatN; have HoN := Am hoN; have HbN := Am hbN; clear hoN hbN hgN hatN))
     go_roundg kq1
     case measure => omega
     case rel => exact ⟨i + 1, by first | rfl | (rw [Go.IntWalk.wrap64_in _ (by omega)]; rfl), ⟨by omega, by have := HI.out.2; omega⟩, ⟨by rw [HS.out, hc, if_pos rfl]; exact HoN.out⟩, ⟨HbN.out⟩⟩
   ·have p7 : decide ((i : Int) < (allM.length : Int)) = false := decide_eq_false (by omega)
    have hi := HI.out.1
    have HO9 := Am (show Kd.R k24 24 wr w2.heap.size (fun _ => True) u9 L by
     have := HO.out
     rw [List.take_of_length_le (by omega)] at this
     rw [← HLL.out]
     exact this)
    clear HO
    go_wp2
    go_ret2
    exact ⟨_, rfl, Kd.R_lower HO9.out HB2.out.size, HB2.out.trans (HW.out.mono HB2.out.size)⟩
end Go.Proofs.Ytgleaefhflamnaa.T
/- The reference's Spots. -/
namespace Go.Proofs.Ytgleaefhflamnaa.T
open Go.RowKit Go.Proofs.YtgleaefhflamnaaW.PrintWords Go.Proofs.YtgleaefhflamnaaW.PrintLast Go.Proofs.YtgleaefhflamnaaW.PrintMore
set_option linter.unusedVariables false
set_option linter.unusedSimpArgs false
theorem R_okv {e : Nat} {w : World} {base : Nat} {ok : Nat → Prop} {v : Value} {xs : List S24} (h : Kd.R k24 e w base ok v xs) {Q : Nat → Prop} (hQ : ∀ k, v.ownBlock = some k → Q k) : Kd.R k24 e w base Q v xs := by
 obtain ⟨h1, cs, h2, h3, h4⟩ := h
 refine ⟨hQ, cs, h2, h3, fun j p hj => ?_⟩
 have e := k24_openM (h4 j p hj)
 rw [e]
 exact k24_mkM _ _ _ p
theorem R_ok {e : Nat} {w : World} {base : Nat} {ok : Nat → Prop} {v : Value} {xs : List S24} (h : Kd.R k24 e w base ok v xs) {Q : Nat → Prop} (hQ : ∀ k, base ≤ k → Q k) : Kd.R k24 e w base Q v xs := by
 refine R_okv h (fun k hk => ?_)
 obtain ⟨h1, cs, h2, h3, h4⟩ := h
 rcases h2.2 with ⟨rfl, _⟩ | ⟨g, c, cur, rfl, hg, _⟩
 ·simp [Value.ownBlock] at hk
 ·simp only [Value.ownBlock, Option.some.injEq] at hk
  exact hQ k (by omega)
theorem R_sym {e e' : Nat} {w w' : World} {b b' : Nat} {ok : Nat → Prop} {v v' : Value} {xs xs' : List S24} (h : Kd.R k24 e w b ok v xs) (h' : Kd.R k24 e' w' b' (fun k => some k ≠ v.ownBlock) v' xs') : Kd.R k24 e w b (fun k => some k ≠ v'.ownBlock) v xs :=
 R_okv h (fun k hk e => h'.1 k e.symm hk.symm)
def spM (H : Nat → List S24) (n : Nat) : List S24 := (List.range n).flatMap H
def spP (H : Nat → List S24) (n : Nat) : List Int := (List.range n).flatMap (fun i => List.replicate (H i).length (i : Int))
theorem spM_succ (H : Nat → List S24) (n : Nat) : spM H (n + 1) = spM H n ++ H n := by simp [spM, List.range_succ]
theorem spP_succ (H : Nat → List S24) (n : Nat) : spP H (n + 1) = spP H n ++ List.replicate (H n).length (n : Int) := by simp [spP, List.range_succ]
theorem sp_len {H : Nat → List S24} (h : ∀ i, (H i).length ≤ 21) : ∀ n, (spM H n).length ≤ 21 * n ∧ (spP H n).length ≤ 21 * n
 | 0 => ⟨by simp [spM], by simp [spP]⟩
 | n + 1 => by
  obtain ⟨h1, h2⟩ := sp_len h n
  have := h n
  rw [spM_succ, spP_succ, List.length_append, List.length_append, List.length_replicate]
  omega
theorem rspots_err (k : Nat) (A0 : Option Addr) (c0 : Nat) (t : List S34) (e : Int) (w : World) (hr0 : Kd.C k34 w A0 t.length t) (hc0 : t.length ≤ c0) (h : (larchref16_Check.f k t = some e ∧ (e != 0) = true) ∨ (larchref16_Check.f k t = some 0 ∧ ∃ r, larchref16_Root.f k t = some (r, e) ∧ (e != 0) = true)) :
  Calls Try.prog 15 #[.slice A0 t.length c0] w fun ed w' => ed = .returned (.tuple #[.slice none 0 0, .slice none 0 0, .int .i64 e]) ∧ Below w.heap.size w w' := by
 have HR0 := Am hr0
 have HC0 := Am hc0
 clear hr0 hc0
 rcases h with ⟨h1, h2⟩ | ⟨h1, r, h2, h3⟩
 ·have H1 := Am h1
  clear h1
  go_enter Try.func15, Try.ntmps15
  go_wp2_with (fail)
  refine (larchref16_Check.calls k A0 c0 t e _ HR0.out HC0.out H1.out).mono ?_
  rintro _ w1 ⟨rfl, hb⟩
  have HB := Am hb
  clear hb
  go_wp2
  go_ret3
  exact ⟨rfl, HB.out⟩
 ·have H1 := Am h1
  have H2 := Am h2
  clear h1 h2
  go_enter Try.func15, Try.ntmps15
  go_wp2_with (fail)
  refine (larchref16_Check.calls k A0 c0 t 0 _ HR0.out HC0.out H1.out).mono ?_
  rintro _ w1 ⟨rfl, hb⟩
  have HB := Am hb
  clear hb
  go_wp2_with (fail)
  refine (larchref16_Root.calls k A0 c0 t r e _ (Kd.C_below HR0.out HB.out) HC0.out H2.out).mono ?_
  rintro _ w2 ⟨rfl, hb⟩
  have HB2 := Am (bel_t' HB.out hb)
  clear hb HB
  go_wp2
  go_ret3
  exact ⟨rfl, HB2.out⟩
set_option maxHeartbeats 8000000 in
set_option maxRecDepth 100000 in
theorem rspots_ok (k : Nat) (A0 : Option Addr) (c0 : Nat) (t : List S34) (r : Int) (H : Nat → List S24) (w : World) (hr0 : Kd.C k34 w A0 t.length t) (hc0 : t.length ≤ c0) (hlen : t.length ≤ 1000) (h1 : larchref16_Check.f k t = some 0) (h2 : larchref16_Root.f k t = some (r, 0)) (h21 : ∀ i, (H i).length ≤ 21)
  (hA : ∀ i : Nat, i < t.length → ∃ X rt e, AskR k t i 1 false X rt e ∧ (e = 0 → Ok X ∧ hereL rt X = H i) ∧ (e ≠ 0 → H i = [])) :
  Calls Try.prog 15 #[.slice A0 t.length c0] w fun ed w' => ∃ v1 v2, ed = .returned (.tuple #[v1, v2, .int .i64 0]) ∧ Kd.R (Kd.int .i64) 3 w' w.heap.size (fun _ => True) v1 (spP H t.length) ∧ Kd.R k24 24 w' w.heap.size (fun _ => True) v2 (spM H t.length) ∧ Below w.heap.size w w' := by
 have hu24 := Try.underlying24
 have HR0 := Am hr0
 have HC0 := Am hc0
 have H1 := Am h1
 have H2 := Am h2
 have H21 := Am h21
 have HA := Am hA
 have HLN := Am hlen
 clear hr0 hc0 h1 h2 hA h21 hlen
 go_enter Try.func15, Try.ntmps15
 go_wp2_with (fail)
 refine (larchref16_Check.calls k A0 c0 t 0 _ HR0.out HC0.out H1.out).mono ?_
 rintro _ w1 ⟨rfl, hb⟩
 have HB := Am hb
 clear hb
 go_wp2_with (fail)
 refine (larchref16_Root.calls k A0 c0 t r 0 _ (Kd.C_below HR0.out HB.out) HC0.out H2.out).mono ?_
 rintro _ w2 ⟨rfl, hb⟩
 have HB2 := Am (bel_t' HB.out hb)
 clear hb HB
 go_wp2
 go_loopg [8, 9, 10] (t.length + 1) (fun kq v8 v9 v10 w' => ∃ i : Nat, v10 = .int .i64 i ∧ Aside0 (i ≤ t.length ∧ kq + i = t.length + 1) ∧ Aside0 (Kd.R (Kd.int .i64) 3 w' w.heap.size (fun _ => True) v8 (spP H i)) ∧ Aside0 (Kd.R k24 24 w' w.heap.size (fun _ => True) v9 (spM H i)) ∧ Aside0 (Below w.heap.size w w'))
 case atStart => exact ⟨0, rfl, ⟨Nat.zero_le _, rfl⟩, ⟨Kd.R_nil _ _ _ _ _⟩, ⟨Kd.R_nil _ _ _ _ _⟩, HB2⟩
 case round =>
  clear HB2
  obtain ⟨i, rfl, HI, HP, HM, HW⟩ := hrel
  obtain ⟨kq1, rfl⟩ : ∃ x, gk = x + 1 := ⟨gk - 1, by have := HI.out; omega⟩
  by_cases q1 : i < t.length
  ·obtain ⟨X, rt, e, ha, hb1, hb2⟩ := HA.out i q1
   have p7 : decide ((i : Int) < (t.length : Int)) = true := decide_eq_true (by omega)
   have p6 : decide (i < t.length) = true := decide_eq_true q1
   have hl21 := H21.out i
   have hspl := sp_len H21.out i
   have HSP := Am (And.intro hspl.1 hspl.2)
   have HI1 := Am (show i < t.length from q1)
   generalize hL : H i = L at hb1 hb2 hl21
   have HLL := Am hL
   have HL21 := Am hl21
   have HE1 := Am hb2
   have hcall := fun (W : World) (hC : Kd.C k34 W A0 t.length t) => rHere_any k A0 c0 t i X rt e L W hC HC0.out ha hb1 hb2
   have HCA := Am hcall
   clear ha hb1 hb2 hL hl21 hspl hcall q1
   generalize hP : spP H i = P at *
   generalize hM : spM H i = M at *
   have HPP := Am hP
   have HMM := Am hM
   clear hP hM
   go_wp2_with (fail)
   refine (HCA.out _ (Kd.C_below HR0.out HW.out)).mono ?_
   rintro _ w4 ⟨vl, rfl, ho, hb⟩
   have hlt9 := Kd.R_lt HM.out
   obtain ⟨Al, cl, rfl⟩ := Kd.R_slice ho
   have HLr0 := Am (Kd.R_lower (R_ok ho (Q := fun k_ => some k_ ≠ (u9 : Value).ownBlock) (fun k_ hk => Kd.fresh' hlt9 k_ hk)) HW.out.size)
   have HP0 := Am (Kd.R_below HP.out hb)
   have HM0 := Am (Kd.R_below HM.out hb)
   have HW0 := Am (HW.out.trans (hb.mono HW.out.size))
   clear ho hb HP HM HW HCA hlt9 p7 p6
   go_wp2
   go_loopg [8, 9, 13] (L.length + 1) (fun kq v8 v9 v13 w' => ∃ n : Nat, v13 = .int .i64 n ∧ Aside0 (n ≤ L.length ∧ kq + n = L.length + 1) ∧ Aside0 (Kd.R (Kd.int .i64) 3 w' w.heap.size (fun _ => True) v8 (P ++ List.replicate n (i : Int))) ∧ Aside0 (Kd.R k24 24 w' w.heap.size (fun k_ => some k_ ≠ (.slice Al L.length cl : Value).ownBlock) v9 (M ++ L.take n)) ∧ Aside0 (Kd.R k24 24 w' w.heap.size (fun k_ => some k_ ≠ (v9 : Value).ownBlock) (.slice Al L.length cl) L) ∧ Aside0 (Below w.heap.size w w'))
   case atStart => exact ⟨0, rfl, ⟨Nat.zero_le _, rfl⟩, ⟨by simpa using HP0.out⟩, ⟨by simpa using R_sym HM0.out HLr0.out⟩, HLr0, HW0⟩
   case round =>
    clear HP0 HM0 HLr0 HW0
    obtain ⟨n, rfl, HN, HP, HM, HLr, HW⟩ := hrel
    obtain ⟨kq2, rfl⟩ : ∃ x, gk = x + 1 := ⟨gk - 1, by have := HN.out; omega⟩
    by_cases q2 : n < L.length
    ·have he : e = 0 := Decidable.byContradiction fun h => by rw [HE1.out h] at q2; simp at q2
     subst he
     have p8 : decide ((n : Int) < (L.length : Int)) = true := decide_eq_true (by omega)
     have p11 : decide (n < L.length) = true := decide_eq_true q2
     have p9 : (0 ≤ (n : Int)) = True := eq_true (by omega)
     have p10 : ((n : Int) < (L.length : Int)) = True := eq_true (by omega)
     obtain ⟨ad1, e1, -, -⟩ := at_T24 (Kd.R_reads' HLr.out).2.2 (n : Int) (by omega) (by omega)
     subst e1
     generalize hm : L.getD n z24 = m
     have HG := Am hm
     have HS : Aside0 (P.length + n ≤ 30000 ∧ M.length + n ≤ 30000 ∧ L.length ≤ 21) := ⟨by have := HSP.out; have := HLN.out; have := HL21.out; have := HI.out; omega⟩
     have htk : L.take (n + 1) = L.take n ++ [m] := by rw [← hm, List.getD, List.getElem?_eq_getElem q2, Option.getD_some, List.take_append_getElem q2]
     have HTK := Am htk
     clear hm htk
     go_wp2_with (first | ((with_reducible refine gate_builtin (b := .append) (xs := #[.tmp 49, .tmp 51]) rfl ?_); at_builtin; refine Kd.R_append (Kd.int .i64) (w0 := w) w.heap.size rfl (.tmp 49) (.tmp 51) 31 3 (.int .i64 0) 8 rfl Try.underlying31 info3 rfl (by decide) (by omega) u8 (P ++ List.replicate n (i : Int)) (i : Int) [.int .i64 (i : Int)] (fun _ => True) (fun _ => False) rfl rfl ?aP (fun _ hk => hk.elim) ?aF ?aO ?aB ?aS ?aL ?_; (case aP => exact rfl); (case aB => exact HW.out); (case aF => exact (fun _ _ => trivial)); (case aO => exact HP.out); (case aS => exact (below_size HW.out)); (case aL => have := HS.out; simp only [List.length_append, List.length_replicate]; omega); intro vN wN hoN hbN hgN hatN; have HoN := Am hoN; have HbN := Am hbN; have HM1 := Am (Kd.R_over' HM.out (Kd.R_typed HP.out) (by decide) hgN); have HLr1 := Am (Kd.R_over' HLr.out (Kd.R_typed HP.out) (by decide) hgN); clear hoN hbN hgN hatN; obtain ⟨ad2, e2, x0, x1⟩ := at_T24 (Kd.R_reads' HLr1.out).2.2 (n : Int) (by omega) (by omega); cases e2; rw [Int.toNat_natCast, show rd_T24 L (n : Int) = L.getD n z24 from rfl, HG.out] at x0 x1) | ((with_reducible refine gate_builtin (b := .append) (xs := #[.tmp 53, .tmp 58]) rfl ?_); at_builtin; refine Kd.R_append k24 (w0 := w) w.heap.size rfl (.tmp 53) (.tmp 58) 37 24 (.agg #[(.int .i64 0), (.bool false)]) 16 rfl Try.underlying37 info24 rfl (by decide) (by omega) u9 (M ++ L.take n) m [.int .i64 m.f0, .bool m.f1] (fun k_ => some k_ ≠ (.slice (some ad1) L.length cl : Value).ownBlock) (fun _ => False) rfl rfl ?aP (fun _ hk => hk.elim) ?aF ?aO ?aB ?aS ?aL ?_; (case aP => exact k24_mkM _ _ _ m); (case aB => exact HbN.out); (case aF => exact (fun k_ hk => Kd.fresh' (Kd.R_lt HLr1.out) k_ hk)); (case aO => exact HM1.out); (case aS => exact (below_size HbN.out)); (case aL => have := HS.out; simp only [List.length_append, List.length_take]; omega); intro vM wM hoM hbM hgM hatM; have HoM := Am hoM; have HbM := Am hbM; have HP2 := Am (Kd.R_over' HoN.out (Kd.R_typed HM1.out) (by decide) hgM); have HLr2 := Am (Kd.R_after (ok := (fun _ => True)) (Kd.R_mono HLr1.out (fun _ hk => ⟨trivial, hk⟩)) hgM hatM); clear hoM hbM hgM hatM))
     go_roundg kq2
     case measure => omega
     case rel => exact ⟨n + 1, by have := HL21.out; first | rfl | (rw [Go.IntWalk.wrap64_in _ (by omega)]; rfl), ⟨by omega, by have := HN.out.2; omega⟩, ⟨by rw [List.replicate_succ', ← List.append_assoc]; exact HP2.out⟩, ⟨by rw [HTK.out, ← List.append_assoc]; exact HoM.out⟩, ⟨R_sym HLr2.out HoM.out⟩, ⟨HbM.out⟩⟩
    ·have hn := HN.out.1
     have hi1 := HI1.out
     have hln := HLN.out
     have HP9 := Am (show Kd.R (Kd.int .i64) 3 wr w.heap.size (fun _ => True) u8 (spP H (i + 1)) by
      have := HP.out
      rw [show n = L.length by omega] at this
      rw [spP_succ, HLL.out, HPP.out]
      exact this)
     have HM9 := Am (show Kd.R k24 24 wr w.heap.size (fun _ => True) u9 (spM H (i + 1)) by
      have := R_okv HM.out (Q := fun _ => True) (fun _ _ => trivial)
      rw [List.take_of_length_le (by omega)] at this
      rw [spM_succ, HLL.out, HMM.out]
      exact this)
     clear HP HM HLr
     by_cases he : e = 0
     ·subst he
      have p8 : decide ((n : Int) < (L.length : Int)) = false := decide_eq_false (by omega)
      have p11 : decide (n < L.length) = false := decide_eq_false q2
      go_wp2
      go_roundg kq1
      case measure => omega
      case rel => exact ⟨i + 1, by first | rfl | (rw [Go.IntWalk.wrap64_in _ (by omega)]; rfl), ⟨by omega, by have := HI.out.2; omega⟩, HP9, HM9, HW⟩
     ·have p8 : (e == 0) = false := by simpa using he
      go_wp2
      go_roundg kq1
      case measure => omega
      case rel => exact ⟨i + 1, by first | rfl | (rw [Go.IntWalk.wrap64_in _ (by omega)]; rfl), ⟨by omega, by have := HI.out.2; omega⟩, HP9, HM9, HW⟩
  ·have p7 : decide ((i : Int) < (t.length : Int)) = false := decide_eq_false (by omega)
   have p6 : decide (i < t.length) = false := decide_eq_false q1
   have hi := HI.out.1
   have HP9 := Am (show Kd.R (Kd.int .i64) 3 wr w.heap.size (fun _ => True) u8 (spP H t.length) by
    have := HP.out
    rw [show i = t.length by omega] at this
    exact this)
   have HM9 := Am (show Kd.R k24 24 wr w.heap.size (fun _ => True) u9 (spM H t.length) by
    have := HM.out
    rw [show i = t.length by omega] at this
    exact this)
   clear HP HM
   go_wp2
   go_ret3
   exact ⟨_, _, rfl, HP9.out, HM9.out, HW.out⟩
end Go.Proofs.Ytgleaefhflamnaa.T
/- steps.here. -/
namespace Go.Proofs.Ytgleaefhflamnaa.T
open Go.RowKit Go.Proofs.YtgleaefhflamnaaW.PrintWords Go.Proofs.YtgleaefhflamnaaW.PrintLast Go.Proofs.YtgleaefhflamnaaW.PrintMore
set_option linter.unusedVariables false
set_option linter.unusedSimpArgs false
def allS : List S62 := allM.map (fun m => ⟨m.f0, m.f1⟩)
theorem sall_f : steps_All.f 20 = some allS := by kernel_rfl
theorem allS_ok : ∀ i, i < 21 → 1 ≤ (allS.getD i z62).f0 ∧ (allS.getD i z62).f0 ≤ 12 := by decide
def hereS (rt : Bool) (X : Tr) : List S62 := allS.filter (fun m => canT m.f1 rt X m.f0)
theorem hereS_map (rt : Bool) (X : Tr) : (hereS rt X).map (fun m => (⟨m.f0, m.f1⟩ : S24)) = hereL rt X := by
 have : ∀ l : List S24, ((l.map (fun m => (⟨m.f0, m.f1⟩ : S62))).filter (fun m => canT m.f1 rt X m.f0)).map (fun m => (⟨m.f0, m.f1⟩ : S24)) = l.filter (fun m => canT m.f1 rt X m.f0) := by
  intro l
  induction l with
  | nil => rfl
  | cons a l ih =>
   rw [List.map_cons, List.filter_cons, List.filter_cons]
   split
   ·rw [List.map_cons, ih]
   ·exact ih
 exact this allM
set_option maxHeartbeats 8000000 in
set_option maxRecDepth 100000 in
theorem here_any {S : Nat → Prop} (p : Option Addr) (T : Tr) (rt : Bool) (w : World) (h : Rep S w (.pointer p) T) :
  Calls Try.prog 50 #[.pointer p, .bool rt] w fun ed w' => ∃ v, ed = .returned v ∧ Kd.R k62 62 w' w.heap.size (fun _ => True) v (hereS rt T) ∧ Below w.heap.size w w' := by
 have hu62 := Try.underlying62
 have HT0 := Am h
 clear h
 go_enter Try.func50, Try.ntmps50
 go_wp2_with (fail)
 refine (steps_All.calls 20 allS _ sall_f).mono ?_
 rintro _ w2 ⟨vl, rfl, ho, hb⟩
 obtain ⟨Al, cl, rfl⟩ := Kd.R_slice ho
 have HL := Am (Kd.R_reads' ho).2.2
 have HB2 := Am hb
 have HT := Am (HT0.out.below hb)
 clear ho hb HT0
 have h21 : allS.length = 21 := rfl
 go_wp2
 go_loopg [5, 10] 22 (fun kq v5 v10 w' => ∃ i : Nat, v10 = .int .i64 i ∧ Aside0 (i ≤ 21 ∧ kq + i = 22) ∧ Aside0 (Kd.R k62 62 w' w2.heap.size (fun _ => True) v5 ((allS.take i).filter (fun m => canT m.f1 rt T m.f0))) ∧ Aside0 (Below w2.heap.size w2 w'))
 case atStart => exact ⟨0, rfl, ⟨by decide, rfl⟩, ⟨Kd.R_nil _ _ _ _ _⟩, ⟨Below.refl _ _⟩⟩
 case round =>
  obtain ⟨i, rfl, HI, HO, HW⟩ := hrel
  obtain ⟨kq1, rfl⟩ : ∃ x, gk = x + 1 := ⟨gk - 1, by have := HI.out; omega⟩
  by_cases q1 : i < 21
  ·obtain ⟨m2, m3⟩ := allS_ok i q1
   obtain ⟨ad1, e1, x0, x1⟩ := at_T62 (Kd.C_below HL.out HW.out) (i : Int) (by omega) (by omega)
   cases e1
   rw [Int.toNat_natCast, show rd_T62 allS (i : Int) = allS.getD i z62 from rfl] at x0 x1
   have p5 : (0 ≤ (i : Int)) = True := eq_true (by omega)
   have p6 : ((i : Int) < (allS.length : Int)) = True := eq_true (by omega)
   have p7 : decide ((i : Int) < (allS.length : Int)) = true := decide_eq_true (by omega)
   have hstep := take_filter (fun m : S62 => canT m.f1 rt T m.f0) allS i z62 (by omega)
   generalize hm : allS.getD i z62 = m at m2 m3 x0 x1 hstep
   have HLn : Aside0 (((allS.take i).filter (fun m => canT m.f1 rt T m.f0)).length ≤ 21) := ⟨Nat.le_trans (List.length_filter_le _ _) (by rw [List.length_take]; omega)⟩
   have HS := Am hstep
   have HM := Am (And.intro m2 m3)
   clear m2 m3 hstep hm h21
   go_wp2
   clear x0 x1 p5 p6 p7
   refine start_ (n := 7) (S := fun W' => Below w2.heap.size w2 W' ∧ W'.heap[wr.heap.size]? = some (.cells #[.int .i64 m.f0, .bool m.f1] 62 (0, 0)) ∧ Kd.R k62 62 W' w2.heap.size (fun _ => True) u5 ((allS.take i).filter (fun m => canT m.f1 rt T m.f0))) (ds := []) #[false, false, false, false, false, false, false] (by kernel_rfl) rfl rfl ⟨below_drew (ba HW.out _), heap_alloc_new wr _, Kd.R_drew (Kd.R_alloc HO.out _)⟩ (fun hHeld => ?_)
   refine pu 0 14 ?_
   refine ta 1 15 hHeld (hy := by intro w' hs; obtain ⟨y0, y1⟩ := c2_of hs.2.1; go_simp; with_reducible rfl) ?_
   refine pu 2 16 ?_
   refine pu 4 18 ?_
   refine ta 5 19 hHeld (hy := by intro w' hs; obtain ⟨y0, y1⟩ := c2_of hs.2.1; go_simp; with_reducible rfl) ?_
   refine one_ (i := 3) (N := some 17) #[true, true, true, true, true, true, false] rfl rfl (by kernel_rfl) (by decide) (fun K hK => ?_)
   refine goes_ Try.func63 (by kernel_rfl) rfl #[.pointer p, .agg #[.int .i64 m.f0, .bool m.f1], .bool rt] (by rfl) rfl rfl (by (try simp only [List.map_toArray, List.map_cons, List.map_nil]); first | done | rfl) ?_
   refine (look_any (S := S) p T m.f0 m.f1 rt _ (HT.out.below hHeld.1)).mono ?_
   rintro e w4 ⟨pl, pr, pll, plr, prl, prr, pa, pb, rfl, hb4, hl, hr, hll, hlr, hrl, hrr, ha, hb⟩
   have HS4 := Am (And.intro (hHeld.1.trans (hb4.mono hHeld.1.size)) (And.intro ((hb4.block wr.heap.size (blk_lt hHeld.2.1)).trans hHeld.2.1) (Kd.R_below hHeld.2.2 hb4)))
   have Hl := Am (hl.below hb4)
   have Hr := Am (hr.below hb4)
   have Hll := Am (hll.below hb4)
   have Hlr := Am (hlr.below hb4)
   have Hrl := Am (hrl.below hb4)
   have Hrr := Am (hrr.below hb4)
   have Ha := Am (ha.below hb4)
   have Hb := Am (hb.below hb4)
   clear hl hr hll hlr hrl hrr ha hb hb4
   refine ⟨_, rfl, ?_⟩
   refine hK.out _ _ HS4.out (fun hHeld => ?_)
   clear hK K
   refine norm_ (a' := ?_) ?_ ?_
   rotate_left
   ·show Act.put _ (some 17) _ = _
    simp only [Act.put, sI, sZ, sS]
    rfl
   refine one_ (i := 6) (N := some 20) #[true, true, true, true, true, true, true] rfl rfl (by kernel_rfl) (by decide) (fun K hK => ?_)
   refine goes_ Try.func64 (by kernel_rfl) rfl #[.agg #[.bool m.f1, .pointer p, .pointer pl, .pointer pr, .pointer pll, .pointer plr, .pointer prl, .pointer prr, .pointer pa, .pointer pb, .bool rt], .int .i64 m.f0] (by rfl) rfl rfl (by (try simp only [List.map_toArray, List.map_cons, List.map_nil]); first | done | rfl) ?_
   refine (can_any (S := S) m.f1 rt p pl pr pll plr prl prr pa pb T w4 ⟨HT.out.below HS4.out.1⟩ Hl Hr Hll Hlr Hrl Hrr Ha Hb m.f0 HM.out).mono ?_
   rintro e w5 ⟨rfl, hb5⟩
   have HS5 := Am (And.intro (HS4.out.1.trans (hb5.mono HS4.out.1.size)) (And.intro ((hb5.block wr.heap.size (blk_lt HS4.out.2.1)).trans HS4.out.2.1) (Kd.R_below HS4.out.2.2 hb5)))
   clear hb5
   refine ⟨_, rfl, ?_⟩
   refine hK.out _ _ HS5.out (fun hHeld => ?_)
   clear hK K
   refine norm_ (a' := ?_) ?_ ?_
   rotate_left
   ·show Act.put _ (some 20) _ = _
    simp only [Act.put, sI, sZ, sS]
    rfl
   refine done_ (by kernel_rfl) ?_
   obtain ⟨y0, y1⟩ := c2_of HS5.out.2.1
   cases hc : canT m.f1 rt T m.f0
   ·go_wp2
    go_roundg kq1
    case measure => omega
    case rel => exact ⟨i + 1, by first | rfl | (rw [Go.IntWalk.wrap64_in _ (by omega)]; rfl), ⟨by omega, by have := HI.out.2; omega⟩, ⟨by rw [HS.out, hc, if_neg (by simp), List.append_nil]; exact HS5.out.2.2⟩, ⟨HS5.out.1⟩⟩
   ·go_wp2_with (first | ((with_reducible refine gate_builtin (b := .append) (xs := #[.tmp 21, .tmp 23]) rfl ?_); at_builtin; refine Kd.R_append k62 (w0 := w2) w2.heap.size rfl (.tmp 21) (.tmp 23) 40 62 (.agg #[(.int .i64 0), (.bool false)]) 16 rfl Try.underlying40 info62 rfl (by decide) (by omega) u5 ((allS.take i).filter (fun m => canT m.f1 rt T m.f0)) m [.int .i64 m.f0, .bool m.f1] (fun _ => True) (fun _ => False) rfl rfl ?aP (fun _ hk => hk.elim) ?aF ?aO ?aB ?aS ?aL ?_; (case aP => exact k62_mkM _ _ _ m); (case aB => exact HS5.out.1); (case aF => exact (fun _ _ => trivial)); (case aO => exact HS5.out.2.2); (case aS => exact (below_size HS5.out.1)); (case aL => have := HLn.out; omega); intro vN wN hoN hbN hgN hatN; have HoN := Am hoN; have HbN := Am hbN; clear hoN hbN hgN hatN))
    go_roundg kq1
    case measure => omega
    case rel => exact ⟨i + 1, by first | rfl | (rw [Go.IntWalk.wrap64_in _ (by omega)]; rfl), ⟨by omega, by have := HI.out.2; omega⟩, ⟨by rw [HS.out, hc, if_pos rfl]; exact HoN.out⟩, ⟨HbN.out⟩⟩
  ·have p7 : decide ((i : Int) < (allS.length : Int)) = false := decide_eq_false (by omega)
   have hi := HI.out.1
   have HO9 := Am (show Kd.R k62 62 wr w2.heap.size (fun _ => True) u5 (hereS rt T) by
    have := HO.out
    rw [List.take_of_length_le (by omega)] at this
    exact this)
   clear HO
   go_wp2
   go_ret
   exact ⟨_, rfl, Kd.R_lower HO9.out HB2.out.size, HB2.out.trans (HW.out.mono HB2.out.size)⟩
end Go.Proofs.Ytgleaefhflamnaa.T
/- steps.Spots. -/
namespace Go.Proofs.Ytgleaefhflamnaa.T
open Go.RowKit Go.Proofs.YtgleaefhflamnaaW.PrintWords Go.Proofs.YtgleaefhflamnaaW.PrintLast Go.Proofs.YtgleaefhflamnaaW.PrintMore
set_option linter.unusedVariables false
set_option linter.unusedSimpArgs false
theorem R_okv' {e : Nat} {w : World} {base : Nat} {ok : Nat → Prop} {v : Value} {xs : List S62} (h : Kd.R k62 e w base ok v xs) {Q : Nat → Prop} (hQ : ∀ k, v.ownBlock = some k → Q k) : Kd.R k62 e w base Q v xs := by
 obtain ⟨h1, cs, h2, h3, h4⟩ := h
 refine ⟨hQ, cs, h2, h3, fun j p hj => ?_⟩
 have e := k62_openM (h4 j p hj)
 rw [e]
 exact k62_mkM _ _ _ p
theorem R_ok' {e : Nat} {w : World} {base : Nat} {ok : Nat → Prop} {v : Value} {xs : List S62} (h : Kd.R k62 e w base ok v xs) {Q : Nat → Prop} (hQ : ∀ k, base ≤ k → Q k) : Kd.R k62 e w base Q v xs := by
 refine R_okv' h (fun k hk => ?_)
 obtain ⟨h1, cs, h2, h3, h4⟩ := h
 rcases h2.2 with ⟨rfl, _⟩ | ⟨g, c, cur, rfl, hg, _⟩
 ·simp [Value.ownBlock] at hk
 ·simp only [Value.ownBlock, Option.some.injEq] at hk
  exact hQ k (by omega)
theorem R_sym' {e e' : Nat} {w w' : World} {b b' : Nat} {ok : Nat → Prop} {v v' : Value} {xs xs' : List S62} (h : Kd.R k62 e w b ok v xs) (h' : Kd.R k62 e' w' b' (fun k => some k ≠ v.ownBlock) v' xs') : Kd.R k62 e w b (fun k => some k ≠ v'.ownBlock) v xs :=
 R_okv' h (fun k hk e => h'.1 k e.symm hk.symm)
theorem box_kept {α : Type} {d : Kd α} {e : Nat} {W W1 : World} {base g : Nat} {ok : Nat → Prop} {v : Value} {xs : List α} {c : Array Value} {t : Nat} (hb : W.heap[g]? = some (.cells c t (0, 0))) (h : Kd.R d e W base ok v xs) (hg : W.grownBy W1 v.ownBlock) (hne : e ≠ t) : W1.heap[g]? = some (.cells c t (0, 0)) := by
 refine (hg.block g (blk_lt hb) (fun e' => ?_)).trans hb
 obtain ⟨cells, hc⟩ := Kd.R_typed h g e'.symm
 rw [hb] at hc
 simp only [Option.some.injEq, Obj.cells.injEq] at hc
 exact hne hc.2.1.symm
theorem box_own {e : Nat} {W W1 : World} {base g : Nat} {v : Value} {xs : List S62} {c : Array Value} {t : Nat} {P : Nat → Prop} (hb : W.heap[g]? = some (.cells c t (0, 0))) (h : Kd.R k62 e W base (fun k => P k ∧ k ≠ g) v xs) (hg : W.grownBy W1 v.ownBlock) : W1.heap[g]? = some (.cells c t (0, 0)) :=
 (hg.block g (blk_lt hb) (fun e' => (h.1 g e'.symm).2 rfl)).trans hb
theorem reps62 (W : World) (b : Nat) (ok : Nat → Prop) (m : S62) : Reps (k62.M W b ok) k62.sz [m] [.int .i64 m.f0, .bool m.f1] := ⟨rfl, fun j p hj => by
 cases j with
 | zero => simp at hj; subst hj; exact k62_mkM _ _ _ m
 | succ j => simp at hj⟩
def sqM (H : Nat → List S62) (n : Nat) : List S62 := (List.range n).flatMap H
def sqP (H : Nat → List S62) (n : Nat) : List Int := (List.range n).flatMap (fun i => List.replicate (H i).length (i : Int))
theorem sqM_succ (H : Nat → List S62) (n : Nat) : sqM H (n + 1) = sqM H n ++ H n := by simp [sqM, List.range_succ]
theorem sqP_succ (H : Nat → List S62) (n : Nat) : sqP H (n + 1) = sqP H n ++ List.replicate (H n).length (n : Int) := by simp [sqP, List.range_succ]
theorem sq_len {H : Nat → List S62} (h : ∀ i, (H i).length ≤ 21) : ∀ n, (sqM H n).length ≤ 21 * n ∧ (sqP H n).length ≤ 21 * n
 | 0 => ⟨by simp [sqM], by simp [sqP]⟩
 | n + 1 => by
  obtain ⟨h1, h2⟩ := sq_len h n
  have := h n
  rw [sqM_succ, sqP_succ, List.length_append, List.length_append, List.length_replicate]
  omega
theorem sspots_err (k : Nat) (A0 : Option Addr) (c0 : Nat) (t : List S34) (r1 : Int) (r2 : List Bool) (e : Int) (w : World) (hr0 : Kd.C k34 w A0 t.length t) (hc0 : t.length ≤ c0) (h : steps_keys.f k t = some (r1, r2, e)) (he : (e != 0) = true) :
  Calls Try.prog 16 #[.slice A0 t.length c0] w fun ed w' => ed = .returned (.tuple #[.slice none 0 0, .slice none 0 0, .int .i64 e]) ∧ Below w.heap.size w w' := by
 have HR0 := Am hr0
 have HC0 := Am hc0
 have H1 := Am h
 clear hr0 hc0 h
 go_enter Try.func16, Try.ntmps16
 go_wp2_with (fail)
 refine (steps_keys.calls k A0 c0 t r1 r2 e _ HR0.out HC0.out H1.out).mono ?_
 rintro _ w1 ⟨v1, rfl, ho, hb⟩
 obtain ⟨Av, cv, rfl⟩ := Kd.R_slice ho
 have HB := Am hb
 clear hb ho
 go_wp2
 go_ret3
 exact ⟨rfl, HB.out⟩
set_option maxHeartbeats 16000000 in
set_option maxRecDepth 100000 in
theorem sspots_ok (k : Nat) (A0 : Option Addr) (c0 : Nat) (t : List S34) (r : Int) (met : List Bool) (H : Nat → List S62) (w : World) (hr0 : Kd.C k34 w A0 t.length t) (hc0 : t.length ≤ c0) (hlen : t.length ≤ 1000) (h1 : steps_keys.f k t = some (r, met, 0)) (hml : met.length = t.length) (h21 : ∀ i, (H i).length ≤ 21)
  (hc : ∀ i, i < t.length → 0 ≤ (t.getD i z34).f4 → (t.getD i z34).f4 < t.length ∧ 0 ≤ (t.getD i z34).f5 ∧ (t.getD i z34).f5 < t.length)
  (hA : ∀ i : Nat, i < t.length → (met.getD i false = true → ∃ K X, mkT t K i = some X ∧ hereS ((i : Int) == r) X = H i) ∧ (met.getD i false = false → H i = [])) :
  Calls Try.prog 16 #[.slice A0 t.length c0] w fun ed w' => ∃ v1 v2, ed = .returned (.tuple #[v1, v2, .int .i64 0]) ∧ Kd.R (Kd.int .i64) 3 w' w.heap.size (fun _ => True) v1 (sqP H t.length) ∧ Kd.R k62 62 w' w.heap.size (fun _ => True) v2 (sqM H t.length) ∧ Below w.heap.size w w' := by
 have hu62 := Try.underlying62
 have HR0 := Am hr0
 have HC0 := Am hc0
 have H1 := Am h1
 have H21 := Am h21
 have HA := Am hA
 have HLN := Am hlen
 have HCC := Am hc
 have HML := Am hml
 clear hr0 hc0 h1 hA h21 hlen hc hml
 go_enter Try.func16, Try.ntmps16
 go_wp2_with (fail)
 refine (steps_keys.calls k A0 c0 t r met 0 _ HR0.out HC0.out H1.out).mono ?_
 rintro _ w1 ⟨v1, rfl, ho, hb⟩
 obtain ⟨Av, cv, rfl⟩ := Kd.R_slice ho
 have HB := Am hb
 have HMet := Am (Kd.R_reads' ho).2.2
 clear hb ho
 go_wp2_with (fail)
 refine (grow_any A0 c0 t _ (Kd.C_below HR0.out HB.out) (by have := HLN.out; omega) HCC.out).mono ?_
 rintro _ w2 ⟨rfl, hfo⟩
 have HFO := Am hfo
 have HB2 := Am (bel_t' HB.out hfo.bel)
 clear hfo
 go_wp2
 go_loopg [9, 10, 28] (t.length + 1) (fun kq v9 v10 v28 w' => ∃ i : Nat, v28 = .int .i64 i ∧ Aside0 (i ≤ t.length ∧ kq + i = t.length + 1) ∧ Aside0 (Kd.R (Kd.int .i64) 3 w' w2.heap.size (fun _ => True) v9 (sqP H i)) ∧ Aside0 (Kd.R k62 62 w' w2.heap.size (fun _ => True) v10 (sqM H i)) ∧ Aside0 (Below w2.heap.size w2 w'))
 case atStart => exact ⟨0, rfl, ⟨Nat.zero_le _, rfl⟩, ⟨Kd.R_nil _ _ _ _ _⟩, ⟨Kd.R_nil _ _ _ _ _⟩, ⟨Below.refl _ _⟩⟩
 case round =>
  obtain ⟨i, rfl, HI, HP, HM, HW⟩ := hrel
  obtain ⟨kq1, rfl⟩ : ∃ x, gk = x + 1 := ⟨gk - 1, by have := HI.out; omega⟩
  by_cases q1 : i < t.length
  ·have p7 : decide ((i : Int) < (t.length : Int)) = true := decide_eq_true (by omega)
   have p6 : decide (i < t.length) = true := decide_eq_true q1
   have p5 : (0 ≤ (i : Int)) = True := eq_true (by omega)
   have p4 : ((i : Int) < (t.length : Int)) = True := eq_true (by omega)
   have p3 : ((i : Int) < (met.length : Int)) = True := eq_true (by have := HML.out; omega)
   have hcellP : wr.cell? ⟨w1.heap.size, i, none⟩ = some (.pointer (nb w1.heap.size i)) := by
    have := rowIs_cell HFO.out.ptrs i q1
    rw [if_pos q1] at this
    exact (HW.out.cell (p := ⟨w1.heap.size, i, none⟩) (rowIs_lt HFO.out.ptrs)).trans this
   obtain ⟨adB, eB, hxB⟩ := Kd.at_bool (Kd.C_below (Kd.C_below HMet.out HFO.out.bel) HW.out) (i : Int) (by omega) (by have := HML.out; omega)
   cases eB
   obtain ⟨ha1, ha2⟩ := HA.out i q1
   have HI1 := Am (show i < t.length from q1)
   rw [show rdOf false met (i : Int) = met.getD i false from rfl, Int.toNat_natCast] at hxB
   cases hmt : met.getD i false with
   | false =>
    have hH := ha2 hmt
    rw [hmt] at hxB
    have HP9 := Am (show Kd.R (Kd.int .i64) 3 wr w2.heap.size (fun _ => True) u9 (sqP H (i + 1)) by
     rw [sqP_succ, hH, List.length_nil, List.replicate_zero, List.append_nil]; exact HP.out)
    have HM9 := Am (show Kd.R k62 62 wr w2.heap.size (fun _ => True) u10 (sqM H (i + 1)) by
     rw [sqM_succ, hH, List.append_nil]; exact HM.out)
    clear HP HM ha1 ha2 hH hmt
    go_wp2
    go_roundg kq1
    case measure => omega
    case rel => exact ⟨i + 1, by have := HLN.out; first | rfl | (rw [Go.IntWalk.wrap64_in _ (by omega)]; rfl), ⟨by omega, by have := HI.out.2; omega⟩, HP9, HM9, HW⟩
   | true =>
    rw [hmt] at hxB
    obtain ⟨K, X, hX, hH⟩ := ha1 hmt
    have hrep := forest_rep HFO.out hX K i X hX (Nat.le_refl _)
    have HRep := Am (hrep.below HW.out)
    have hspl := sq_len H21.out i
    have hl21 := H21.out i
    have HSP := Am (And.intro hspl.1 hspl.2)
    generalize hL : H i = L at hH hl21
    have HLL := Am hL
    have HL21 := Am hl21
    have HHX := Am hH
    clear ha1 ha2 hmt hX hH hrep hspl hl21 hL q1
    generalize hP : sqP H i = P at *
    generalize hM : sqM H i = M at *
    have HPP := Am hP
    have HMM := Am hM
    clear hP hM
    go_wp2_with (fail)
    refine (here_any _ X ((i : Int) == r) _ HRep.out).mono ?_
    rintro _ w4 ⟨vl, rfl, ho, hb⟩
    rw [HHX.out] at ho
    have hlt := Kd.R_lt HM.out
    obtain ⟨Al, cl, rfl⟩ := Kd.R_slice ho
    have HLr0 := Am (Kd.R_lower (R_ok' ho (Q := fun k_ => some k_ ≠ (u10 : Value).ownBlock) (fun k_ hk => Kd.fresh' hlt k_ hk)) HW.out.size)
    have HP0 := Am (Kd.R_below HP.out hb)
    have HM0 := Am (Kd.R_below HM.out hb)
    have HW0 := Am (HW.out.trans (hb.mono HW.out.size))
    clear ho hb HP HM HW hlt p7 p6 p5 p4 p3 hcellP hxB
    go_wp2
    go_loopg [9, 10, 44] (L.length + 1) (fun kq v9 v10 v44 w' => ∃ n : Nat, v44 = .int .i64 n ∧ Aside0 (n ≤ L.length ∧ kq + n = L.length + 1) ∧ Aside0 (Kd.R (Kd.int .i64) 3 w' w2.heap.size (fun _ => True) v9 (P ++ List.replicate n (i : Int))) ∧ Aside0 (Kd.R k62 62 w' w2.heap.size (fun k_ => some k_ ≠ (.slice Al L.length cl : Value).ownBlock) v10 (M ++ L.take n)) ∧ Aside0 (Kd.R k62 62 w' w2.heap.size (fun k_ => some k_ ≠ (v10 : Value).ownBlock) (.slice Al L.length cl) L) ∧ Aside0 (Below w2.heap.size w2 w'))
    case atStart => exact ⟨0, rfl, ⟨Nat.zero_le _, rfl⟩, ⟨by simpa using HP0.out⟩, ⟨by simpa using R_sym' HM0.out HLr0.out⟩, HLr0, HW0⟩
    case round =>
     clear HP0 HM0 HLr0 HW0
     obtain ⟨n, rfl, HN, HP, HM, HLr, HW⟩ := hrel
     obtain ⟨kq2, rfl⟩ : ∃ x, gk = x + 1 := ⟨gk - 1, by have := HN.out; omega⟩
     by_cases q2 : n < L.length
     ·have p8 : decide ((n : Int) < (L.length : Int)) = true := decide_eq_true (by omega)
      have p11 : decide (n < L.length) = true := decide_eq_true q2
      have p9 : (0 ≤ (n : Int)) = True := eq_true (by omega)
      have p10 : ((n : Int) < (L.length : Int)) = True := eq_true (by omega)
      obtain ⟨ad1, e1, x0, x1⟩ := at_T62 (Kd.R_reads' HLr.out).2.2 (n : Int) (by omega) (by omega)
      subst e1
      generalize hm : L.getD n z62 = m
      rw [Int.toNat_natCast, show rd_T62 L (n : Int) = L.getD n z62 from rfl, hm] at x0 x1
      have HS : Aside0 ((P ++ List.replicate n (i : Int)).length + 1 ≤ 30000 ∧ (M ++ L.take n).length + 1 ≤ 30000) := ⟨by have := HSP.out; have := HLN.out; have := HL21.out; have := HI.out; simp only [List.length_append, List.length_replicate, List.length_take]; omega⟩
      have htk : L.take (n + 1) = L.take n ++ [m] := by rw [← hm, List.getD, List.getElem?_eq_getElem q2, Option.getD_some, List.take_append_getElem q2]
      have HTK := Am htk
      clear hm htk
      go_wp2
      have hgb := Kd.R_lt HM.out
      have HBw := Am (ba HW.out (.cells #[.int .i64 m.f0, .bool m.f1] 62))
      have HBx := Am (heap_alloc_new wr (.cells #[.int .i64 m.f0, .bool m.f1] 62))
      have H9 := Am (Kd.R_alloc HP.out (.cells #[.int .i64 m.f0, .bool m.f1] 62))
      have H10 := Am (R_okv' (Kd.R_alloc HM.out (.cells #[.int .i64 m.f0, .bool m.f1] 62)) (Q := fun k_ => some k_ ≠ (.slice (some ad1) L.length cl : Value).ownBlock ∧ k_ ≠ wr.heap.size) (fun k hk => ⟨HM.out.1 k hk, fun e => by have := Kd.R_lt HM.out k hk; omega⟩))
      have HLr1 := Am (Kd.R_alloc HLr.out (.cells #[.int .i64 m.f0, .bool m.f1] 62))
      clear HP HM HLr x0 x1 hgb HW
      have HLr := HLr1
      clear HLr1
      generalize (wr.alloc (.cells #[.int .i64 m.f0, .bool m.f1] 62)) = w3 at HBw HBx H9 H10 HLr ⊢
      generalize wr.heap.size = gb at HBx H10 ⊢
      generalize hP2 : P ++ List.replicate n (i : Int) = P2 at H9 HS
      generalize hM2 : M ++ L.take n = M2 at H10 HS
      have HP2 := Am hP2
      have HM2 := Am hM2
      clear hP2 hM2
      refine start_ (n := 10) (S := fun W' => Below w2.heap.size w2 W' ∧ W'.heap[gb]? = some (.cells #[.int .i64 m.f0, .bool m.f1] 62 (0, 0))) (ds := []) #[false, false, false, false, false, false, false, false, false, false] (by kernel_rfl) rfl rfl ⟨below_drew HBw.out, HBx.out⟩ (fun hHeld => ?_)
      refine gen_any (fun W => Below w2.heap.size w2 W ∧ W.heap[gb]? = some (.cells #[.int .i64 m.f0, .bool m.f1] 62 (0, 0)) ∧ Kd.R (Kd.int .i64) 3 W w2.heap.size (fun _ => True) u9 P2 ∧ Kd.R k62 62 W w2.heap.size (fun k_ => some k_ ≠ (.slice (some ad1) L.length cl : Value).ownBlock ∧ k_ ≠ gb) u10 M2 ∧ Kd.R k62 62 W w2.heap.size (fun k_ => some k_ ≠ (u10 : Value).ownBlock) (.slice (some ad1) L.length cl) L) ⟨below_drew HBw.out, HBx.out, Kd.R_drew H9.out, Kd.R_drew H10.out, Kd.R_drew HLr.out⟩ (fun w5 ⟨k1, k2, k3, k4, k5⟩ => ?_)
      clear hHeld HBw HBx H9 H10 HLr
      have HBw := Am k1
      have HBx := Am k2
      have H9 := Am k3
      have H10 := Am k4
      have HLr := Am k5
      have hHeld := And.intro k1 k2
      clear k1 k2 k3 k4 k5
      refine pu 0 48 ?_
      refine pu 1 49 ?_
      refine pu 4 52 ?_
      refine ta 5 53 hHeld (hy := by intro w' hs; obtain ⟨y0, y1⟩ := c2_of hs.2; go_simp; with_reducible rfl) ?_
      refine join_ (σ := Value × Value × Value × Value) 2 #[true, true, true, true, true, true, true, true, false, false] (fun s => [(50, s.1), (51, s.2.1), (54, s.2.2.1), (55, s.2.2.2)]) (fun s W => Below w2.heap.size w2 W ∧ Kd.R (Kd.int .i64) 3 W w2.heap.size (fun _ => True) s.2.1 (P2 ++ [(i : Int)]) ∧ Kd.R k62 62 W w2.heap.size (fun k_ => some k_ ≠ (.slice (some ad1) L.length cl : Value).ownBlock ∧ k_ ≠ gb) s.2.2.2 (M2 ++ [m]) ∧ Kd.R k62 62 W w2.heap.size (fun _ => True) (.slice (some ad1) L.length cl) L) ?_ ?_
      rotate_left
      ·intro hCont
       clear hHeld
       refine two_ (i := 2) (j := 6) (Ni := some 50) (Nj := some 54) #[true, true, true, false, true, true, false, false, false, false] #[true, true, false, false, true, true, true, false, false, false] rfl rfl rfl rfl (by kernel_rfl) (by decide) (by decide) (fun K hK => ?_) (fun K hK => ?_)
       ·refine Kd.R_lit_step (Kd.int .i64) _ 3 ?hg1 (N := 50) ?hd1 (xs := ([(i : Int)] : List Int)) (inner := [.int .i64 (i : Int)]) (ok := fun _ => True) (okp := fun _ => True) ?hr1 ?hp1 (fun _ hk => hk) trivial (Below.refl _ _) (Nat.le_refl _) (by simp) ?_
        case hd1 => rfl
        case hg1 => rfl
        case hr1 => first | (go_simp; done) | (go_simp; rfl)
        case hp1 => exact (Reps.one (show Kd.M (Kd.int .i64) _ _ _ (i : Int) [.int .i64 (i : Int)] from rfl) (Reps.none _ _))
        intro v50 w6 ho hb hg_ hnew_
        clear hg_ hnew_
        have H9' := Am (Kd.R_below H9.out hb)
        have H10' := Am (Kd.R_below H10.out hb)
        have HLr' := Am (Kd.R_below HLr.out hb)
        have HBw' := Am (HBw.out.trans (hb.mono HBw.out.size))
        have HBx' := Am ((hb.block _ (blk_lt HBx.out)).trans HBx.out)
        have H50 := Am (Kd.R_lower ho HBw.out.size)
        clear ho hb
        clear H9 H10 HLr HBw HBx
        have H9 := H9'
        have H10 := H10'
        have HLr := HLr'
        have HBw := HBw'
        have HBx := HBx'
        clear H9' H10' HLr' HBw' HBx'
        obtain ⟨Av50, cv50, ev50⟩ := Kd.R_slice H50.out
        subst ev50
        refine hK.out _ _ ⟨HBw.out, HBx.out⟩ (fun hHeld => ?_)
        clear hK K
        refine norm_ (a' := ?_) ?_ ?_
        rotate_left
        ·show Act.put _ (some 50) _ = _
         simp only [Act.put, sI, sZ, sS]
         rfl
        refine two_ (i := 3) (j := 6) (Ni := some 51) (Nj := some 54) #[true, true, true, true, true, true, false, false, false, false] #[true, true, true, false, true, true, true, false, false, false] rfl rfl rfl rfl (by kernel_rfl) (by decide) (by decide) (fun K hK => ?_) (fun K hK => ?_)
        ·refine Kd.R_append_rows_step (Kd.int .i64) (w0 := w2) w2.heap.size (by rfl) (.tmp 48) (.tmp 50) 31 3 (.int .i64 0) 8 rfl Try.underlying31 info3 rfl (by decide) (by omega) u9 P2 ([(i : Int)] : List Int) _ _ _ (fun _ => True) (fun _ => False) rfl rfl ?aO2 ?aR2 (fun _ _ h => h) (fun _ h => h.elim) ?aF2 ?aB2 ?aS2 ?aL2 ?_
         case aR2 => exact (Kd.R_reads' H50.out).2.2
         case aB2 => exact HBw.out
         case aF2 => exact (fun _ _ => trivial)
         case aO2 => exact H9.out
         case aS2 => exact HBw.out.size
         case aL2 => have := HS.out; simp only [List.length_cons, List.length_nil]; omega
         intro v51 w7 ho hb hg hat
         have H10' := Am (Kd.R_over' H10.out (Kd.R_typed H9.out) (by decide) hg)
         have HLr' := Am (Kd.R_over' HLr.out (Kd.R_typed H9.out) (by decide) hg)
         have HBw' := Am hb
         have HBx' := Am (box_kept HBx.out H9.out hg (by decide))
         have H51 := Am ho
         clear ho hb hg hat H9 H50
         clear H10 HLr HBw HBx
         have H10 := H10'
         have HLr := HLr'
         have HBw := HBw'
         have HBx := HBx'
         clear H10' HLr' HBw' HBx'
         refine hK.out _ _ ⟨HBw.out, HBx.out⟩ (fun hHeld => ?_)
         clear hK K
         refine norm_ (a' := ?_) ?_ ?_
         rotate_left
         ·show Act.put _ (some 51) _ = _
          simp only [Act.put, sI, sZ, sS]
          rfl
         refine one_ (i := 6) (N := some 54) #[true, true, true, true, true, true, true, false, false, false] rfl rfl (by kernel_rfl) (by decide) (fun K hK => ?_)
         refine Kd.R_lit_step k62 _ 62 ?hg3 (N := 54) ?hd3 (xs := ([m] : List S62)) (inner := [.int .i64 m.f0, .bool m.f1]) (ok := fun _ => True) (okp := fun _ => True) ?hr3 ?hp3 (fun _ hk => hk) trivial (Below.refl _ _) (Nat.le_refl _) (by simp) ?_
         case hd3 => rfl
         case hg3 => rfl
         case hr3 => first | (go_simp; done) | (go_simp; rfl)
         case hp3 => exact reps62 _ _ _ m
         intro v54 w8 ho hb hg_ hnew_
         clear hg_ hnew_
         have H10' := Am (Kd.R_below H10.out hb)
         have HLr' := Am (Kd.R_below HLr.out hb)
         have HBw' := Am (HBw.out.trans (hb.mono HBw.out.size))
         have HBx' := Am ((hb.block _ (blk_lt HBx.out)).trans HBx.out)
         have H51' := Am (Kd.R_below H51.out hb)
         have H54 := Am (Kd.R_lower ho HBw.out.size)
         clear ho hb
         clear H10 HLr HBw HBx H51
         have H10 := H10'
         have HLr := HLr'
         have HBw := HBw'
         have HBx := HBx'
         have H51 := H51'
         clear H10' HLr' HBw' HBx' H51'
         obtain ⟨Av54, cv54, ev54⟩ := Kd.R_slice H54.out
         subst ev54
         refine hK.out _ _ ⟨HBw.out, HBx.out⟩ (fun hHeld => ?_)
         clear hK K
         refine norm_ (a' := ?_) ?_ ?_
         rotate_left
         ·show Act.put _ (some 54) _ = _
          simp only [Act.put, sI, sZ, sS]
          rfl
         refine one_ (i := 7) (N := some 55) #[true, true, true, true, true, true, true, true, false, false] rfl rfl (by kernel_rfl) (by decide) (fun K hK => ?_)
         refine Kd.R_append_rows_step k62 (Rr := k62.K w8) (w0 := w2) w2.heap.size (by rfl) (.tmp 52) (.tmp 54) 40 62 (.agg #[(.int .i64 0), (.bool false)]) 16 rfl Try.underlying40 info62 rfl (by decide) (by omega) u10 M2 ([m] : List S62) _ _ _ (fun k_ => some k_ ≠ (.slice (some ad1) L.length cl : Value).ownBlock ∧ k_ ≠ gb) (fun _ => False) rfl rfl ?aO4 ?aR4 ?aK4 (fun _ h => h.elim) ?aF4 ?aB4 ?aS4 ?aL4 ?_
         case aR4 => exact (Kd.R_reads' H54.out).2.2
         case aK4 => intro x cs h; rw [k62_open h]; exact k62_mkM _ _ _ x
         case aB4 => exact HBw.out
         case aF4 => exact (fun k_ hk => ⟨Kd.fresh' (Kd.R_lt HLr.out) k_ hk, by have := blk_lt HBx.out; omega⟩)
         case aO4 => exact H10.out
         case aS4 => exact HBw.out.size
         case aL4 => have := HS.out; simp only [List.length_cons, List.length_nil]; omega
         intro v55 w9 ho hb hg hat
         have HLr' := Am (Kd.R_after (ok := (fun _ => True)) (Kd.R_mono HLr.out (fun _ hk => ⟨trivial, hk⟩)) hg hat)
         have H51' := Am (Kd.R_over' H51.out (Kd.R_typed H10.out) (by decide) hg)
         have HBw' := Am hb
         have HBx' := Am (box_own HBx.out H10.out hg)
         have H55 := Am ho
         clear ho hb hg hat H10 H54
         clear HLr H51 HBw HBx
         have HLr := HLr'
         have H51 := H51'
         have HBw := HBw'
         have HBx := HBx'
         clear HLr' H51' HBw' HBx'
         refine hK.out _ _ ⟨HBw.out, HBx.out⟩ (fun hHeld => ?_)
         clear hK K
         refine norm_ (a' := ?_) ?_ ?_
         rotate_left
         ·show Act.put _ (some 55) _ = _
          simp only [Act.put, sI, sZ, sS]
          rfl
         exact norm_ (by simp only [putAll, Act.put, sI, sZ, sS]; rfl) (hCont (_, v51, _, v55) _ ⟨HBw.out, H51.out, H55.out, R_okv' HLr.out (fun _ _ => trivial)⟩)
        ·refine Kd.R_lit_step k62 _ 62 ?hg5 (N := 54) ?hd5 (xs := ([m] : List S62)) (inner := [.int .i64 m.f0, .bool m.f1]) (ok := fun _ => True) (okp := fun _ => True) ?hr5 ?hp5 (fun _ hk => hk) trivial (Below.refl _ _) (Nat.le_refl _) (by simp) ?_
         case hd5 => rfl
         case hg5 => rfl
         case hr5 => first | (go_simp; done) | (go_simp; rfl)
         case hp5 => exact reps62 _ _ _ m
         intro v54 w7 ho hb hg_ hnew_
         clear hg_ hnew_
         have H9' := Am (Kd.R_below H9.out hb)
         have H10' := Am (Kd.R_below H10.out hb)
         have HLr' := Am (Kd.R_below HLr.out hb)
         have HBw' := Am (HBw.out.trans (hb.mono HBw.out.size))
         have HBx' := Am ((hb.block _ (blk_lt HBx.out)).trans HBx.out)
         have H50' := Am (Kd.R_below H50.out hb)
         have H54 := Am (Kd.R_lower ho HBw.out.size)
         clear ho hb
         clear H9 H10 HLr HBw HBx H50
         have H9 := H9'
         have H10 := H10'
         have HLr := HLr'
         have HBw := HBw'
         have HBx := HBx'
         have H50 := H50'
         clear H9' H10' HLr' HBw' HBx' H50'
         obtain ⟨Av54, cv54, ev54⟩ := Kd.R_slice H54.out
         subst ev54
         refine hK.out _ _ ⟨HBw.out, HBx.out⟩ (fun hHeld => ?_)
         clear hK K
         refine norm_ (a' := ?_) ?_ ?_
         rotate_left
         ·show Act.put _ (some 54) _ = _
          simp only [Act.put, sI, sZ, sS]
          rfl
         refine one_ (i := 3) (N := some 51) #[true, true, true, true, true, true, true, false, false, false] rfl rfl (by kernel_rfl) (by decide) (fun K hK => ?_)
         refine Kd.R_append_rows_step (Kd.int .i64) (w0 := w2) w2.heap.size (by rfl) (.tmp 48) (.tmp 50) 31 3 (.int .i64 0) 8 rfl Try.underlying31 info3 rfl (by decide) (by omega) u9 P2 ([(i : Int)] : List Int) _ _ _ (fun _ => True) (fun _ => False) rfl rfl ?aO6 ?aR6 (fun _ _ h => h) (fun _ h => h.elim) ?aF6 ?aB6 ?aS6 ?aL6 ?_
         case aR6 => exact (Kd.R_reads' H50.out).2.2
         case aB6 => exact HBw.out
         case aF6 => exact (fun _ _ => trivial)
         case aO6 => exact H9.out
         case aS6 => exact HBw.out.size
         case aL6 => have := HS.out; simp only [List.length_cons, List.length_nil]; omega
         intro v51 w8 ho hb hg hat
         have H10' := Am (Kd.R_over' H10.out (Kd.R_typed H9.out) (by decide) hg)
         have HLr' := Am (Kd.R_over' HLr.out (Kd.R_typed H9.out) (by decide) hg)
         have HBw' := Am hb
         have HBx' := Am (box_kept HBx.out H9.out hg (by decide))
         have H54' := Am (Kd.R_over' H54.out (Kd.R_typed H9.out) (by decide) hg)
         have H51 := Am ho
         clear ho hb hg hat H9 H50
         clear H10 HLr HBw HBx H54
         have H10 := H10'
         have HLr := HLr'
         have HBw := HBw'
         have HBx := HBx'
         have H54 := H54'
         clear H10' HLr' HBw' HBx' H54'
         refine hK.out _ _ ⟨HBw.out, HBx.out⟩ (fun hHeld => ?_)
         clear hK K
         refine norm_ (a' := ?_) ?_ ?_
         rotate_left
         ·show Act.put _ (some 51) _ = _
          simp only [Act.put, sI, sZ, sS]
          rfl
         refine one_ (i := 7) (N := some 55) #[true, true, true, true, true, true, true, true, false, false] rfl rfl (by kernel_rfl) (by decide) (fun K hK => ?_)
         refine Kd.R_append_rows_step k62 (Rr := k62.K w8) (w0 := w2) w2.heap.size (by rfl) (.tmp 52) (.tmp 54) 40 62 (.agg #[(.int .i64 0), (.bool false)]) 16 rfl Try.underlying40 info62 rfl (by decide) (by omega) u10 M2 ([m] : List S62) _ _ _ (fun k_ => some k_ ≠ (.slice (some ad1) L.length cl : Value).ownBlock ∧ k_ ≠ gb) (fun _ => False) rfl rfl ?aO7 ?aR7 ?aK7 (fun _ h => h.elim) ?aF7 ?aB7 ?aS7 ?aL7 ?_
         case aR7 => exact (Kd.R_reads' H54.out).2.2
         case aK7 => intro x cs h; rw [k62_open h]; exact k62_mkM _ _ _ x
         case aB7 => exact HBw.out
         case aF7 => exact (fun k_ hk => ⟨Kd.fresh' (Kd.R_lt HLr.out) k_ hk, by have := blk_lt HBx.out; omega⟩)
         case aO7 => exact H10.out
         case aS7 => exact HBw.out.size
         case aL7 => have := HS.out; simp only [List.length_cons, List.length_nil]; omega
         intro v55 w9 ho hb hg hat
         have HLr' := Am (Kd.R_after (ok := (fun _ => True)) (Kd.R_mono HLr.out (fun _ hk => ⟨trivial, hk⟩)) hg hat)
         have H51' := Am (Kd.R_over' H51.out (Kd.R_typed H10.out) (by decide) hg)
         have HBw' := Am hb
         have HBx' := Am (box_own HBx.out H10.out hg)
         have H55 := Am ho
         clear ho hb hg hat H10 H54
         clear HLr H51 HBw HBx
         have HLr := HLr'
         have H51 := H51'
         have HBw := HBw'
         have HBx := HBx'
         clear HLr' H51' HBw' HBx'
         refine hK.out _ _ ⟨HBw.out, HBx.out⟩ (fun hHeld => ?_)
         clear hK K
         refine norm_ (a' := ?_) ?_ ?_
         rotate_left
         ·show Act.put _ (some 55) _ = _
          simp only [Act.put, sI, sZ, sS]
          rfl
         exact norm_ (by simp only [putAll, Act.put, sI, sZ, sS]; rfl) (hCont (_, v51, _, v55) _ ⟨HBw.out, H51.out, H55.out, R_okv' HLr.out (fun _ _ => trivial)⟩)
       ·refine Kd.R_lit_step k62 _ 62 ?hg8 (N := 54) ?hd8 (xs := ([m] : List S62)) (inner := [.int .i64 m.f0, .bool m.f1]) (ok := fun _ => True) (okp := fun _ => True) ?hr8 ?hp8 (fun _ hk => hk) trivial (Below.refl _ _) (Nat.le_refl _) (by simp) ?_
        case hd8 => rfl
        case hg8 => rfl
        case hr8 => first | (go_simp; done) | (go_simp; rfl)
        case hp8 => exact reps62 _ _ _ m
        intro v54 w6 ho hb hg_ hnew_
        clear hg_ hnew_
        have H9' := Am (Kd.R_below H9.out hb)
        have H10' := Am (Kd.R_below H10.out hb)
        have HLr' := Am (Kd.R_below HLr.out hb)
        have HBw' := Am (HBw.out.trans (hb.mono HBw.out.size))
        have HBx' := Am ((hb.block _ (blk_lt HBx.out)).trans HBx.out)
        have H54 := Am (Kd.R_lower ho HBw.out.size)
        clear ho hb
        clear H9 H10 HLr HBw HBx
        have H9 := H9'
        have H10 := H10'
        have HLr := HLr'
        have HBw := HBw'
        have HBx := HBx'
        clear H9' H10' HLr' HBw' HBx'
        obtain ⟨Av54, cv54, ev54⟩ := Kd.R_slice H54.out
        subst ev54
        refine hK.out _ _ ⟨HBw.out, HBx.out⟩ (fun hHeld => ?_)
        clear hK K
        refine norm_ (a' := ?_) ?_ ?_
        rotate_left
        ·show Act.put _ (some 54) _ = _
         simp only [Act.put, sI, sZ, sS]
         rfl
        refine one_ (i := 2) (N := some 50) #[true, true, true, false, true, true, true, false, false, false] rfl rfl (by kernel_rfl) (by decide) (fun K hK => ?_)
        refine Kd.R_lit_step (Kd.int .i64) _ 3 ?hg9 (N := 50) ?hd9 (xs := ([(i : Int)] : List Int)) (inner := [.int .i64 (i : Int)]) (ok := fun _ => True) (okp := fun _ => True) ?hr9 ?hp9 (fun _ hk => hk) trivial (Below.refl _ _) (Nat.le_refl _) (by simp) ?_
        case hd9 => rfl
        case hg9 => rfl
        case hr9 => first | (go_simp; done) | (go_simp; rfl)
        case hp9 => exact (Reps.one (show Kd.M (Kd.int .i64) _ _ _ (i : Int) [.int .i64 (i : Int)] from rfl) (Reps.none _ _))
        intro v50 w7 ho hb hg_ hnew_
        clear hg_ hnew_
        have H9' := Am (Kd.R_below H9.out hb)
        have H10' := Am (Kd.R_below H10.out hb)
        have HLr' := Am (Kd.R_below HLr.out hb)
        have HBw' := Am (HBw.out.trans (hb.mono HBw.out.size))
        have HBx' := Am ((hb.block _ (blk_lt HBx.out)).trans HBx.out)
        have H54' := Am (Kd.R_below H54.out hb)
        have H50 := Am (Kd.R_lower ho HBw.out.size)
        clear ho hb
        clear H9 H10 HLr HBw HBx H54
        have H9 := H9'
        have H10 := H10'
        have HLr := HLr'
        have HBw := HBw'
        have HBx := HBx'
        have H54 := H54'
        clear H9' H10' HLr' HBw' HBx' H54'
        obtain ⟨Av50, cv50, ev50⟩ := Kd.R_slice H50.out
        subst ev50
        refine hK.out _ _ ⟨HBw.out, HBx.out⟩ (fun hHeld => ?_)
        clear hK K
        refine norm_ (a' := ?_) ?_ ?_
        rotate_left
        ·show Act.put _ (some 50) _ = _
         simp only [Act.put, sI, sZ, sS]
         rfl
        refine one_ (i := 3) (N := some 51) #[true, true, true, true, true, true, true, false, false, false] rfl rfl (by kernel_rfl) (by decide) (fun K hK => ?_)
        refine Kd.R_append_rows_step (Kd.int .i64) (w0 := w2) w2.heap.size (by rfl) (.tmp 48) (.tmp 50) 31 3 (.int .i64 0) 8 rfl Try.underlying31 info3 rfl (by decide) (by omega) u9 P2 ([(i : Int)] : List Int) _ _ _ (fun _ => True) (fun _ => False) rfl rfl ?aO10 ?aR10 (fun _ _ h => h) (fun _ h => h.elim) ?aF10 ?aB10 ?aS10 ?aL10 ?_
        case aR10 => exact (Kd.R_reads' H50.out).2.2
        case aB10 => exact HBw.out
        case aF10 => exact (fun _ _ => trivial)
        case aO10 => exact H9.out
        case aS10 => exact HBw.out.size
        case aL10 => have := HS.out; simp only [List.length_cons, List.length_nil]; omega
        intro v51 w8 ho hb hg hat
        have H10' := Am (Kd.R_over' H10.out (Kd.R_typed H9.out) (by decide) hg)
        have HLr' := Am (Kd.R_over' HLr.out (Kd.R_typed H9.out) (by decide) hg)
        have HBw' := Am hb
        have HBx' := Am (box_kept HBx.out H9.out hg (by decide))
        have H54' := Am (Kd.R_over' H54.out (Kd.R_typed H9.out) (by decide) hg)
        have H51 := Am ho
        clear ho hb hg hat H9 H50
        clear H10 HLr HBw HBx H54
        have H10 := H10'
        have HLr := HLr'
        have HBw := HBw'
        have HBx := HBx'
        have H54 := H54'
        clear H10' HLr' HBw' HBx' H54'
        refine hK.out _ _ ⟨HBw.out, HBx.out⟩ (fun hHeld => ?_)
        clear hK K
        refine norm_ (a' := ?_) ?_ ?_
        rotate_left
        ·show Act.put _ (some 51) _ = _
         simp only [Act.put, sI, sZ, sS]
         rfl
        refine one_ (i := 7) (N := some 55) #[true, true, true, true, true, true, true, true, false, false] rfl rfl (by kernel_rfl) (by decide) (fun K hK => ?_)
        refine Kd.R_append_rows_step k62 (Rr := k62.K w8) (w0 := w2) w2.heap.size (by rfl) (.tmp 52) (.tmp 54) 40 62 (.agg #[(.int .i64 0), (.bool false)]) 16 rfl Try.underlying40 info62 rfl (by decide) (by omega) u10 M2 ([m] : List S62) _ _ _ (fun k_ => some k_ ≠ (.slice (some ad1) L.length cl : Value).ownBlock ∧ k_ ≠ gb) (fun _ => False) rfl rfl ?aO11 ?aR11 ?aK11 (fun _ h => h.elim) ?aF11 ?aB11 ?aS11 ?aL11 ?_
        case aR11 => exact (Kd.R_reads' H54.out).2.2
        case aK11 => intro x cs h; rw [k62_open h]; exact k62_mkM _ _ _ x
        case aB11 => exact HBw.out
        case aF11 => exact (fun k_ hk => ⟨Kd.fresh' (Kd.R_lt HLr.out) k_ hk, by have := blk_lt HBx.out; omega⟩)
        case aO11 => exact H10.out
        case aS11 => exact HBw.out.size
        case aL11 => have := HS.out; simp only [List.length_cons, List.length_nil]; omega
        intro v55 w9 ho hb hg hat
        have HLr' := Am (Kd.R_after (ok := (fun _ => True)) (Kd.R_mono HLr.out (fun _ hk => ⟨trivial, hk⟩)) hg hat)
        have H51' := Am (Kd.R_over' H51.out (Kd.R_typed H10.out) (by decide) hg)
        have HBw' := Am hb
        have HBx' := Am (box_own HBx.out H10.out hg)
        have H55 := Am ho
        clear ho hb hg hat H10 H54
        clear HLr H51 HBw HBx
        have HLr := HLr'
        have H51 := H51'
        have HBw := HBw'
        have HBx := HBx'
        clear HLr' H51' HBw' HBx'
        refine hK.out _ _ ⟨HBw.out, HBx.out⟩ (fun hHeld => ?_)
        clear hK K
        refine norm_ (a' := ?_) ?_ ?_
        rotate_left
        ·show Act.put _ (some 55) _ = _
         simp only [Act.put, sI, sZ, sS]
         rfl
        exact norm_ (by simp only [putAll, Act.put, sI, sZ, sS]; rfl) (hCont (_, v51, _, v55) _ ⟨HBw.out, H51.out, H55.out, R_okv' HLr.out (fun _ _ => trivial)⟩)
      rintro ⟨v50, v51, v54, v55⟩ w9 ⟨k1, k2, k3, k4⟩
      have HBw := Am k1
      have H51 := Am k2
      have H55 := Am k3
      have HLr := Am k4
      clear k1 k2 k3 k4 hHeld
      refine norm_ (a' := ?_) ?_ ?_
      rotate_left
      ·simp only [putAll, Act.put, sI, sZ, sS]
       rfl
      refine pu 8 9 ?_
      refine pu 9 10 ?_
      refine done_ (by kernel_rfl) ?_
      have HPn := Am (show Kd.R (Kd.int .i64) 3 w9 w2.heap.size (fun _ => True) v51 (P ++ List.replicate (n + 1) (i : Int)) by
       rw [List.replicate_succ', ← List.append_assoc, HP2.out]; exact H51.out)
      have HMn := Am (show Kd.R k62 62 w9 w2.heap.size (fun k_ => some k_ ≠ (.slice (some ad1) L.length cl : Value).ownBlock) v55 (M ++ L.take (n + 1)) by
       rw [HTK.out, ← List.append_assoc, HM2.out]; exact R_okv' H55.out (fun k hk => (H55.out.1 k hk).1))
      have HLn := Am (R_okv' HLr.out (Q := fun k_ => some k_ ≠ (v55 : Value).ownBlock) (fun k hk e => (H55.out.1 k e.symm).1 hk.symm))
      clear H51 H55 HLr
      go_wp2
      go_roundg kq2
      case measure => omega
      case rel => exact ⟨n + 1, by have := HL21.out; first | rfl | (rw [Go.IntWalk.wrap64_in _ (by omega)]; rfl), ⟨by omega, by have := HN.out.2; omega⟩, HPn, HMn, HLn, HBw⟩
     ·have p8 : decide ((n : Int) < (L.length : Int)) = false := decide_eq_false (by omega)
      have p11 : decide (n < L.length) = false := decide_eq_false q2
      have hn := HN.out.1
      have HP9 := Am (show Kd.R (Kd.int .i64) 3 wr w2.heap.size (fun _ => True) u9 (sqP H (i + 1)) by
       have := HP.out
       rw [show n = L.length by omega] at this
       rw [sqP_succ, HPP.out, HLL.out]; exact this)
      have HM9 := Am (show Kd.R k62 62 wr w2.heap.size (fun _ => True) u10 (sqM H (i + 1)) by
       have := HM.out
       rw [show n = L.length by omega, List.take_length] at this
       rw [sqM_succ, HMM.out, HLL.out]; exact Kd.R_mono this (fun _ _ => trivial))
      clear HP HM HLr
      go_wp2
      go_roundg kq1
      case measure => omega
      case rel => exact ⟨i + 1, by have := HLN.out; have := HI1.out; first | rfl | (rw [Go.IntWalk.wrap64_in _ (by omega)]; rfl), ⟨by have := HI1.out; omega, by have := HI.out.2; omega⟩, HP9, HM9, HW⟩
  ·have p7 : decide ((i : Int) < (t.length : Int)) = false := decide_eq_false (by omega)
   have p6 : decide (i < t.length) = false := decide_eq_false q1
   have hi := HI.out.1
   have HP9 := Am (Kd.R_lower (show Kd.R (Kd.int .i64) 3 wr w2.heap.size (fun _ => True) u9 (sqP H t.length) by
    have := HP.out
    rw [show i = t.length by omega] at this
    exact this) HB2.out.size)
   have HM9 := Am (Kd.R_lower (show Kd.R k62 62 wr w2.heap.size (fun _ => True) u10 (sqM H t.length) by
    have := HM.out
    rw [show i = t.length by omega] at this
    exact this) HB2.out.size)
   clear HP HM
   go_wp2
   go_ret3
   exact ⟨_, _, rfl, HP9.out, HM9.out, HB2.out.trans (HW.out.mono HB2.out.size)⟩
end Go.Proofs.Ytgleaefhflamnaa.T
/- StepsSpots: what the two Spots come to. -/
namespace Go.Proofs.Ytgleaefhflamnaa.T
open Go.RowKit Go.Proofs.YtgleaefhflamnaaW.PrintWords Go.Proofs.YtgleaefhflamnaaW.PrintLast Go.Proofs.YtgleaefhflamnaaW.PrintMore
set_option linter.unusedVariables false
set_option linter.unusedSimpArgs false
theorem pla_out (a : Int) : ∀ {T : Tr}, a ∉ plT T → plaT a T = .nil
 | .nil, _ => rfl
 | .node n p l r, h => by
  simp only [plT, List.mem_cons, List.mem_append, not_or] at h
  rw [plaT, if_neg (fun e => h.1 e.symm), pla_out a h.2.1, pla_out a h.2.2]
  rfl
theorem pla_in {t : List S34} (a : Int) : ∀ (k i : Nat) (T : Tr), mkT t k i = some T → a ∈ plT T → plaT a T ≠ .nil ∧ mkT t k a.toNat = some (plaT a T) := by
 intro k
 induction k with
 | zero => intro i T h; simp [mkT] at h
 | succ k ih =>
  intro i T h ha
  have h0 := h
  rw [mkT] at h
  split at h
  case isFalse => exact absurd h (by simp)
  split at h
  ·obtain ⟨l, hl, h⟩ := Option.bind_eq_some_iff.1 h
   obtain ⟨r, hr, h⟩ := Option.bind_eq_some_iff.1 h
   obtain rfl := Option.some.inj h
   rw [plaT]
   by_cases hp : (i : Int) = a
   ·rw [if_pos hp]
    subst hp
    exact ⟨by simp, by rw [Int.toNat_natCast]; exact h0⟩
   ·rw [if_neg hp]
    simp only [plT, List.mem_cons, List.mem_append] at ha
    by_cases hal : a ∈ plT l
    ·obtain ⟨h1, h2⟩ := ih _ _ hl hal
     cases hx : plaT a l with
     | nil => exact absurd hx h1
     | node _ _ _ _ =>
      rw [hx] at h2
      exact ⟨by simp [orT], mkT_mono t _ _ _ h2⟩
    ·have har : a ∈ plT r := by rcases ha with e | e | e; exact absurd e.symm hp; exact absurd e hal; exact e
     obtain ⟨h1, h2⟩ := ih _ _ hr har
     rw [pla_out a hal]
     exact ⟨h1, mkT_mono t _ _ _ h2⟩
  ·obtain rfl := Option.some.inj h
   simp only [plT, List.append_nil, List.mem_singleton] at ha
   subst ha
   rw [plaT, if_pos rfl]
   exact ⟨by simp, by rw [Int.toNat_natCast]; exact h0⟩
def toR (m : S62) : S24 := ⟨m.f0, m.f1⟩
theorem hereS_le (rt : Bool) (X : Tr) : (hereS rt X).length ≤ 21 := by
 unfold hereS
 exact Nat.le_trans (List.length_filter_le _ _) (by decide)
structure SpotsOk (k : Nat) (t : List S34) (r : Int) (met : List Bool) (H : Nat → List S62) : Prop where
 keys : steps_keys.f k t = some (r, met, 0)
 check : larchref16_Check.f k t = some 0
 root : larchref16_Root.f k t = some (r, 0)
 len : met.length = t.length
 le : ∀ i, (H i).length ≤ 21
 form : ∀ i, i < t.length → 0 ≤ (t.getD i z34).f4 → (t.getD i z34).f4 < t.length ∧ 0 ≤ (t.getD i z34).f5 ∧ (t.getD i z34).f5 < t.length
 prog : ∀ i : Nat, i < t.length → (met.getD i false = true → ∃ K X, mkT t K i = some X ∧ hereS ((i : Int) == r) X = H i) ∧ (met.getD i false = false → H i = [])
 ref : ∀ i : Nat, i < t.length → ∃ X rt e, AskR k t i 1 false X rt e ∧ (e = 0 → Ok X ∧ hereL rt X = (H i).map toR) ∧ (e ≠ 0 → (H i).map toR = [])
def SpotsErr (k : Nat) (t : List S34) (e : Int) : Prop := (e != 0) = true ∧ steps_keys.f k t = some (0, [], e) ∧ ((larchref16_Check.f k t = some e ∧ (e != 0) = true) ∨ (larchref16_Check.f k t = some 0 ∧ ∃ r, larchref16_Root.f k t = some (r, e) ∧ (e != 0) = true))
theorem spots_facts (t : List S34) : ∃ k, (∃ e, SpotsErr k t e) ∨ (∃ r met H, SpotsOk k t r met H) := by
 obtain ⟨kc, vc, c1, c2, c3⟩ := checks_alike t
 obtain ⟨kr, v, h1, h2, h3⟩ := roots_alike t
 by_cases hv : v.2 = 0
 ·obtain ⟨T, X0, hT, hX, hr⟩ := h3 hv
  obtain ⟨c0, hc, hcl, hm, hn, hl⟩ := crown_tree hT hX
  have hlen := hT.len
  have hp := plF_mk (i := v.1) (by omega) (by rw [show v.1.toNat = c0 by omega]; exact hm) (plF.eq_1 t t.length)
  rw [List.append_nil] at hp
  generalize hK : kc + kr + t.length + 1 = K
  obtain ⟨met, e1, e2, e3⟩ := keys_tree t v.1 t.length hlen (formT_of hT.form) K (List.replicate t.length false) [v.1] (plT X0) List.length_replicate hp (by omega) (by omega)
  have hmet : ∀ c : Nat, c < t.length → (met.getD c false = true ↔ (c : Int) ∈ plT X0) := fun c hc => by rw [e3 c hc, getD_replicate_false]; simp
  have hroot : larchref16_Root.f K t = some (v.1, 0) := by
   rw [up_to (fun k => larchref16_Root.mono t k) (show kr ≤ K by omega) h2, ← hv]
  have htroot := up_to (fun k => table_Root.mono t k) (show kr ≤ K by omega) h1
  have hcheck : larchref16_Check.f K t = some 0 := by
   have hc2 := up_to (fun k => larchref16_Check.mono t k) (show kc ≤ K by omega) c2
   unfold larchref16_Root.f at hroot
   rw [hc2, Option.bind_some] at hroot
   by_cases h0 : vc = 0
   ·rw [hc2, h0]
   ·rw [if_neg h0] at hroot
    simp only [Option.some.injEq, Prod.mk.injEq] at hroot
    exact absurd hroot.2 h0
  have hkeys : steps_keys.f K t = some (v.1, met, 0) := by
   unfold steps_keys.f
   rw [htroot, Option.bind_some]
   rw [if_pos hv, if_pos (by omega), if_pos (by omega), Int.toNat_natCast]
   exact e1
  have hin : ∀ i : Nat, (i : Int) ∈ plT X0 → ∃ X, mkT t t.length i = some X ∧ plaT i X0 = X ∧ X ≠ .nil ∧ Ok X := fun i hi => by
   obtain ⟨a1, a2⟩ := pla_in (i : Int) _ _ _ hm hi
   rw [Int.toNat_natCast] at a2
   exact ⟨_, a2, rfl, a1, ok_mkT hT.form a2⟩
  refine ⟨K, .inr ⟨v.1, met, fun i => if met.getD i false = true then hereS ((i : Int) == v.1) ((mkT t t.length i).getD .nil) else [], hkeys, hcheck, hroot, e2, ?_, ?_, ?_, ?_⟩⟩
  ·intro i
   split
   ·exact hereS_le _ _
   ·simp
  ·intro i hi h4
   have := formT_of hT.form i hi
   omega
  ·intro i hi
   constructor
   ·intro h
    obtain ⟨X, a1, a2, a3, a4⟩ := hin i ((hmet i hi).1 h)
    exact ⟨t.length, X, a1, by rw [if_pos h, a1, Option.getD_some]⟩
   ·intro h
    rw [if_neg (by rw [h]; simp)]
  ·intro i hi
   have hmv : larchref18_IsMove.f 1 false = some true := by decide
   by_cases h : met.getD i false = true
   ·obtain ⟨X, a1, a2, a3, a4⟩ := hin i ((hmet i hi).1 h)
    refine ⟨X, (i : Int) == v.1, 0, .inr (.inr (.inr ⟨hcheck, hmv, hT.form, c0, X0, _, by rw [← hc, hr]; exact hroot, hm, rfl, .inr ⟨a2, a3, by rw [← hc, hr], rfl⟩⟩)), fun _ => ⟨a4, ?_⟩, fun e => absurd rfl e⟩
    rw [if_pos h, a1, Option.getD_some, ← hereS_map]
    rfl
   ·refine ⟨.nil, false, 1, .inr (.inr (.inr ⟨hcheck, hmv, hT.form, c0, X0, _, by rw [← hc, hr]; exact hroot, hm, rfl, .inl ⟨pla_out _ (fun e => h ((hmet i hi).2 e)), rfl, rfl, rfl⟩⟩)), fun e => absurd e (by decide), fun _ => ?_⟩
    rw [if_neg h]
    rfl
 ·generalize hK : kc + kr = K
  have hne : (v.2 != 0) = true := by simpa using hv
  have hroot := up_to (fun k => larchref16_Root.mono t k) (show kr ≤ K by omega) h2
  have htroot := up_to (fun k => table_Root.mono t k) (show kr ≤ K by omega) h1
  have hc2 := up_to (fun k => larchref16_Check.mono t k) (show kc ≤ K by omega) c2
  refine ⟨K, .inl ⟨v.2, hne, ?_, ?_⟩⟩
  ·unfold steps_keys.f
   rw [htroot, Option.bind_some]
   rw [if_neg hv]
  ·by_cases h0 : vc = 0
   ·right
    exact ⟨by rw [hc2, h0], v.1, hroot, hne⟩
   ·left
    have hr := hroot
    unfold larchref16_Root.f at hr
    rw [hc2, Option.bind_some, if_neg h0] at hr
    have : vc = v.2 := by rw [← Option.some.inj hr]
    exact ⟨by rw [hc2, this], hne⟩
/- The lists. -/
theorem from_f (l : List S62) (hl : l.length ≤ 10000) : ∀ (d i k : Nat) (o : List S24), i + d = l.length → d < k → o.length = i → larchlaw18_from.l0 k o l (l.length : Int) i = some (o ++ (l.drop i).map toR)
 | 0, i, k, o, h, hk, ho => by
  obtain ⟨k, rfl⟩ : ∃ x, k = x + 1 := ⟨k - 1, by omega⟩
  rw [larchlaw18_from.l0, if_neg (by omega), List.drop_of_length_le (by omega), List.map_nil, List.append_nil]
 | d + 1, i, k, o, h, hk, ho => by
  obtain ⟨k, rfl⟩ : ∃ x, k = x + 1 := ⟨k - 1, by omega⟩
  rw [larchlaw18_from.l0, if_pos (by omega), if_pos (by omega), if_pos (by omega), if_pos (by omega), wi (by omega), from_f l hl d (i + 1) k _ (by omega) (by omega) (by simp; omega)]
  have hi : i < l.length := by omega
  rw [List.drop_eq_getElem_cons hi, List.map_cons, List.append_assoc]
  have : rd_T62 l (i : Int) = l[i] := by rw [show rd_T62 l (i : Int) = l.getD i z62 from rfl, List.getD, List.getElem?_eq_getElem hi, Option.getD_some]
  rw [this]
  rfl
theorem ints_f (l : List Int) (hl : l.length ≤ 10000) : ∀ (d i k : Nat), i + d = l.length → d < k → larchref02_Ints.l0 k l l i = some true
 | 0, i, k, h, hk => by
  obtain ⟨k, rfl⟩ : ∃ x, k = x + 1 := ⟨k - 1, by omega⟩
  rw [larchref02_Ints.l0, if_neg (by omega)]
 | d + 1, i, k, h, hk => by
  obtain ⟨k, rfl⟩ : ∃ x, k = x + 1 := ⟨k - 1, by omega⟩
  rw [larchref02_Ints.l0, if_pos (by omega), if_pos (by omega), if_pos (by omega), if_pos rfl, wi (by omega)]
  exact ints_f l hl d (i + 1) k (by omega) (by omega)
theorem moves_f (l : List S24) (hl : l.length ≤ 10000) : ∀ (d i k : Nat), i + d = l.length → d < k → larchref18_SameMoves.l0 k l l i = some true
 | 0, i, k, h, hk => by
  obtain ⟨k, rfl⟩ : ∃ x, k = x + 1 := ⟨k - 1, by omega⟩
  rw [larchref18_SameMoves.l0, if_neg (by omega)]
 | d + 1, i, k, h, hk => by
  obtain ⟨k, rfl⟩ : ∃ x, k = x + 1 := ⟨k - 1, by omega⟩
  rw [larchref18_SameMoves.l0, if_pos (by omega), if_pos (by omega), if_pos (by omega), if_neg (by simp), wi (by omega)]
  exact moves_f l hl d (i + 1) k (by omega) (by omega)
theorem sq_eq {H : Nat → List S62} {G : Nat → List S24} (h : ∀ i, G i = (H i).map toR) (n : Nat) : (sqM H n).map toR = spM G n ∧ sqP H n = spP G n := by
 induction n with
 | zero => exact ⟨rfl, rfl⟩
 | succ n ih => exact ⟨by rw [sqM_succ, spM_succ, List.map_append, ih.1, h n], by rw [sqP_succ, spP_succ, ih.2, h n, List.length_map]⟩
theorem lists_f {H : Nat → List S62} (h : ∀ i, (H i).length ≤ 21) (n : Nat) (hn : n ≤ 120) : larchlaw18_from.f 10001 (sqM H n) = some (spM (fun i => (H i).map toR) n) ∧ larchref18_SameMoves.f 10001 (spM (fun i => (H i).map toR) n) (spM (fun i => (H i).map toR) n) = some true ∧ larchref02_Ints.f 10001 (sqP H n) (spP (fun i => (H i).map toR) n) = some true := by
 obtain ⟨h1, h2⟩ := sq_len h n
 obtain ⟨e1, e2⟩ := sq_eq (H := H) (G := fun i => (H i).map toR) (fun _ => rfl) n
 rw [← e1, ← e2]
 refine ⟨?_, ?_, ?_⟩
 ·unfold larchlaw18_from.f
  exact from_f _ (by omega) (sqM H n).length 0 10001 [] (by omega) (by omega) rfl
 ·unfold larchref18_SameMoves.f
  rw [if_pos rfl]
  exact moves_f _ (by rw [List.length_map]; omega) ((sqM H n).map toR).length 0 10001 (by omega) (by rw [List.length_map]; omega)
 ·unfold larchref02_Ints.f
  rw [if_pos rfl]
  exact ints_f _ (by omega) (sqP H n).length 0 10001 (by omega) (by omega)
end Go.Proofs.Ytgleaefhflamnaa.T
/- awake: by hand, for the one table that it asks about. -/
namespace Go.Proofs.Ytgleaefhflamnaa.T
open Go.RowKit Go.Proofs.YtgleaefhflamnaaW.PrintWords Go.Proofs.YtgleaefhflamnaaW.PrintLast Go.Proofs.YtgleaefhflamnaaW.PrintMore
set_option linter.unusedVariables false
set_option linter.unusedSimpArgs false
theorem heap_alloc_at {W : World} {n : Nat} (h : W.heap.size = n) (o : Obj) : (W.alloc o).heap[n]? = some o := by subst h; exact heap_alloc_new W o
def someL (x y : Int) : List S34 := [⟨0, 1, 1, 0, 1, 6⟩, ⟨0, 1, 1, 0, 2, 5⟩, ⟨2, 0, 1, 0, 3, 4⟩, ⟨1, 0, x, 0, -1, -1⟩, ⟨2, 0, y, 0, -1, -1⟩, ⟨0, 1, 1, 0, -1, -1⟩, ⟨0, 1, 1, 0, -1, -1⟩]
set_option maxHeartbeats 4000000 in
set_option maxRecDepth 100000 in
theorem some_any (w : World) : Calls Try.prog 40 #[] w fun e w' => ∃ g, e = .returned (.tuple #[.slice (some ⟨g, 0, none⟩) 7 7, .int .i64 2]) ∧ w.heap.size ≤ g ∧ w'.heap[g]? = some (.cells (rowL (someL 2 2)).toArray 34 (0, 0)) ∧ Below w.heap.size w w' := by
 have hu34 := Try.underlying34
 go_enter Try.func40, Try.ntmps40
 go_wp2
 go_ret2
 exact ⟨_, rfl, by omega, heap_alloc_at (by simp) _, ba (ba (ba (ba (Below.refl _ _) _) _) _) _⟩
theorem some_R {W : World} {base g : Nat} {x y : Int} (h : W.heap[g]? = some (.cells (rowL (someL x y)).toArray 34 (0, 0))) (hg : base ≤ g) : Kd.R k34 34 W base (fun _ => True) (.slice (some ⟨g, 0, none⟩) 7 7) (someL x y) := by
 have hl : (rowL (someL x y)).length = 7 * 6 := rowL_len _
 refine row_R (xs := someL x y) ⟨hl, .inr ⟨g, 7, (rowL (someL x y)).toArray, rfl, hg, h, Nat.le_refl _, by simp [maxLen], by rw [List.size_toArray]; exact hl, ?_⟩⟩
 exact List.take_of_length_le (Nat.le_of_eq hl)
theorem wake_do : ∃ k, steps_Do.f k (someL 2 2) 2 11 false = some (someL 1 1, 0) ∧ larchref18_SameTable.f k (someL 1 1) (someL 1 1) = some true := ⟨30, by kernel_rfl, by kernel_rfl⟩
set_option maxHeartbeats 4000000 in
set_option maxRecDepth 100000 in
theorem awake_any (w : World) : Calls Try.prog 10 #[] w fun e w' => e = .returned (.bool true) ∧ Below w.heap.size w w' := by
 obtain ⟨k, h1, h2⟩ := wake_do
 have H1 := Am h1
 have H2 := Am h2
 clear h1 h2
 go_enter Try.func10, Try.ntmps10
 go_wp2_with (fail)
 refine (some_any _).mono ?_
 rintro e w1 ⟨g, rfl, hg, hk, hb⟩
 have HG := Am hg
 have HK := Am hk
 have HB := Am hb
 clear hg hk hb
 go_wp2_with (fail)
 refine (steps_Do.calls k (some ⟨g, 0, none⟩) 7 (someL 2 2) 2 11 false _ 0 _ (Kd.R_reads' (some_R HK.out (Nat.le_refl _))).2.2 (Nat.le_refl _) H1.out).mono ?_
 rintro e w2 ⟨v2, rfl, ho, hb⟩
 obtain ⟨ga, ca, rfl, hga, -, -⟩ := Kd.R_form ho (by decide)
 have hlt := blk_lt HK.out
 have HO := Am ho
 have hk := (hb.block g hlt).trans HK.out
 have HB2 := Am (HB.out.trans (hb.mono HB.out.size))
 have z3 : w2.cell? ⟨g, 20, none⟩ = some (.int .i64 2) := (cell_of hk 20).trans rfl
 have z4 : w2.cell? ⟨g, 26, none⟩ = some (.int .i64 2) := (cell_of hk 26).trans rfl
 have f3 := frz_of hk 20
 have f4 := frz_of hk 26
 have HK2 := Am hk
 have HN := Am (show g ≠ ga by omega)
 clear ho hb hk HB HK hga
 go_wp2_with (fail)
 have hA := Kd.R_drop (Kd.R_far (p := ⟨g, 26, none⟩) (Kd.R_far1 (Kd.R_drop (Kd.R_far (p := ⟨g, 20, none⟩) (Kd.R_far1 HO.out rfl (g := g) (by simpa [Value.ownBlock] using HN.out)) (fun _ hk => hk.2) (.int .i64 1))) rfl (g := g) (by simpa [Value.ownBlock] using HN.out)) (fun _ hk => hk.2) (.int .i64 1))
 have hk := blk_set (blk_set HK2.out 20 (.int .i64 1)) 26 (.int .i64 1)
 refine (larchref18_SameTable.calls k (some ⟨ga, 0, none⟩) ca (someL 1 1) (some ⟨g, 0, none⟩) 7 (someL 1 1) true _ (Kd.R_reads' hA).2.2 (Kd.R_reads' hA).2.1 (Kd.R_reads' (some_R (x := 1) (y := 1) hk HG.out)).2.2 (Nat.le_refl _) H2.out).mono ?_
 rintro e w4 ⟨rfl, m, rfl⟩
 go_wp2
 go_ret
 exact ⟨rfl, bn (below_set (below_set HB2.out HG.out) HG.out) _⟩
end Go.Proofs.Ytgleaefhflamnaa.T
/- StepsSpots: for every table the law returns true. -/
namespace Go.Proofs.Ytgleaefhflamnaa.T
open Go.RowKit Go.Proofs.YtgleaefhflamnaaW.PrintWords Go.Proofs.YtgleaefhflamnaaW.PrintLast Go.Proofs.YtgleaefhflamnaaW.PrintMore
set_option linter.unusedVariables false
set_option linter.unusedSimpArgs false
set_option maxHeartbeats 4000000 in
set_option maxRecDepth 100000 in
theorem spots_long (A0 : Option Addr) (c0 : Nat) (t : List S34) (w : World) (hr0 : Kd.C k34 w A0 t.length t) (hc0 : t.length ≤ c0) (h : 120 < t.length) :
  Calls Try.prog 5 #[.slice A0 t.length c0] w fun e w' => e = .returned (.bool true) ∧ Below w.heap.size w w' := by
 have q : decide (120 < (t.length : Int)) = true := decide_eq_true (by omega)
 have q' : decide ((t.length : Int) > 120) = true := decide_eq_true (by omega)
 go_enter Try.func5, Try.ntmps5
 go_wp2_with (fail)
 refine (awake_any _).mono ?_
 rintro e w1 ⟨rfl, hb⟩
 have HB := Am hb
 clear hb
 go_wp2
 go_ret
 exact ⟨rfl, HB.out⟩
set_option maxHeartbeats 8000000 in
set_option maxRecDepth 100000 in
theorem spots_both (k : Nat) (A0 : Option Addr) (c0 : Nat) (t : List S34) (e : Int) (P : List Int) (L : List S62) (M : List S24) (w : World) (hr0 : Kd.C k34 w A0 t.length t) (hc0 : t.length ≤ c0) (h : ¬ 120 < t.length)
  (hr : ∀ w, Kd.C k34 w A0 t.length t → Calls Try.prog 15 #[.slice A0 t.length c0] w fun ed w' => ∃ v1 v2, ed = .returned (.tuple #[v1, v2, .int .i64 e]) ∧ Kd.R (Kd.int .i64) 3 w' w.heap.size (fun _ => True) v1 P ∧ Kd.R k24 24 w' w.heap.size (fun _ => True) v2 M ∧ Below w.heap.size w w')
  (hs : ∀ w, Kd.C k34 w A0 t.length t → Calls Try.prog 16 #[.slice A0 t.length c0] w fun ed w' => ∃ v1 v2, ed = .returned (.tuple #[v1, v2, .int .i64 e]) ∧ Kd.R (Kd.int .i64) 3 w' w.heap.size (fun _ => True) v1 P ∧ Kd.R k62 62 w' w.heap.size (fun _ => True) v2 L ∧ Below w.heap.size w w')
  (hf : larchlaw18_from.f k L = some M) (hi : larchref02_Ints.f k P P = some true) (hm : larchref18_SameMoves.f k M M = some true) :
  Calls Try.prog 5 #[.slice A0 t.length c0] w fun e w' => e = .returned (.bool true) ∧ Below w.heap.size w w' := by
 have q : decide (120 < (t.length : Int)) = false := decide_eq_false (by omega)
 have q' : decide ((t.length : Int) > 120) = false := decide_eq_false (by omega)
 have HR0 := Am hr0
 have HC0 := Am hc0
 have HR := Am hr
 have HS := Am hs
 have HF := Am hf
 have HI := Am hi
 have HM := Am hm
 clear hr0 hc0 h hr hs hf hi hm
 go_enter Try.func5, Try.ntmps5
 go_wp2_with (fail)
 refine (awake_any _).mono ?_
 rintro _ w1 ⟨rfl, hb⟩
 have HB := Am hb
 clear hb
 go_wp2_with (fail)
 refine (HR.out _ (Kd.C_below HR0.out HB.out)).mono ?_
 rintro _ w2 ⟨v1, v2, rfl, h1, h2, hb⟩
 obtain ⟨A1, c1, rfl⟩ := Kd.R_slice h1
 obtain ⟨A2, c2, rfl⟩ := Kd.R_slice h2
 have HB2 := Am (bel_t' HB.out hb)
 have H1 := Am (Kd.R_reads' h1).2
 have H2 := Am (Kd.R_reads' h2).2
 clear hb HB h1 h2
 go_wp2_with (fail)
 refine (HS.out _ (Kd.C_below HR0.out HB2.out)).mono ?_
 rintro _ w3 ⟨v3, v4, rfl, h3, h4, hb⟩
 obtain ⟨A3, c3, rfl⟩ := Kd.R_slice h3
 obtain ⟨A4, c4, rfl⟩ := Kd.R_slice h4
 have HB3 := Am (bel_t' HB2.out hb)
 have H3 := Am (Kd.R_reads' h3).2
 have H4 := Am (Kd.R_reads' h4).2
 have H1' := Am (And.intro H1.out.1 (Kd.C_below H1.out.2 hb))
 have H2' := Am (And.intro H2.out.1 (Kd.C_below H2.out.2 hb))
 clear hb HB2 h3 h4 H1 H2
 go_wp2_with (fail)
 refine (larchlaw18_plain.calls e e true _ (by unfold larchlaw18_plain.f; rw [beq_self_eq_true])).mono ?_
 rintro _ w4 ⟨rfl, hb⟩
 have HB4 := Am (bel_t' HB3.out hb.below)
 have HD := Am hb.below
 clear hb HB3
 go_wp2_with (fail)
 refine (larchref02_Ints.calls k _ _ P _ _ P true _ (Kd.C_below H3.out.2 HD.out) H3.out.1 (Kd.C_below H1'.out.2 HD.out) H1'.out.1 HI.out).mono ?_
 rintro _ w5 ⟨rfl, hb⟩
 have HB5 := Am (bel_t' HB4.out hb.below)
 have HD2 := Am (HD.out.trans (hb.below.mono HD.out.size))
 clear hb HB4 HD
 go_wp2_with (fail)
 refine (larchlaw18_from.calls k _ _ L M _ (Kd.C_below H4.out.2 HD2.out) H4.out.1 HF.out).mono ?_
 rintro _ w6 ⟨v6, rfl, ho, hb⟩
 obtain ⟨A6, c6, rfl⟩ := Kd.R_slice ho
 have HB6 := Am (bel_t' HB5.out hb)
 have HD3 := Am (HD2.out.trans (hb.mono HD2.out.size))
 have H6 := Am (Kd.R_reads' ho).2
 clear hb ho HB5 HD2
 go_wp2_with (fail)
 refine (larchref18_SameMoves.calls k _ _ M _ _ M true _ H6.out.2 H6.out.1 (Kd.C_below H2'.out.2 HD3.out) H2'.out.1 HM.out).mono ?_
 rintro _ w7 ⟨rfl, hb⟩
 have HB7 := Am (bel_t' HB6.out hb.below)
 clear hb
 go_wp2
 go_ret
 exact ⟨rfl, HB7.out⟩
theorem spots_any (A0 : Option Addr) (c0 : Nat) (t : List S34) (w : World) (hr0 : Kd.C k34 w A0 t.length t) (hc0 : t.length ≤ c0) :
  Calls Try.prog 5 #[.slice A0 t.length c0] w fun e w' => e = .returned (.bool true) ∧ Below w.heap.size w w' := by
 by_cases hl : 120 < t.length
 ·exact spots_long A0 c0 t w hr0 hc0 hl
 ·obtain ⟨k, ⟨e, h1, h2, h3⟩ | ⟨r, met, H, h⟩⟩ := spots_facts t
  ·refine spots_both 1 A0 c0 t e [] [] [] w hr0 hc0 hl (fun w hw => ?_) (fun w hw => ?_) rfl rfl rfl
   ·refine (rspots_err k A0 c0 t e w hw hc0 h3).mono ?_
    rintro _ w' ⟨rfl, hb⟩
    exact ⟨_, _, rfl, Kd.R_nil _ _ _ _ _, Kd.R_nil _ _ _ _ _, hb⟩
   ·refine (sspots_err k A0 c0 t 0 [] e w hw hc0 h2 h1).mono ?_
    rintro _ w' ⟨rfl, hb⟩
    exact ⟨_, _, rfl, Kd.R_nil _ _ _ _ _, Kd.R_nil _ _ _ _ _, hb⟩
  ·obtain ⟨f1, f2, f3⟩ := lists_f h.le t.length (by omega)
   have hP : sqP H t.length = spP (fun i => (H i).map toR) t.length := (sq_eq (G := fun i => (H i).map toR) (fun _ => rfl) _).2
   rw [← hP] at f3
   refine spots_both 10001 A0 c0 t 0 _ _ _ w hr0 hc0 hl (fun w hw => ?_) (fun w hw => ?_) f1 f3 f2
   ·rw [hP]
    exact rspots_ok k A0 c0 t r _ w hw hc0 (by omega) h.check h.root (fun i => by rw [List.length_map]; exact h.le i) h.ref
   ·exact sspots_ok k A0 c0 t r met H w hw hc0 (by omega) h.keys h.len h.le h.form h.prog
end Go.Proofs.Ytgleaefhflamnaa.T
