/- A part of the proof: see YtgleaefhflamnaaLawStepsLeaves. -/
import Derived.BigRegion
import Derived.Deep.OwnRows
import Derived.Test.YtgleaefhflamnaaZl1
set_option linter.unusedVariables false
set_option linter.unusedSimpArgs false
namespace Go.Proofs.Ytgleaefhflamnaa.T
open Go.RowKit Go.Proofs.YtgleaefhflamnaaW.PrintWords Go.Proofs.YtgleaefhflamnaaW.PrintLast Go.Proofs.YtgleaefhflamnaaW.PrintMore
attribute [local go_sem] max2_int min2_int max_two min_two max_three min_three max_four min_four   -- for this text's walks alone
set_option linter.unusedVariables false
set_option linter.unusedSimpArgs false
def table_Pairs.l0 : Nat → List (S34) → List (S78) → List Int → Int → Int → Option ((List (S78)) × Int)
 | 0, _, _, _, _, _ => none
 | k + 1, x0, x6, x17, x18, x19 => if x19 < x18 then (if 0 ≤ x19 then (if x19 < (x17.length : Int) then (if 0 ≤ (rd x17 x19) then (if (rd x17 x19) < (x0.length : Int) then (if ((rd_T34 x0 (rd x17 x19)).f1) = 0 then (if x6.length < 8796093022208 then (table_Pairs.l0 k x0 (x6 ++ [(⟨(rd_T34 x0 (rd x17 x19)).f0, (rd_T34 x0 (rd x17 x19)).f3⟩ : S78)]) x17 x18 (wrap64 (x19 + 1))) else (none)) else (table_Pairs.l0 k x0 x6 x17 x18 (wrap64 (x19 + 1)))) else (none)) else (none)) else (none)) else (none)) else (some (x6, 0))
def table_Pairs.f (k : Nat) (l0 : List (S34)) : Option ((List (S78)) × Int) := (table_Leaves.f k l0).bind fun bt310 => (if bt310.2 = 0 then (table_Pairs.l0 k l0 ([] : List (S78)) bt310.1 (bt310.1.length : Int) 0) else (some (([] : List (S78)), bt310.2)))
theorem table_Pairs.mono_l : ∀ k, (∀ y0 y1 y2 y3 y4, LeO (table_Pairs.l0 k y0 y1 y2 y3 y4) (table_Pairs.l0 (k + 1) y0 y1 y2 y3 y4))
 | 0 => fun _ _ _ _ _ r h => by simp [table_Pairs.l0] at h
 | k + 1 => by
  have ih0 := table_Pairs.mono_l k
  ·intro y0 y1 y2 y3 y4
   unfold table_Pairs.l0
   repeat' first
   | (with_reducible exact ih0 _ _ _ _ _)
   | (with_reducible exact table_Leaves.mono _ _)
   | (with_reducible exact LeO.refl _)
   | (with_reducible exact LeO.none _)
   | (with_reducible refine LeO.ite ?_ ?_)
   | (with_reducible refine LeO.bind ?_ (fun _ => ?_))
   | exact ih0 _ _ _ _ _
   | exact table_Leaves.mono _ _
   | exact LeO.none _
   | refine LeO.ite ?_ ?_
   | refine LeO.bind ?_ (fun _ => ?_)
theorem table_Pairs.mono : ∀ a0 k, LeO (table_Pairs.f k a0) (table_Pairs.f (k + 1) a0) := by
 intro a0 k
 have ih0 := table_Pairs.mono_l k
 unfold table_Pairs.f
 repeat' first
   | (with_reducible exact ih0 _ _ _ _ _)
   | (with_reducible exact table_Leaves.mono _ _)
   | (with_reducible exact LeO.refl _)
   | (with_reducible exact LeO.none _)
   | (with_reducible refine LeO.ite ?_ ?_)
   | (with_reducible refine LeO.bind ?_ (fun _ => ?_))
   | exact ih0 _ _ _ _ _
   | exact table_Leaves.mono _ _
   | exact LeO.none _
   | refine LeO.ite ?_ ?_
   | refine LeO.bind ?_ (fun _ => ?_)
def table_Pairs.T9 : Bool × List (List Nat × List Nat) := (true, [([], []), ([], []), ([], []), ([1, 2], [1, 2]), ([3], [3]), ([4], [4]), ([], []), ([], []), ([6, 7], [6, 7]), ([8], [8]), ([9], [9]), ([5, 10], [5, 10]), ([11], [11]), ([0, 12], [0, 12]), ([13, 13, 0, 1, 2, 3, 4, 5, 6, 7, 8, 9, 10, 11, 12, 13], [0, 13])])
def table_Pairs.B9 : List Nat := [0, 0, 0, 6, 14, 30, 0, 0, 192, 448, 960, 2046, 4094, 8191, 16383]
theorem table_Pairs.tab9 : rtab .any (opsOf Try.f36 9) = table_Pairs.T9 := by kernel_rfl
theorem table_Pairs.bits9 : waitsOk table_Pairs.T9.2 table_Pairs.B9 = true := by kernel_rfl
set_option maxHeartbeats 8000000 in
set_option maxRecDepth 100000 in
theorem table_Pairs.calls (k : Nat) (A0 : Option Addr) (c0 : Nat) (l0 : List (S34)) (r1 : List (S78)) (r2 : Int) (w : World) (hr0 : Kd.C k34 w A0 l0.length l0) (hc0 : l0.length ≤ c0) (h : table_Pairs.f k l0 = some (r1, r2)) :
  Calls Try.prog 36 #[.slice A0 l0.length c0] w fun e w' => ∃ v0_ : Value, e = .returned (.tuple #[v0_, .int .i64 r2]) ∧ Kd.R k78 78 w' w.heap.size (fun _ => True) v0_ r1 ∧ Below w.heap.size w w' := by
 have hu78 := Try.underlying78
 have HR0 := Am hr0
 have HC0 := Am hc0
 clear hr0 hc0
 have HB := Am (Below.refl w.heap.size w)
 have H : ((table_Leaves.f k l0).bind fun bt310 => (if bt310.2 = 0 then (table_Pairs.l0 k l0 ([] : List (S78)) bt310.1 (bt310.1.length : Int) 0) else (some (([] : List (S78)), bt310.2)))) = some (r1, r2) := h
 clear h
 replace H := Option.bind_eq_some_iff.mp H
 obtain ⟨⟨t310, t311⟩, A20, H⟩ := H
 replace H : (if t311 = 0 then (table_Pairs.l0 k l0 ([] : List (S78)) t310 (t310.length : Int) 0) else (some (([] : List (S78)), t311))) = some (r1, r2) := H
 have A2 := Am A20
 clear A20
 by_cases c3 : t311 = 0
 ·rw [if_pos c3] at H
  have c3b0 : (t311 == 0) = true := beq_iff_eq.mpr c3
  have c3b1 : (t311 != 0) = false := bne_eq_false_iff_eq.mpr c3
  clear c3
  have H' := Am H
  clear H
  go_enter Try.func36, Try.ntmps36
  go_wp2_with (first | ((with_reducible refine gate_callee (f := 71) rfl ?_); refine goesL_ (some 11) rfl rfl Try.func71 (by kernel_rfl) rfl #[.slice A0 l0.length c0] rfl (by (try simp only [List.map_toArray, List.map_cons, List.map_nil]); first | done | rfl | (simp only [List.length_drop, List.length_take]; rfl)) ?_; (with_reducible refine (table_Leaves.calls k _ _ l0 t310 t311 _ ?side1 ?side2 A2.out).mono ?_); (case side1 => repeat (first | exact HR0.out | (with_reducible refine Kd.C_alloc ?_ _) | (with_reducible refine Kd.C_drewN ?_ _) | (with_reducible refine Kd.C_drew ?_))); (case side2 => exact HC0.out); rintro e w4 ⟨v312, rfl, ho0, hb⟩; refine ⟨_, rfl, ?_⟩; have n0_ := Am (Kd.R_lower ho0 (below_size (by repeat (first | (with_reducible first | exact HB.out | apply ba | apply bn | apply bd) | exact HB.out)))); have n1_ := Am (below_step (by repeat (first | (with_reducible first | exact HB.out | apply ba | apply bn | apply bd) | exact HB.out)) hb); clear HB; have HO313 := n0_; have HB := n1_; clear n0_ n1_; (try clear hb); (try clear hb2); (try clear hk); (try clear hi); (try clear ho0); obtain ⟨Ao5, co5, eo5⟩ := Kd.R_slice HO313.out; subst eo5))
  go_loopg [6, 19] k (fun kq v6 v19 w' => ∃ (x6_1 : List (S78)) (x19_1 : Int), v19 = .int .i64 x19_1 ∧ Aside0 (table_Pairs.l0 kq l0 x6_1 t310 (t310.length : Int) x19_1 = some (r1, r2)) ∧ Aside0 (kq ≤ k) ∧ Aside0 (Kd.R k78 78 w' w.heap.size (fun _ => True) v6 x6_1) ∧ Aside0 (Kd.R (Kd.int .i64) 3 w' w.heap.size (fun _ => True) (.slice Ao5 t310.length co5) t310) ∧ Aside0 (Below w.heap.size w w'))
  case atStart => exact ⟨(([] : List (S78))), (0), (by first | rfl | (simp; done) | (simp [*]; done)), H', ⟨Nat.le_refl _⟩, ⟨by first | exact Kd.R_nil _ _ _ _ _ | exact Kd.N_nil _ _ _ _ _ | exact Kd.V_nil _ _ _ _ _ | exact Kd.Q_nil _ _ _ _ _ | exact Kd.S_nil _ _ _ _ _⟩, ⟨by (with_reducible repeat (first | apply Kd.R_alloc | apply Kd.R_drewN | apply Kd.R_drew)); exact HO313.out⟩, ⟨by repeat (first | (with_reducible first | exact HB.out | apply ba | apply bn | apply bd) | exact HB.out)⟩⟩
  case round =>
   clear H'
   try clear p2
   try clear c3
   try clear c3b0
   try clear c3b1
   obtain ⟨x6_1, x19_1, rfl, HA, HK1, HO_6, HO_17, HB⟩ := hrel
   cases gk with
   | zero => exact absurd HA.out (by simp [table_Pairs.l0])
   | succ k1 =>
    have H := HA.out
    clear HA
    simp only [table_Pairs.l0] at H
    by_cases c6 : x19_1 < (t310.length : Int)
    ·rw [if_pos c6] at H
     have c6b0 : decide (x19_1 < (t310.length : Int)) = true := decide_eq_true c6
     clear c6
     by_cases c7 : 0 ≤ x19_1
     ·rw [if_pos c7] at H
      have c7b0 : decide (0 ≤ x19_1) = true := decide_eq_true c7
      clear c7
      by_cases c8 : x19_1 < (t310.length : Int)
      ·rw [if_pos c8] at H
       have c8b0 : decide (x19_1 < (t310.length : Int)) = true := decide_eq_true c8
       clear c8
       by_cases c9 : 0 ≤ (rd t310 x19_1)
       ·rw [if_pos c9] at H
        have c9b0 : decide (0 ≤ (rd t310 x19_1)) = true := decide_eq_true c9
        clear c9
        by_cases c10 : (rd t310 x19_1) < (l0.length : Int)
        ·rw [if_pos c10] at H
         have c10b0 : decide ((rd t310 x19_1) < (l0.length : Int)) = true := decide_eq_true c10
         clear c10
         by_cases c11 : ((rd_T34 l0 (rd t310 x19_1)).f1) = 0
         ·rw [if_pos c11] at H
          have c11b0 : (((rd_T34 l0 (rd t310 x19_1)).f1) == 0) = true := beq_iff_eq.mpr c11
          have c11b1 : (((rd_T34 l0 (rd t310 x19_1)).f1) != 0) = false := bne_eq_false_iff_eq.mpr c11
          clear c11
          by_cases c12 : x6_1.length < 8796093022208
          ·rw [if_pos c12] at H
           have LMc12 := Am c12
           clear c12
           obtain ⟨y318, hy318⟩ : ∃ y_ : List (S78), y_ = (x6_1 ++ [(⟨(rd_T34 l0 (rd t310 x19_1)).f0, (rd_T34 l0 (rd t310 x19_1)).f3⟩ : S78)]) := ⟨_, rfl⟩
           replace H : (table_Pairs.l0 k1 l0 y318 t310 (t310.length : Int) (wrap64 (x19_1 + 1))) = some (r1, r2) := by first | (rw [hy318]; with_reducible exact H) | (have H2_ := (Option.bind_some _ _).symm.trans H; rw [hy318]; with_reducible exact H2_) | (have H2_ := (Option.bind_some _ _).symm.trans H; with_reducible exact H2_) | with_reducible exact H | (rw [hy318]; exact H) | exact H
           have Ny318 := Am hy318
           clear hy318
           have H' := Am H
           clear H
           have p314 : 0 ≤ (x19_1 : Int) := of_decide_eq_true (by first | (with_reducible assumption) | assumption)
           have q314 : x19_1 < (t310.length : Int) := of_decide_eq_true (by first | (with_reducible assumption) | assumption)
           obtain ⟨ad314, e314, hx314_0⟩ := Kd.at_int (Kd.R_reads' HO_17.out).2.2 x19_1 p314 q314
           cases e314
           replace p314 := eq_true p314
           replace q314 := eq_true q314
           have p315 : 0 ≤ ((rd t310 x19_1) : Int) := of_decide_eq_true (by first | (with_reducible assumption) | assumption)
           have q315 : (rd t310 x19_1) < (l0.length : Int) := of_decide_eq_true (by first | (with_reducible assumption) | assumption)
           obtain ⟨ad315, e315, hx315_0, hx315_1, hx315_2, hx315_3, hx315_4, hx315_5⟩ := at_T34 HR0.out (rd t310 x19_1) p315 q315
           cases e315
           replace hx315_0 := (HB.out.cell (blt w _ hx315_0)).trans hx315_0
           replace hx315_1 := (HB.out.cell (blt w _ hx315_1)).trans hx315_1
           replace hx315_2 := (HB.out.cell (blt w _ hx315_2)).trans hx315_2
           replace hx315_3 := (HB.out.cell (blt w _ hx315_3)).trans hx315_3
           replace hx315_4 := (HB.out.cell (blt w _ hx315_4)).trans hx315_4
           replace hx315_5 := (HB.out.cell (blt w _ hx315_5)).trans hx315_5
           replace p315 := eq_true p315
           replace q315 := eq_true q315
           try go_wp2
           have n0_ := Am (Kd.R_drew HO_6.out)
           have n1_ := Am (Kd.R_drew HO_17.out)
           have n2_ := Am (bd HB.out)
           clear HO_6
           clear HO_17
           clear HB
           have HO_6 := n0_
           have HO_17 := n1_
           have HB := n2_
           clear n0_ n1_ n2_
           have p316 : 0 ≤ ((rd t310 x19_1) : Int) := of_decide_eq_true (by first | (with_reducible assumption) | assumption)
           have q316 : (rd t310 x19_1) < (l0.length : Int) := of_decide_eq_true (by first | (with_reducible assumption) | assumption)
           obtain ⟨ad316, e316, hx316_0, hx316_1, hx316_2, hx316_3, hx316_4, hx316_5⟩ := at_T34 HR0.out (rd t310 x19_1) p316 q316
           have hw316_5 := hx316_5
           have hw316_4 := hx316_4
           have hw316_3 := hx316_3
           have hw316_2 := hx316_2
           have hw316_1 := hx316_1
           have hw316_0 := hx316_0
           obtain rfl : ad315 = ad316 := (by injection e316)
           replace hx316_0 := (HB.out.cell (blt w _ hx316_0)).trans hx316_0
           replace hx316_1 := (HB.out.cell (blt w _ hx316_1)).trans hx316_1
           replace hx316_2 := (HB.out.cell (blt w _ hx316_2)).trans hx316_2
           replace hx316_3 := (HB.out.cell (blt w _ hx316_3)).trans hx316_3
           replace hx316_4 := (HB.out.cell (blt w _ hx316_4)).trans hx316_4
           replace hx316_5 := (HB.out.cell (blt w _ hx316_5)).trans hx316_5
           replace p316 := eq_true p316
           replace q316 := eq_true q316
           have p317 : 0 ≤ ((rd t310 x19_1) : Int) := of_decide_eq_true (by first | (with_reducible assumption) | assumption)
           have q317 : (rd t310 x19_1) < (l0.length : Int) := of_decide_eq_true (by first | (with_reducible assumption) | assumption)
           obtain ⟨ad317, e317, hx317_0, hx317_1, hx317_2, hx317_3, hx317_4, hx317_5⟩ := at_T34 HR0.out (rd t310 x19_1) p317 q317
           have hw317_5 := hx317_5
           have hw317_4 := hx317_4
           have hw317_3 := hx317_3
           have hw317_2 := hx317_2
           have hw317_1 := hx317_1
           have hw317_0 := hx317_0
           obtain rfl : ad315 = ad317 := (by injection e317)
           replace hx317_0 := (HB.out.cell (blt w _ hx317_0)).trans hx317_0
           replace hx317_1 := (HB.out.cell (blt w _ hx317_1)).trans hx317_1
           replace hx317_2 := (HB.out.cell (blt w _ hx317_2)).trans hx317_2
           replace hx317_3 := (HB.out.cell (blt w _ hx317_3)).trans hx317_3
           replace hx317_4 := (HB.out.cell (blt w _ hx317_4)).trans hx317_4
           replace hx317_5 := (HB.out.cell (blt w _ hx317_5)).trans hx317_5
           replace p317 := eq_true p317
           replace q317 := eq_true q317
           refine start_ (n := 15) (S := fun w' => w'.cell? (ad315.add (((rd t310 x19_1)).toNat * 6)) = some (.int .i64 ((rd_T34 l0 (rd t310 x19_1)).f0)) ∧ w'.cell? ⟨(ad315.add (((rd t310 x19_1)).toNat * 6)).block, (ad315.add (((rd t310 x19_1)).toNat * 6)).off + 1, none⟩ = some (.int .i64 ((rd_T34 l0 (rd t310 x19_1)).f1)) ∧ w'.cell? ⟨(ad315.add (((rd t310 x19_1)).toNat * 6)).block, (ad315.add (((rd t310 x19_1)).toNat * 6)).off + 2, none⟩ = some (.int .i64 ((rd_T34 l0 (rd t310 x19_1)).f2)) ∧ w'.cell? ⟨(ad315.add (((rd t310 x19_1)).toNat * 6)).block, (ad315.add (((rd t310 x19_1)).toNat * 6)).off + 3, none⟩ = some (.int .i64 ((rd_T34 l0 (rd t310 x19_1)).f3)) ∧ w'.cell? ⟨(ad315.add (((rd t310 x19_1)).toNat * 6)).block, (ad315.add (((rd t310 x19_1)).toNat * 6)).off + 4, none⟩ = some (.int .i64 ((rd_T34 l0 (rd t310 x19_1)).f4)) ∧ w'.cell? ⟨(ad315.add (((rd t310 x19_1)).toNat * 6)).block, (ad315.add (((rd t310 x19_1)).toNat * 6)).off + 5, none⟩ = some (.int .i64 ((rd_T34 l0 (rd t310 x19_1)).f5)) ∧ w'.cell? (ad315.add (((rd t310 x19_1)).toNat * 6)) = some (.int .i64 ((rd_T34 l0 (rd t310 x19_1)).f0)) ∧ w'.cell? ⟨(ad315.add (((rd t310 x19_1)).toNat * 6)).block, (ad315.add (((rd t310 x19_1)).toNat * 6)).off + 1, none⟩ = some (.int .i64 ((rd_T34 l0 (rd t310 x19_1)).f1)) ∧ w'.cell? ⟨(ad315.add (((rd t310 x19_1)).toNat * 6)).block, (ad315.add (((rd t310 x19_1)).toNat * 6)).off + 2, none⟩ = some (.int .i64 ((rd_T34 l0 (rd t310 x19_1)).f2)) ∧ w'.cell? ⟨(ad315.add (((rd t310 x19_1)).toNat * 6)).block, (ad315.add (((rd t310 x19_1)).toNat * 6)).off + 3, none⟩ = some (.int .i64 ((rd_T34 l0 (rd t310 x19_1)).f3)) ∧ w'.cell? ⟨(ad315.add (((rd t310 x19_1)).toNat * 6)).block, (ad315.add (((rd t310 x19_1)).toNat * 6)).off + 4, none⟩ = some (.int .i64 ((rd_T34 l0 (rd t310 x19_1)).f4)) ∧ w'.cell? ⟨(ad315.add (((rd t310 x19_1)).toNat * 6)).block, (ad315.add (((rd t310 x19_1)).toNat * 6)).off + 5, none⟩ = some (.int .i64 ((rd_T34 l0 (rd t310 x19_1)).f5))) (ds := []) #[false, false, false, false, false, false, false, false, false, false, false, false, false, false, false] (by kernel_rfl) rfl rfl ⟨((HB.out.cell (blt w _ hw316_0)).trans hw316_0), ((HB.out.cell (blt w _ hw316_1)).trans hw316_1), ((HB.out.cell (blt w _ hw316_2)).trans hw316_2), ((HB.out.cell (blt w _ hw316_3)).trans hw316_3), ((HB.out.cell (blt w _ hw316_4)).trans hw316_4), ((HB.out.cell (blt w _ hw316_5)).trans hw316_5), ((HB.out.cell (blt w _ hw317_0)).trans hw317_0), ((HB.out.cell (blt w _ hw317_1)).trans hw317_1), ((HB.out.cell (blt w _ hw317_2)).trans hw317_2), ((HB.out.cell (blt w _ hw317_3)).trans hw317_3), ((HB.out.cell (blt w _ hw317_4)).trans hw317_4), ((HB.out.cell (blt w _ hw317_5)).trans hw317_5)⟩ (fun hHeld => ?_); refine with_tabW table_Pairs.tab9 table_Pairs.bits9 (fun HT_ HW_ => ?_)
           generalize wr.drew = w13 at HO_6 HO_17 HB hx316_0 hx316_1 hx316_2 hx316_3 hx316_4 hx316_5 hx317_0 hx317_1 hx317_2 hx317_3 hx317_4 hx317_5 hHeld ⊢
           refine pure_ (i := 0) (N := some 29) (v := ?_) (a' := ?_) #[true, false, false, false, false, false, false, false, false, false, false, false, false, false, false] rfl rfl (any_of HT_.out (by kernel_rfl)) (fun _ _ _ h => h) (Or.inl ⟨by rfl, ?_⟩) ?_ ?_
           rotate_left
           ·intro w'
            go_simp
            with_reducible rfl
           rotate_left
           ·simp only [Act.put, sI, sZ, sS, i64_w, i32_w]
            rfl
           refine pure_ (i := 1) (N := some 30) (v := ?_) (a' := ?_) #[true, true, false, false, false, false, false, false, false, false, false, false, false, false, false] rfl rfl (any_of HT_.out (by kernel_rfl)) (fun _ _ _ h => h) (Or.inl ⟨by rfl, ?_⟩) ?_ ?_
           rotate_left
           ·intro w'
            go_simp
            with_reducible rfl
           rotate_left
           ·simp only [Act.put, sI, sZ, sS, i64_w, i32_w]
            rfl
           refine pure_ (i := 2) (N := some 31) (v := ?_) (a' := ?_) #[true, true, true, false, false, false, false, false, false, false, false, false, false, false, false] rfl rfl (any_of HT_.out (by kernel_rfl)) (fun _ _ _ h => h) (Or.inl ⟨by rfl, ?_⟩) ?_ ?_
           rotate_left
           ·intro w'
            go_simp
            with_reducible rfl
           rotate_left
           ·simp only [Act.put, sI, sZ, sS, i64_w, i32_w]
            rfl
           refine pure_ (i := 3) (N := some 32) (v := ?_) (a' := ?_) #[true, true, true, true, false, false, false, false, false, false, false, false, false, false, false] rfl rfl (any_of HT_.out (by kernel_rfl)) (fun _ _ _ h => h) (Or.inl ⟨by rfl, ?_⟩) ?_ ?_
           rotate_left
           ·intro w'
            go_simp
            with_reducible rfl
           rotate_left
           ·simp only [Act.put, sI, sZ, sS, i64_w, i32_w]
            rfl
           refine pure_ (i := 4) (N := some 33) (v := ?_) (a' := ?_) #[true, true, true, true, true, false, false, false, false, false, false, false, false, false, false] rfl rfl (any_of HT_.out (by kernel_rfl)) (fun _ _ _ h => h) (Or.inl ⟨by rfl, ?_⟩) ?_ ?_
           rotate_left
           ·intro w'
            go_simp
            with_reducible rfl
           rotate_left
           ·simp only [Act.put, sI, sZ, sS, i64_w, i32_w]
            rfl
           refine pure_ (i := 6) (N := some 35) (v := ?_) (a' := ?_) #[true, true, true, true, true, false, true, false, false, false, false, false, false, false, false] rfl rfl (any_of HT_.out (by kernel_rfl)) (fun _ _ _ h => h) (Or.inl ⟨by rfl, ?_⟩) ?_ ?_
           rotate_left
           ·intro w'
            go_simp
            with_reducible rfl
           rotate_left
           ·simp only [Act.put, sI, sZ, sS, i64_w, i32_w]
            rfl
           refine pure_ (i := 7) (N := some 36) (v := ?_) (a' := ?_) #[true, true, true, true, true, false, true, true, false, false, false, false, false, false, false] rfl rfl (any_of HT_.out (by kernel_rfl)) (fun _ _ _ h => h) (Or.inl ⟨by rfl, ?_⟩) ?_ ?_
           rotate_left
           ·intro w'
            go_simp
            with_reducible rfl
           rotate_left
           ·simp only [Act.put, sI, sZ, sS, i64_w, i32_w]
            rfl
           refine pure_ (i := 8) (N := some 37) (v := ?_) (a' := ?_) #[true, true, true, true, true, false, true, true, true, false, false, false, false, false, false] rfl rfl (any_of HT_.out (by kernel_rfl)) (fun _ _ _ h => h) (Or.inl ⟨by rfl, ?_⟩) ?_ ?_
           rotate_left
           ·intro w'
            go_simp
            with_reducible rfl
           rotate_left
           ·simp only [Act.put, sI, sZ, sS, i64_w, i32_w]
            rfl
           refine pure_ (i := 9) (N := some 38) (v := ?_) (a' := ?_) #[true, true, true, true, true, false, true, true, true, true, false, false, false, false, false] rfl rfl (any_of HT_.out (by kernel_rfl)) (fun _ _ _ h => h) (Or.inl ⟨by rfl, ?_⟩) ?_ ?_
           rotate_left
           ·intro w'
            go_simp
            with_reducible rfl
           rotate_left
           ·simp only [Act.put, sI, sZ, sS, i64_w, i32_w]
            rfl
           refine take_ (i := 5) (N := some 34) (v := ?_) (a' := ?_) #[true, true, true, true, true, true, true, true, true, true, false, false, false, false, false] rfl rfl (take_ofW HT_.out HW_.out (by kernel_rfl)) (fun _ _ _ h => h) (Or.inl ⟨by rfl, ?_⟩) hHeld ?_ ?_
           rotate_left
           ·rintro w' ⟨s0, s1, s2, s3, s4, s5, s6, s7, s8, s9, s10, s11⟩
            go_simp
            with_reducible rfl
           rotate_left
           ·simp only [Act.put, sI, sZ, sS, i64_w, i32_w]
            rfl
           refine take_ (i := 10) (N := some 39) (v := ?_) (a' := ?_) #[true, true, true, true, true, true, true, true, true, true, true, false, false, false, false] rfl rfl (take_ofW HT_.out HW_.out (by kernel_rfl)) (fun _ _ _ h => h) (Or.inl ⟨by rfl, ?_⟩) hHeld ?_ ?_
           rotate_left
           ·rintro w' ⟨s0, s1, s2, s3, s4, s5, s6, s7, s8, s9, s10, s11⟩
            go_simp
            with_reducible rfl
           rotate_left
           ·simp only [Act.put, sI, sZ, sS, i64_w, i32_w]
            rfl
           refine pure_ (i := 11) (N := some 40) (v := ?_) (a' := ?_) #[true, true, true, true, true, true, true, true, true, true, true, true, false, false, false] rfl rfl (any_of HT_.out (by kernel_rfl)) (fun _ _ _ h => h) (Or.inl ⟨by rfl, ?_⟩) ?_ ?_
           rotate_left
           ·intro w'
            go_simp
            with_reducible rfl
           rotate_left
           ·simp only [Act.put, sI, sZ, sS, i64_w, i32_w]
            rfl
           refine one_ (i := 12) (N := some 41) #[true, true, true, true, true, true, true, true, true, true, true, true, true, false, false] rfl rfl (one_of HT_.out (by kernel_rfl)) (by decide) (fun K hK => ?_)
           refine value_ (w1 := ?_) (v := ?_) (by rfl) rfl ?_ ?_
           rotate_left 2
           ·go_simp
            constructor
            ·rfl
            ·rfl
           refine hK.out _ _ ⟨(World.cell?_alloc_lt _ _ _ (blt _ _ (((HB.out.cell (blt w _ hw316_0)).trans hw316_0)))).trans (((HB.out.cell (blt w _ hw316_0)).trans hw316_0)), (World.cell?_alloc_lt _ _ _ (blt _ _ (((HB.out.cell (blt w _ hw316_1)).trans hw316_1)))).trans (((HB.out.cell (blt w _ hw316_1)).trans hw316_1)), (World.cell?_alloc_lt _ _ _ (blt _ _ (((HB.out.cell (blt w _ hw316_2)).trans hw316_2)))).trans (((HB.out.cell (blt w _ hw316_2)).trans hw316_2)), (World.cell?_alloc_lt _ _ _ (blt _ _ (((HB.out.cell (blt w _ hw316_3)).trans hw316_3)))).trans (((HB.out.cell (blt w _ hw316_3)).trans hw316_3)), (World.cell?_alloc_lt _ _ _ (blt _ _ (((HB.out.cell (blt w _ hw316_4)).trans hw316_4)))).trans (((HB.out.cell (blt w _ hw316_4)).trans hw316_4)), (World.cell?_alloc_lt _ _ _ (blt _ _ (((HB.out.cell (blt w _ hw316_5)).trans hw316_5)))).trans (((HB.out.cell (blt w _ hw316_5)).trans hw316_5)), (World.cell?_alloc_lt _ _ _ (blt _ _ (((HB.out.cell (blt w _ hw317_0)).trans hw317_0)))).trans (((HB.out.cell (blt w _ hw317_0)).trans hw317_0)), (World.cell?_alloc_lt _ _ _ (blt _ _ (((HB.out.cell (blt w _ hw317_1)).trans hw317_1)))).trans (((HB.out.cell (blt w _ hw317_1)).trans hw317_1)), (World.cell?_alloc_lt _ _ _ (blt _ _ (((HB.out.cell (blt w _ hw317_2)).trans hw317_2)))).trans (((HB.out.cell (blt w _ hw317_2)).trans hw317_2)), (World.cell?_alloc_lt _ _ _ (blt _ _ (((HB.out.cell (blt w _ hw317_3)).trans hw317_3)))).trans (((HB.out.cell (blt w _ hw317_3)).trans hw317_3)), (World.cell?_alloc_lt _ _ _ (blt _ _ (((HB.out.cell (blt w _ hw317_4)).trans hw317_4)))).trans (((HB.out.cell (blt w _ hw317_4)).trans hw317_4)), (World.cell?_alloc_lt _ _ _ (blt _ _ (((HB.out.cell (blt w _ hw317_5)).trans hw317_5)))).trans (((HB.out.cell (blt w _ hw317_5)).trans hw317_5))⟩ (fun hHeld => ?_)
           clear hK K
           refine norm_ (a' := ?_) ?_ ?_
           rotate_left
           ·show Act.put _ (some 41) _ = _
            simp only [Act.put, sI, sZ, sS, i64_w, i32_w]
            rfl
           refine one_ (i := 13) (N := some 42) #[true, true, true, true, true, true, true, true, true, true, true, true, true, true, false] rfl rfl (one_of HT_.out (by kernel_rfl)) (by decide) (fun K hK => ?_)
           refine Kd.R_append_step k78 (w0 := w) w.heap.size (by rfl) (.tmp 29) (.tmp 41) 73 78 (.agg #[(.int .i64 0), (.int .i64 0)]) 16 rfl Try.underlying73 info78 rfl (by decide) (by omega) u6 x6_1 (⟨(rd_T34 l0 (rd t310 x19_1)).f0, (rd_T34 l0 (rd t310 x19_1)).f3⟩ : S78) [.int .i64 ((rd_T34 l0 (rd t310 x19_1)).f0), .int .i64 ((rd_T34 l0 (rd t310 x19_1)).f3)] (fun _ => True) (fun _ => False) rfl rfl ?aP (fun _ hk => hk.elim) ?aF ?aO ?aB ?aS ?aL ?_
           (case aP => exact k78_mkM _ _ _ (⟨(rd_T34 l0 (rd t310 x19_1)).f0, (rd_T34 l0 (rd t310 x19_1)).f3⟩ : S78))
           (case aB => exact (by repeat (first | (with_reducible first | exact HB.out | apply ba | apply bn | apply bd) | exact HB.out)))
           (case aF => exact (fun _ _ => trivial))
           (case aO => exact (by (with_reducible repeat (first | apply Kd.R_alloc | apply Kd.R_drewN | apply Kd.R_drew)); exact HO_6.out))
           (case aS => exact (below_size (by repeat (first | (with_reducible first | exact HB.out | apply ba | apply bn | apply bd) | exact HB.out))))
           (case aL => have := LMc12.out; omega)
           intro v319 w14 ho hb hg hat
           rw [← Ny318.out] at ho
           have n0_ := Am (Kd.R_over' (by (with_reducible repeat (first | apply Kd.R_alloc | apply Kd.R_drewN | apply Kd.R_drew)); exact HO_17.out) (Kd.R_typed (by (with_reducible repeat (first | apply Kd.R_alloc | apply Kd.R_drewN | apply Kd.R_drew)); exact HO_6.out)) (by decide) hg)
           have n1_ := Am (hb)
           have n2_ := Am (ho)
           clear HO_17
           clear HB
           clear HO_6
           have HO_17 := n0_
           have HB := n1_
           have HO320 := n2_
           clear n0_ n1_ n2_
           clear ho hb hg hat
           refine hK.out _ _ ⟨((HB.out.cell (blt w _ hw316_0)).trans hw316_0), ((HB.out.cell (blt w _ hw316_1)).trans hw316_1), ((HB.out.cell (blt w _ hw316_2)).trans hw316_2), ((HB.out.cell (blt w _ hw316_3)).trans hw316_3), ((HB.out.cell (blt w _ hw316_4)).trans hw316_4), ((HB.out.cell (blt w _ hw316_5)).trans hw316_5), ((HB.out.cell (blt w _ hw317_0)).trans hw317_0), ((HB.out.cell (blt w _ hw317_1)).trans hw317_1), ((HB.out.cell (blt w _ hw317_2)).trans hw317_2), ((HB.out.cell (blt w _ hw317_3)).trans hw317_3), ((HB.out.cell (blt w _ hw317_4)).trans hw317_4), ((HB.out.cell (blt w _ hw317_5)).trans hw317_5)⟩ (fun hHeld => ?_)
           clear hK K
           refine norm_ (a' := ?_) ?_ ?_
           rotate_left
           ·show Act.put _ (some 42) _ = _
            simp only [Act.put, sI, sZ, sS, i64_w, i32_w]
            rfl
           refine pure_ (i := 14) (N := some 6) (v := ?_) (a' := ?_) #[true, true, true, true, true, true, true, true, true, true, true, true, true, true, true] rfl rfl (any_of HT_.out (by kernel_rfl)) (fun _ _ _ h => h) (Or.inl ⟨by rfl, ?_⟩) ?_ ?_
           rotate_left
           ·intro w'
            go_simp
            with_reducible rfl
           rotate_left
           ·simp only [Act.put, sI, sZ, sS, i64_w, i32_w]
            rfl
           refine done_ (done_of HT_.out (by kernel_rfl)) ?_
           try go_wp2
           go_roundg k1
           case measure => have := HK1.out; omega
           case rel => exact ⟨(y318), (wrap64 (x19_1 + 1)), (by first | rfl | (simp; done) | (simp [*]; done)), H', ⟨by have := HK1.out; omega⟩, ⟨by (with_reducible repeat (first | apply Kd.R_alloc | apply Kd.R_drewN | apply Kd.R_drew)); exact HO320.out⟩, ⟨by (with_reducible repeat (first | apply Kd.R_alloc | apply Kd.R_drewN | apply Kd.R_drew)); exact HO_17.out⟩, ⟨by repeat (first | (with_reducible first | exact HB.out | apply ba | apply bn | apply bd) | exact HB.out)⟩⟩
          ·rw [if_neg c12] at H
           exact absurd H (by simp)
         ·rw [if_neg c11] at H
          have c11b0 : (((rd_T34 l0 (rd t310 x19_1)).f1) == 0) = false := beq_eq_false_iff_ne.mpr c11
          have c11b1 : (((rd_T34 l0 (rd t310 x19_1)).f1) != 0) = true := bne_iff_ne.mpr c11
          have H' := Am H
          clear H
          have p314 : 0 ≤ (x19_1 : Int) := of_decide_eq_true (by first | (with_reducible assumption) | assumption)
          have q314 : x19_1 < (t310.length : Int) := of_decide_eq_true (by first | (with_reducible assumption) | assumption)
          obtain ⟨ad314, e314, hx314_0⟩ := Kd.at_int (Kd.R_reads' HO_17.out).2.2 x19_1 p314 q314
          cases e314
          replace p314 := eq_true p314
          replace q314 := eq_true q314
          have p315 : 0 ≤ ((rd t310 x19_1) : Int) := of_decide_eq_true (by first | (with_reducible assumption) | assumption)
          have q315 : (rd t310 x19_1) < (l0.length : Int) := of_decide_eq_true (by first | (with_reducible assumption) | assumption)
          obtain ⟨ad315, e315, hx315_0, hx315_1, hx315_2, hx315_3, hx315_4, hx315_5⟩ := at_T34 HR0.out (rd t310 x19_1) p315 q315
          cases e315
          replace hx315_0 := (HB.out.cell (blt w _ hx315_0)).trans hx315_0
          replace hx315_1 := (HB.out.cell (blt w _ hx315_1)).trans hx315_1
          replace hx315_2 := (HB.out.cell (blt w _ hx315_2)).trans hx315_2
          replace hx315_3 := (HB.out.cell (blt w _ hx315_3)).trans hx315_3
          replace hx315_4 := (HB.out.cell (blt w _ hx315_4)).trans hx315_4
          replace hx315_5 := (HB.out.cell (blt w _ hx315_5)).trans hx315_5
          replace p315 := eq_true p315
          replace q315 := eq_true q315
          go_wp2
          go_roundg k1
          case measure => have := HK1.out; omega
          case rel => exact ⟨(x6_1), (wrap64 (x19_1 + 1)), (by first | rfl | (simp; done) | (simp [*]; done)), H', ⟨by have := HK1.out; omega⟩, ⟨by (with_reducible repeat (first | apply Kd.R_alloc | apply Kd.R_drewN | apply Kd.R_drew)); exact HO_6.out⟩, ⟨by (with_reducible repeat (first | apply Kd.R_alloc | apply Kd.R_drewN | apply Kd.R_drew)); exact HO_17.out⟩, ⟨by repeat (first | (with_reducible first | exact HB.out | apply ba | apply bn | apply bd) | exact HB.out)⟩⟩
        ·rw [if_neg c10] at H
         exact absurd H (by simp)
       ·rw [if_neg c9] at H
        exact absurd H (by simp)
      ·rw [if_neg c8] at H
       exact absurd H (by simp)
     ·rw [if_neg c7] at H
      exact absurd H (by simp)
    ·rw [if_neg c6] at H
     have c6b0 : decide (x19_1 < (t310.length : Int)) = false := decide_eq_false c6
     clear c6
     simp only [Option.some.injEq, Prod.mk.injEq] at H
     obtain ⟨rfl, rfl⟩ := H
     go_wp2
     go_ret2
     exact ⟨_, by first | rfl | (simp [errW_none, errW_some] <;> rfl) | (simp [*, errW_none, errW_some] <;> rfl), by (with_reducible repeat (first | apply Kd.R_alloc | apply Kd.R_drewN | apply Kd.R_drew)); exact HO_6.out, by repeat (first | (with_reducible first | exact HB.out | apply ba | apply bn | apply bd) | exact HB.out)⟩
 ·rw [if_neg c3] at H
  have c3b0 : (t311 == 0) = false := beq_eq_false_iff_ne.mpr c3
  have c3b1 : (t311 != 0) = true := bne_iff_ne.mpr c3
  simp only [Option.some.injEq, Prod.mk.injEq] at H
  obtain ⟨rfl, rfl⟩ := H
  go_enter Try.func36, Try.ntmps36
  go_wp2_with (first | ((with_reducible refine gate_callee (f := 71) rfl ?_); refine goesL_ (some 11) rfl rfl Try.func71 (by kernel_rfl) rfl #[.slice A0 l0.length c0] rfl (by (try simp only [List.map_toArray, List.map_cons, List.map_nil]); first | done | rfl | (simp only [List.length_drop, List.length_take]; rfl)) ?_; (with_reducible refine (table_Leaves.calls k _ _ l0 t310 t311 _ ?side1 ?side2 A2.out).mono ?_); (case side1 => repeat (first | exact HR0.out | (with_reducible refine Kd.C_alloc ?_ _) | (with_reducible refine Kd.C_drewN ?_ _) | (with_reducible refine Kd.C_drew ?_))); (case side2 => exact HC0.out); rintro e w15 ⟨v312, rfl, ho0, hb⟩; refine ⟨_, rfl, ?_⟩; have n0_ := Am (Kd.R_lower ho0 (below_size (by repeat (first | (with_reducible first | exact HB.out | apply ba | apply bn | apply bd) | exact HB.out)))); have n1_ := Am (below_step (by repeat (first | (with_reducible first | exact HB.out | apply ba | apply bn | apply bd) | exact HB.out)) hb); clear HB; have HO313 := n0_; have HB := n1_; clear n0_ n1_; (try clear hb); (try clear hb2); (try clear hk); (try clear hi); (try clear ho0)))
  go_ret2
  exact ⟨_, by first | rfl | (simp [errW_none, errW_some] <;> rfl) | (simp [*, errW_none, errW_some] <;> rfl), by first | exact Kd.R_nil _ _ _ _ _ | exact Kd.N_nil _ _ _ _ _ | exact Kd.V_nil _ _ _ _ _ | exact Kd.Q_nil _ _ _ _ _ | exact Kd.S_nil _ _ _ _ _, by repeat (first | (with_reducible first | exact HB.out | apply ba | apply bn | apply bd) | exact HB.out)⟩
-- NOT PRINTED: function 37 (table_Ordered)
def table_Sub.f (k : Nat) (l0 : List (S34)) (a1 : Int) : Option ((List (S34)) × Int) := (table_Check.f k l0).bind fun t396 => (if t396 = 0 then (if a1 < 0 then (some (([] : List (S34)), 1)) else (if a1 ≥ (l0.length : Int) then (some (([] : List (S34)), 1)) else ((table_sub.f k l0 a1).bind fun t397 => (some (t397, 0))))) else (some (([] : List (S34)), t396)))
theorem table_Sub.mono : ∀ a0 a1 k, LeO (table_Sub.f k a0 a1) (table_Sub.f (k + 1) a0 a1) := by
 intro a0 a1 k
 unfold table_Sub.f
 repeat' first
   | (with_reducible exact table_Check.mono _ _)
   | (with_reducible exact table_sub.mono _ _ _)
   | (with_reducible exact LeO.refl _)
   | (with_reducible exact LeO.none _)
   | (with_reducible refine LeO.ite ?_ ?_)
   | (with_reducible refine LeO.bind ?_ (fun _ => ?_))
   | exact table_Check.mono _ _
   | exact table_sub.mono _ _ _
   | exact LeO.none _
   | refine LeO.ite ?_ ?_
   | refine LeO.bind ?_ (fun _ => ?_)
set_option maxHeartbeats 8000000 in
set_option maxRecDepth 100000 in
theorem table_Sub.calls (k : Nat) (A0 : Option Addr) (c0 : Nat) (l0 : List (S34)) (a1 : Int) (r1 : List (S34)) (r2 : Int) (w : World) (hr0 : Kd.C k34 w A0 l0.length l0) (hc0 : l0.length ≤ c0) (h : table_Sub.f k l0 a1 = some (r1, r2)) :
  Calls Try.prog 38 #[.slice A0 l0.length c0, .int .i64 a1] w fun e w' => ∃ v0_ : Value, e = .returned (.tuple #[v0_, .int .i64 r2]) ∧ Kd.R k34 34 w' w.heap.size (fun _ => True) v0_ r1 ∧ Below w.heap.size w w' := by
 have HR0 := Am hr0
 have HC0 := Am hc0
 clear hr0 hc0
 have HB := Am (Below.refl w.heap.size w)
 have H : ((table_Check.f k l0).bind fun t396 => (if t396 = 0 then (if a1 < 0 then (some (([] : List (S34)), 1)) else (if a1 ≥ (l0.length : Int) then (some (([] : List (S34)), 1)) else ((table_sub.f k l0 a1).bind fun t397 => (some (t397, 0))))) else (some (([] : List (S34)), t396)))) = some (r1, r2) := h
 clear h
 replace H := Option.bind_eq_some_iff.mp H
 obtain ⟨t396, A30, H⟩ := H
 replace H : (if t396 = 0 then (if a1 < 0 then (some (([] : List (S34)), 1)) else (if a1 ≥ (l0.length : Int) then (some (([] : List (S34)), 1)) else ((table_sub.f k l0 a1).bind fun t397 => (some (t397, 0))))) else (some (([] : List (S34)), t396))) = some (r1, r2) := H
 have A3 := Am A30
 clear A30
 by_cases c4 : t396 = 0
 ·rw [if_pos c4] at H
  have c4b0 : (t396 == 0) = true := beq_iff_eq.mpr c4
  have c4b1 : (t396 != 0) = false := bne_eq_false_iff_eq.mpr c4
  clear c4
  by_cases c5 : a1 < 0
  ·rw [if_pos c5] at H
   have c5b0 : decide (a1 < 0) = true := decide_eq_true c5
   clear c5
   simp only [Option.some.injEq, Prod.mk.injEq] at H
   obtain ⟨rfl, rfl⟩ := H
   go_enter Try.func38, Try.ntmps38
   go_wp2_with (first | ((with_reducible refine gate_callee (f := 41) rfl ?_); refine goesL_ (some 8) rfl rfl Try.func41 (by kernel_rfl) rfl #[.slice A0 l0.length c0] rfl (by (try simp only [List.map_toArray, List.map_cons, List.map_nil]); first | done | rfl | (simp only [List.length_drop, List.length_take]; rfl)) ?_; (with_reducible refine (table_Check.calls k _ _ l0 t396 _ ?side1 ?side2 A3.out).mono ?_); (case side1 => repeat (first | exact HR0.out | (with_reducible refine Kd.C_alloc ?_ _) | (with_reducible refine Kd.C_drewN ?_ _) | (with_reducible refine Kd.C_drew ?_))); (case side2 => exact HC0.out); rintro e w6 ⟨rfl, hb⟩; refine ⟨_, rfl, ?_⟩; have n0_ := Am (below_step (by repeat (first | (with_reducible first | exact HB.out | apply ba | apply bn | apply bd) | exact HB.out)) hb); clear HB; have HB := n0_; clear n0_; (try clear hb); (try clear hb2); (try clear hk); (try clear hi)))
   go_ret2
   exact ⟨_, by first | rfl | (simp [errW_none, errW_some] <;> rfl) | (simp [*, errW_none, errW_some] <;> rfl), by first | exact Kd.R_nil _ _ _ _ _ | exact Kd.N_nil _ _ _ _ _ | exact Kd.V_nil _ _ _ _ _ | exact Kd.Q_nil _ _ _ _ _ | exact Kd.S_nil _ _ _ _ _, by repeat (first | (with_reducible first | exact HB.out | apply ba | apply bn | apply bd) | exact HB.out)⟩
  ·rw [if_neg c5] at H
   have c5b0 : decide (a1 < 0) = false := decide_eq_false c5
   clear c5
   by_cases c7 : a1 ≥ (l0.length : Int)
   ·rw [if_pos c7] at H
    have c7b0 : decide ((l0.length : Int) ≤ a1) = true := decide_eq_true c7
    clear c7
    simp only [Option.some.injEq, Prod.mk.injEq] at H
    obtain ⟨rfl, rfl⟩ := H
    go_enter Try.func38, Try.ntmps38
    go_wp2_with (first | ((with_reducible refine gate_callee (f := 41) rfl ?_); refine goesL_ (some 8) rfl rfl Try.func41 (by kernel_rfl) rfl #[.slice A0 l0.length c0] rfl (by (try simp only [List.map_toArray, List.map_cons, List.map_nil]); first | done | rfl | (simp only [List.length_drop, List.length_take]; rfl)) ?_; (with_reducible refine (table_Check.calls k _ _ l0 t396 _ ?side1 ?side2 A3.out).mono ?_); (case side1 => repeat (first | exact HR0.out | (with_reducible refine Kd.C_alloc ?_ _) | (with_reducible refine Kd.C_drewN ?_ _) | (with_reducible refine Kd.C_drew ?_))); (case side2 => exact HC0.out); rintro e w8 ⟨rfl, hb⟩; refine ⟨_, rfl, ?_⟩; have n0_ := Am (below_step (by repeat (first | (with_reducible first | exact HB.out | apply ba | apply bn | apply bd) | exact HB.out)) hb); clear HB; have HB := n0_; clear n0_; (try clear hb); (try clear hb2); (try clear hk); (try clear hi)))
    go_ret2
    exact ⟨_, by first | rfl | (simp [errW_none, errW_some] <;> rfl) | (simp [*, errW_none, errW_some] <;> rfl), by first | exact Kd.R_nil _ _ _ _ _ | exact Kd.N_nil _ _ _ _ _ | exact Kd.V_nil _ _ _ _ _ | exact Kd.Q_nil _ _ _ _ _ | exact Kd.S_nil _ _ _ _ _, by repeat (first | (with_reducible first | exact HB.out | apply ba | apply bn | apply bd) | exact HB.out)⟩
   ·rw [if_neg c7] at H
    have c7b0 : decide ((l0.length : Int) ≤ a1) = false := decide_eq_false c7
    clear c7
    replace H := Option.bind_eq_some_iff.mp H
    obtain ⟨t397, A90, H⟩ := H
    replace H : (some (t397, 0)) = some (r1, r2) := H
    have A9 := Am A90
    clear A90
    simp only [Option.some.injEq, Prod.mk.injEq] at H
    obtain ⟨rfl, rfl⟩ := H
    go_enter Try.func38, Try.ntmps38
    go_wp2_with (first | ((with_reducible refine gate_callee (f := 41) rfl ?_); refine goesL_ (some 8) rfl rfl Try.func41 (by kernel_rfl) rfl #[.slice A0 l0.length c0] rfl (by (try simp only [List.map_toArray, List.map_cons, List.map_nil]); first | done | rfl | (simp only [List.length_drop, List.length_take]; rfl)) ?_; (with_reducible refine (table_Check.calls k _ _ l0 t396 _ ?side1 ?side2 A3.out).mono ?_); (case side1 => repeat (first | exact HR0.out | (with_reducible refine Kd.C_alloc ?_ _) | (with_reducible refine Kd.C_drewN ?_ _) | (with_reducible refine Kd.C_drew ?_))); (case side2 => exact HC0.out); rintro e w10 ⟨rfl, hb⟩; refine ⟨_, rfl, ?_⟩; have n0_ := Am (below_step (by repeat (first | (with_reducible first | exact HB.out | apply ba | apply bn | apply bd) | exact HB.out)) hb); clear HB; have HB := n0_; clear n0_; (try clear hb); (try clear hb2); (try clear hk); (try clear hi)) | ((with_reducible refine gate_callee (f := 70) rfl ?_); refine goesL_ (some 22) rfl rfl Try.func70 (by kernel_rfl) rfl #[.slice A0 l0.length c0, .int .i64 a1] rfl (by (try simp only [List.map_toArray, List.map_cons, List.map_nil]); first | done | rfl | (simp only [List.length_drop, List.length_take]; rfl)) ?_; (with_reducible refine (table_sub.calls k _ _ l0 a1 t397 _ ?side1 ?side2 A9.out).mono ?_); (case side1 => repeat (first | exact (Kd.C_below HR0.out HB.out) | (with_reducible refine Kd.C_alloc ?_ _) | (with_reducible refine Kd.C_drewN ?_ _) | (with_reducible refine Kd.C_drew ?_))); (case side2 => exact HC0.out); rintro e w11 ⟨v398, rfl, ho0, hb⟩; refine ⟨_, rfl, ?_⟩; have n0_ := Am (Kd.R_lower ho0 (below_size (by repeat (first | (with_reducible first | exact HB.out | apply ba | apply bn | apply bd) | exact HB.out)))); have n1_ := Am (below_step (by repeat (first | (with_reducible first | exact HB.out | apply ba | apply bn | apply bd) | exact HB.out)) hb); clear HB; have HO399 := n0_; have HB := n1_; clear n0_ n1_; (try clear hb); (try clear hb2); (try clear hk); (try clear hi); (try clear ho0)))
    go_ret2
    exact ⟨_, by first | rfl | (simp [errW_none, errW_some] <;> rfl) | (simp [*, errW_none, errW_some] <;> rfl), by (with_reducible repeat (first | apply Kd.R_alloc | apply Kd.R_drewN | apply Kd.R_drew)); exact HO399.out, by repeat (first | (with_reducible first | exact HB.out | apply ba | apply bn | apply bd) | exact HB.out)⟩
 ·rw [if_neg c4] at H
  have c4b0 : (t396 == 0) = false := beq_eq_false_iff_ne.mpr c4
  have c4b1 : (t396 != 0) = true := bne_iff_ne.mpr c4
  simp only [Option.some.injEq, Prod.mk.injEq] at H
  obtain ⟨rfl, rfl⟩ := H
  go_enter Try.func38, Try.ntmps38
  go_wp2_with (first | ((with_reducible refine gate_callee (f := 41) rfl ?_); refine goesL_ (some 8) rfl rfl Try.func41 (by kernel_rfl) rfl #[.slice A0 l0.length c0] rfl (by (try simp only [List.map_toArray, List.map_cons, List.map_nil]); first | done | rfl | (simp only [List.length_drop, List.length_take]; rfl)) ?_; (with_reducible refine (table_Check.calls k _ _ l0 t396 _ ?side1 ?side2 A3.out).mono ?_); (case side1 => repeat (first | exact HR0.out | (with_reducible refine Kd.C_alloc ?_ _) | (with_reducible refine Kd.C_drewN ?_ _) | (with_reducible refine Kd.C_drew ?_))); (case side2 => exact HC0.out); rintro e w12 ⟨rfl, hb⟩; refine ⟨_, rfl, ?_⟩; have n0_ := Am (below_step (by repeat (first | (with_reducible first | exact HB.out | apply ba | apply bn | apply bd) | exact HB.out)) hb); clear HB; have HB := n0_; clear n0_; (try clear hb); (try clear hb2); (try clear hk); (try clear hi)))
  go_ret2
  exact ⟨_, by first | rfl | (simp [errW_none, errW_some] <;> rfl) | (simp [*, errW_none, errW_some] <;> rfl), by first | exact Kd.R_nil _ _ _ _ _ | exact Kd.N_nil _ _ _ _ _ | exact Kd.V_nil _ _ _ _ _ | exact Kd.Q_nil _ _ _ _ _ | exact Kd.S_nil _ _ _ _ _, by repeat (first | (with_reducible first | exact HB.out | apply ba | apply bn | apply bd) | exact HB.out)⟩
def table_both.f (k : Nat) (l0 : List (S34)) (l1 : List (S34)) : Option (Int) := (table_Check.f k l0).bind fun t400 => (if t400 = 0 then ((table_Check.f k l1).bind fun t401 => (some t401)) else (some t400))
theorem table_both.mono : ∀ a0 a1 k, LeO (table_both.f k a0 a1) (table_both.f (k + 1) a0 a1) := by
 intro a0 a1 k
 unfold table_both.f
 repeat' first
   | (with_reducible exact table_Check.mono _ _)
   | (with_reducible exact LeO.refl _)
   | (with_reducible exact LeO.none _)
   | (with_reducible refine LeO.ite ?_ ?_)
   | (with_reducible refine LeO.bind ?_ (fun _ => ?_))
   | exact table_Check.mono _ _
   | exact LeO.none _
   | refine LeO.ite ?_ ?_
   | refine LeO.bind ?_ (fun _ => ?_)
set_option maxHeartbeats 8000000 in
set_option maxRecDepth 100000 in
theorem table_both.calls (k : Nat) (A0 : Option Addr) (c0 : Nat) (l0 : List (S34)) (A1 : Option Addr) (c1 : Nat) (l1 : List (S34)) (r : Int) (w : World) (hr0 : Kd.C k34 w A0 l0.length l0) (hc0 : l0.length ≤ c0) (hr1 : Kd.C k34 w A1 l1.length l1) (hc1 : l1.length ≤ c1) (h : table_both.f k l0 l1 = some r) :
  Calls Try.prog 73 #[.slice A0 l0.length c0, .slice A1 l1.length c1] w fun e w' => e = .returned (.int .i64 r) ∧ Below w.heap.size w w' := by
 have HR0 := Am hr0
 have HC0 := Am hc0
 clear hr0 hc0
 have HR1 := Am hr1
 have HC1 := Am hc1
 clear hr1 hc1
 have HB := Am (Below.refl w.heap.size w)
 have H : ((table_Check.f k l0).bind fun t400 => (if t400 = 0 then ((table_Check.f k l1).bind fun t401 => (some t401)) else (some t400))) = some r := h
 clear h
 replace H := Option.bind_eq_some_iff.mp H
 obtain ⟨t400, A30, H⟩ := H
 replace H : (if t400 = 0 then ((table_Check.f k l1).bind fun t401 => (some t401)) else (some t400)) = some r := H
 have A3 := Am A30
 clear A30
 by_cases c4 : t400 = 0
 ·rw [if_pos c4] at H
  have c4b0 : (t400 == 0) = true := beq_iff_eq.mpr c4
  have c4b1 : (t400 != 0) = false := bne_eq_false_iff_eq.mpr c4
  clear c4
  replace H := Option.bind_eq_some_iff.mp H
  obtain ⟨t401, A50, H⟩ := H
  replace H : (some t401) = some r := H
  have A5 := Am A50
  clear A50
  obtain rfl := Option.some.inj H
  go_enter Try.func73, Try.ntmps73
  go_wp2_with (first | ((with_reducible refine gate_callee (f := 41) rfl ?_); refine goesL_ (some 7) rfl rfl Try.func41 (by kernel_rfl) rfl #[.slice A0 l0.length c0] rfl (by (try simp only [List.map_toArray, List.map_cons, List.map_nil]); first | done | rfl | (simp only [List.length_drop, List.length_take]; rfl)) ?_; (with_reducible refine (table_Check.calls k _ _ l0 t400 _ ?side1 ?side2 A3.out).mono ?_); (case side1 => repeat (first | exact HR0.out | (with_reducible refine Kd.C_alloc ?_ _) | (with_reducible refine Kd.C_drewN ?_ _) | (with_reducible refine Kd.C_drew ?_))); (case side2 => exact HC0.out); rintro e w6 ⟨rfl, hb⟩; refine ⟨_, rfl, ?_⟩; have n0_ := Am (below_step (by repeat (first | (with_reducible first | exact HB.out | apply ba | apply bn | apply bd) | exact HB.out)) hb); clear HB; have HB := n0_; clear n0_; (try clear hb); (try clear hb2); (try clear hk); (try clear hi)) | ((with_reducible refine gate_callee (f := 41) rfl ?_); refine goesL_ (some 12) rfl rfl Try.func41 (by kernel_rfl) rfl #[.slice A1 l1.length c1] rfl (by (try simp only [List.map_toArray, List.map_cons, List.map_nil]); first | done | rfl | (simp only [List.length_drop, List.length_take]; rfl)) ?_; (with_reducible refine (table_Check.calls k _ _ l1 t401 _ ?side1 ?side2 A5.out).mono ?_); (case side1 => repeat (first | exact (Kd.C_below HR1.out HB.out) | (with_reducible refine Kd.C_alloc ?_ _) | (with_reducible refine Kd.C_drewN ?_ _) | (with_reducible refine Kd.C_drew ?_))); (case side2 => exact HC1.out); rintro e w7 ⟨rfl, hb⟩; refine ⟨_, rfl, ?_⟩; have n0_ := Am (below_step (by repeat (first | (with_reducible first | exact HB.out | apply ba | apply bn | apply bd) | exact HB.out)) hb); clear HB; have HB := n0_; clear n0_; (try clear hb); (try clear hb2); (try clear hk); (try clear hi)))
  go_ret
  exact ⟨by first | rfl | (simp [errW_none, errW_some] <;> rfl) | (simp [*, errW_none, errW_some] <;> rfl), by repeat (first | (with_reducible first | exact HB.out | apply ba | apply bn | apply bd) | exact HB.out)⟩
 ·rw [if_neg c4] at H
  have c4b0 : (t400 == 0) = false := beq_eq_false_iff_ne.mpr c4
  have c4b1 : (t400 != 0) = true := bne_iff_ne.mpr c4
  obtain rfl := Option.some.inj H
  go_enter Try.func73, Try.ntmps73
  go_wp2_with (first | ((with_reducible refine gate_callee (f := 41) rfl ?_); refine goesL_ (some 7) rfl rfl Try.func41 (by kernel_rfl) rfl #[.slice A0 l0.length c0] rfl (by (try simp only [List.map_toArray, List.map_cons, List.map_nil]); first | done | rfl | (simp only [List.length_drop, List.length_take]; rfl)) ?_; (with_reducible refine (table_Check.calls k _ _ l0 t400 _ ?side1 ?side2 A3.out).mono ?_); (case side1 => repeat (first | exact HR0.out | (with_reducible refine Kd.C_alloc ?_ _) | (with_reducible refine Kd.C_drewN ?_ _) | (with_reducible refine Kd.C_drew ?_))); (case side2 => exact HC0.out); rintro e w8 ⟨rfl, hb⟩; refine ⟨_, rfl, ?_⟩; have n0_ := Am (below_step (by repeat (first | (with_reducible first | exact HB.out | apply ba | apply bn | apply bd) | exact HB.out)) hb); clear HB; have HB := n0_; clear n0_; (try clear hb); (try clear hb2); (try clear hk); (try clear hi)))
  go_ret
  exact ⟨by first | rfl | (simp [errW_none, errW_some] <;> rfl) | (simp [*, errW_none, errW_some] <;> rfl), by repeat (first | (with_reducible first | exact HB.out | apply ba | apply bn | apply bd) | exact HB.out)⟩
end Go.Proofs.Ytgleaefhflamnaa.T
namespace Go.Proofs.Ytgleaefhflamnaa.T
open Go.RowKit Go.Proofs.YtgleaefhflamnaaW.PrintWords Go.Proofs.YtgleaefhflamnaaW.PrintLast Go.Proofs.YtgleaefhflamnaaW.PrintMore
attribute [local go_sem] max2_int min2_int max_two min_two max_three min_three max_four min_four   -- for this text's walks alone
set_option linter.unusedVariables false
set_option linter.unusedSimpArgs false
mutual
def table_Graft.j0 : Nat → List (S34) → Int → List (S34) → Bool → Option ((List (S34)) × Int)
 | 0, _, _, _, _ => none
 | k + 1, x0, x1, x2, x27 => if x27 = true then (some (([] : List (S34)), 1)) else ((table_order.f k x0 x1).bind fun t403 => (if (wrap64 ((wrap64 ((x0.length : Int) - (t403.length : Int))) + (x2.length : Int))) > 100000 then (some (([] : List (S34)), 2)) else (if x1 = 0 then ((table_sub.f k x2 0).bind fun t406 => (some (t406, 0))) else (if 0 ≤ (wrap64 ((x0.length : Int) + (x2.length : Int))) then (if (wrap64 ((x0.length : Int) + (x2.length : Int)) : Int).toNat ≤ 5864062014805 then (table_Graft.l0 k x0 x1 x2 (([] : List (S34))) x0 (x0.length : Int) 0) else (none)) else (none)))))
def table_Graft.l0 : Nat → List (S34) → Int → List (S34) → List (S34) → List (S34) → Int → Int → Option ((List (S34)) × Int)
 | 0, _, _, _, _, _, _, _ => none
 | k + 1, x0, x1, x2, x9, x49, x50, x51 => if x51 < x50 then (if 0 ≤ x51 then (if x51 < (x49.length : Int) then ((table_isLeaf.f ((rd_T34 x49 x51).f0) ((rd_T34 x49 x51).f1) ((rd_T34 x49 x51).f2) ((rd_T34 x49 x51).f3) ((rd_T34 x49 x51).f4) ((rd_T34 x49 x51).f5)).bind fun t414 => (if t414 = true then (if x9.length < 2932031007402 then (table_Graft.l0 k x0 x1 x2 (x9 ++ [(⟨(rd_T34 x49 x51).f0, (rd_T34 x49 x51).f1, (rd_T34 x49 x51).f2, (rd_T34 x49 x51).f3, (rd_T34 x49 x51).f4, (rd_T34 x49 x51).f5⟩ : S34)]) x49 x50 (wrap64 (x51 + 1))) else (none)) else (if ((rd_T34 x49 x51).f4) = x1 then (if ((rd_T34 x49 x51).f5) = x1 then (if x9.length < 2932031007402 then (table_Graft.l0 k x0 x1 x2 (x9 ++ [(⟨(rd_T34 x49 x51).f0, (rd_T34 x49 x51).f1, (rd_T34 x49 x51).f2, (rd_T34 x49 x51).f3, (x0.length : Int), (x0.length : Int)⟩ : S34)]) x49 x50 (wrap64 (x51 + 1))) else (none)) else (if x9.length < 2932031007402 then (table_Graft.l0 k x0 x1 x2 (x9 ++ [(⟨(rd_T34 x49 x51).f0, (rd_T34 x49 x51).f1, (rd_T34 x49 x51).f2, (rd_T34 x49 x51).f3, (x0.length : Int), (rd_T34 x49 x51).f5⟩ : S34)]) x49 x50 (wrap64 (x51 + 1))) else (none))) else (if ((rd_T34 x49 x51).f5) = x1 then (if x9.length < 2932031007402 then (table_Graft.l0 k x0 x1 x2 (x9 ++ [(⟨(rd_T34 x49 x51).f0, (rd_T34 x49 x51).f1, (rd_T34 x49 x51).f2, (rd_T34 x49 x51).f3, (rd_T34 x49 x51).f4, (x0.length : Int)⟩ : S34)]) x49 x50 (wrap64 (x51 + 1))) else (none)) else (if x9.length < 2932031007402 then (table_Graft.l0 k x0 x1 x2 (x9 ++ [(⟨(rd_T34 x49 x51).f0, (rd_T34 x49 x51).f1, (rd_T34 x49 x51).f2, (rd_T34 x49 x51).f3, (rd_T34 x49 x51).f4, (rd_T34 x49 x51).f5⟩ : S34)]) x49 x50 (wrap64 (x51 + 1))) else (none)))))) else (none)) else (none)) else (table_Graft.l1 k x0 x9 x2 (x2.length : Int) 0)
def table_Graft.l1 : Nat → List (S34) → List (S34) → List (S34) → Int → Int → Option ((List (S34)) × Int)
 | 0, _, _, _, _, _ => none
 | k + 1, x0, x9, x77, x78, x79 => if x79 < x78 then (if 0 ≤ x79 then (if x79 < (x77.length : Int) then ((table_isLeaf.f ((rd_T34 x77 x79).f0) ((rd_T34 x77 x79).f1) ((rd_T34 x77 x79).f2) ((rd_T34 x77 x79).f3) ((rd_T34 x77 x79).f4) ((rd_T34 x77 x79).f5)).bind fun t432 => (if t432 = true then (if x9.length < 2932031007402 then (table_Graft.l1 k x0 (x9 ++ [(⟨(rd_T34 x77 x79).f0, (rd_T34 x77 x79).f1, (rd_T34 x77 x79).f2, (rd_T34 x77 x79).f3, (rd_T34 x77 x79).f4, (rd_T34 x77 x79).f5⟩ : S34)]) x77 x78 (wrap64 (x79 + 1))) else (none)) else (if x9.length < 2932031007402 then (table_Graft.l1 k x0 (x9 ++ [(⟨(rd_T34 x77 x79).f0, (rd_T34 x77 x79).f1, (rd_T34 x77 x79).f2, (rd_T34 x77 x79).f3, wrap64 (((rd_T34 x77 x79).f4) + (x0.length : Int)), wrap64 (((rd_T34 x77 x79).f5) + (x0.length : Int))⟩ : S34)]) x77 x78 (wrap64 (x79 + 1))) else (none)))) else (none)) else (none)) else ((table_sub.f k x9 0).bind fun t439 => (some (t439, 0)))
end
def table_Graft.f (k : Nat) (l0 : List (S34)) (a1 : Int) (l2 : List (S34)) : Option ((List (S34)) × Int) := (table_both.f k l0 l2).bind fun t402 => (if t402 = 0 then (if a1 < 0 then (table_Graft.j0 k l0 a1 l2 true) else (table_Graft.j0 k l0 a1 l2 (decide (a1 ≥ (l0.length : Int))))) else (some (([] : List (S34)), t402)))
theorem table_Graft.mono_l : ∀ k, (∀ y0 y1 y2 y3, LeO (table_Graft.j0 k y0 y1 y2 y3) (table_Graft.j0 (k + 1) y0 y1 y2 y3)) ∧ (∀ y0 y1 y2 y3 y4 y5 y6, LeO (table_Graft.l0 k y0 y1 y2 y3 y4 y5 y6) (table_Graft.l0 (k + 1) y0 y1 y2 y3 y4 y5 y6)) ∧ (∀ y0 y1 y2 y3 y4, LeO (table_Graft.l1 k y0 y1 y2 y3 y4) (table_Graft.l1 (k + 1) y0 y1 y2 y3 y4))
 | 0 => ⟨fun _ _ _ _ r h => by simp [table_Graft.j0] at h, fun _ _ _ _ _ _ _ r h => by simp [table_Graft.l0] at h, fun _ _ _ _ _ r h => by simp [table_Graft.l1] at h⟩
 | k + 1 => by
  obtain ⟨ih0, ih1, ih2⟩ := table_Graft.mono_l k
  refine ⟨?_, ?_, ?_⟩
  ·intro y0 y1 y2 y3
   unfold table_Graft.j0
   repeat' first
   | (with_reducible exact ih0 _ _ _ _)
   | (with_reducible exact ih1 _ _ _ _ _ _ _)
   | (with_reducible exact ih2 _ _ _ _ _)
   | (with_reducible exact table_both.mono _ _ _)
   | (with_reducible exact table_order.mono _ _ _)
   | (with_reducible exact table_sub.mono _ _ _)
   | (with_reducible exact LeO.refl _)
   | (with_reducible exact LeO.none _)
   | (with_reducible refine LeO.ite ?_ ?_)
   | (with_reducible refine LeO.bind ?_ (fun _ => ?_))
   | exact ih0 _ _ _ _
   | exact ih1 _ _ _ _ _ _ _
   | exact ih2 _ _ _ _ _
   | exact table_both.mono _ _ _
   | exact table_order.mono _ _ _
   | exact table_sub.mono _ _ _
   | exact LeO.none _
   | refine LeO.ite ?_ ?_
   | refine LeO.bind ?_ (fun _ => ?_)
  ·intro y0 y1 y2 y3 y4 y5 y6
   unfold table_Graft.l0
   repeat' first
   | (with_reducible exact ih0 _ _ _ _)
   | (with_reducible exact ih1 _ _ _ _ _ _ _)
   | (with_reducible exact ih2 _ _ _ _ _)
   | (with_reducible exact table_both.mono _ _ _)
   | (with_reducible exact table_order.mono _ _ _)
   | (with_reducible exact table_sub.mono _ _ _)
   | (with_reducible exact LeO.refl _)
   | (with_reducible exact LeO.none _)
   | (with_reducible refine LeO.ite ?_ ?_)
   | (with_reducible refine LeO.bind ?_ (fun _ => ?_))
   | exact ih0 _ _ _ _
   | exact ih1 _ _ _ _ _ _ _
   | exact ih2 _ _ _ _ _
   | exact table_both.mono _ _ _
   | exact table_order.mono _ _ _
   | exact table_sub.mono _ _ _
   | exact LeO.none _
   | refine LeO.ite ?_ ?_
   | refine LeO.bind ?_ (fun _ => ?_)
  ·intro y0 y1 y2 y3 y4
   unfold table_Graft.l1
   repeat' first
   | (with_reducible exact ih0 _ _ _ _)
   | (with_reducible exact ih1 _ _ _ _ _ _ _)
   | (with_reducible exact ih2 _ _ _ _ _)
   | (with_reducible exact table_both.mono _ _ _)
   | (with_reducible exact table_order.mono _ _ _)
   | (with_reducible exact table_sub.mono _ _ _)
   | (with_reducible exact LeO.refl _)
   | (with_reducible exact LeO.none _)
   | (with_reducible refine LeO.ite ?_ ?_)
   | (with_reducible refine LeO.bind ?_ (fun _ => ?_))
   | exact ih0 _ _ _ _
   | exact ih1 _ _ _ _ _ _ _
   | exact ih2 _ _ _ _ _
   | exact table_both.mono _ _ _
   | exact table_order.mono _ _ _
   | exact table_sub.mono _ _ _
   | exact LeO.none _
   | refine LeO.ite ?_ ?_
   | refine LeO.bind ?_ (fun _ => ?_)
theorem table_Graft.mono : ∀ a0 a1 a2 k, LeO (table_Graft.f k a0 a1 a2) (table_Graft.f (k + 1) a0 a1 a2) := by
 intro a0 a1 a2 k
 obtain ⟨ih0, ih1, ih2⟩ := table_Graft.mono_l k
 unfold table_Graft.f
 repeat' first
   | (with_reducible exact ih0 _ _ _ _)
   | (with_reducible exact ih1 _ _ _ _ _ _ _)
   | (with_reducible exact ih2 _ _ _ _ _)
   | (with_reducible exact table_both.mono _ _ _)
   | (with_reducible exact table_order.mono _ _ _)
   | (with_reducible exact table_sub.mono _ _ _)
   | (with_reducible exact LeO.refl _)
   | (with_reducible exact LeO.none _)
   | (with_reducible refine LeO.ite ?_ ?_)
   | (with_reducible refine LeO.bind ?_ (fun _ => ?_))
   | exact ih0 _ _ _ _
   | exact ih1 _ _ _ _ _ _ _
   | exact ih2 _ _ _ _ _
   | exact table_both.mono _ _ _
   | exact table_order.mono _ _ _
   | exact table_sub.mono _ _ _
   | exact LeO.none _
   | refine LeO.ite ?_ ?_
   | refine LeO.bind ?_ (fun _ => ?_)
-- NOT PRINTED: function 9 (larchlaw18_StepsLeaves)
end Go.Proofs.Ytgleaefhflamnaa.T
namespace Go.Proofs.Ytgleaefhflamnaa.T
open Go.RowKit Go.Proofs.YtgleaefhflamnaaW.PrintWords Go.Proofs.YtgleaefhflamnaaW.PrintLast Go.Proofs.YtgleaefhflamnaaW.PrintMore
/-- Trees as the code's pointers spell them: nil, or a node with its place and its children. -/
inductive Tr where
 | nil
 | node (n : S34) (pl : Int) (l r : Tr)
def ndCells (n : S34) (pl : Int) (vl vr : Value) : Array Value := #[.int .i64 n.f0, .int .i64 n.f1, .int .i64 n.f2, .int .i64 n.f3, .int .i64 n.f4, .int .i64 n.f5, .int .i64 pl, vl, vr]
/-- The pointer v leads to the tree T, through blocks of S alone. -/
def Rep (S : Nat → Prop) (w : World) : Value → Tr → Prop
 | v, .nil => v = .pointer none
 | v, .node n pl l r => ∃ b vl vr, v = .pointer (some ⟨b, 0, none⟩) ∧ w.heap[b]? = some (.cells (ndCells n pl vl vr) 116 (0, 0)) ∧ Rep S w vl l ∧ Rep S w vr r ∧ S b
variable {S : Nat → Prop}
theorem Rep.keptS {S : Nat → Prop} {w w' : World} (hk : ∀ k, S k → k < w.heap.size → w'.heap[k]? = w.heap[k]?) : ∀ {v : Value} {T : Tr}, Rep S w v T → Rep S w' v T
 | _, .nil, h => h
 | _, .node .., ⟨b, vl, vr, e, hb, hl, hr, hs⟩ => ⟨b, vl, vr, e, (hk b hs (Array.getElem?_eq_some_iff.1 hb).1).trans hb, hl.keptS hk, hr.keptS hk, hs⟩
theorem Rep.kept {S : Nat → Prop} {w w' : World} {v : Value} {T : Tr} (hk : ∀ k, k < w.heap.size → w'.heap[k]? = w.heap[k]?) (h : Rep S w v T) : Rep S w' v T := Rep.keptS (fun k _ => hk k) h
theorem Rep.mono {S S' : Nat → Prop} {w : World} (hs : ∀ k, S k → S' k) : ∀ {v : Value} {T : Tr}, Rep S w v T → Rep S' w v T
 | _, .nil, h => h
 | _, .node .., ⟨b, vl, vr, e, hb, hl, hr, h⟩ => ⟨b, vl, vr, e, hb, hl.mono hs, hr.mono hs, hs b h⟩
theorem Rep.bound {S : Nat → Prop} {w : World} : ∀ {v : Value} {T : Tr}, Rep S w v T → Rep (fun k => S k ∧ k < w.heap.size) w v T
 | _, .nil, h => h
 | _, .node .., ⟨b, vl, vr, e, hb, hl, hr, h⟩ => ⟨b, vl, vr, e, hb, hl.bound, hr.bound, h, (Array.getElem?_eq_some_iff.1 hb).1⟩
theorem Rep.below {S : Nat → Prop} {w w' : World} {v : Value} {T : Tr} (h : Rep S w v T) (hb : Below w.heap.size w w') : Rep S w' v T := h.kept (fun k hk => hb.block k hk)
theorem Rep.ptr {S : Nat → Prop} {w : World} {v : Value} : ∀ {T : Tr}, Rep S w v T → ∃ p, v = .pointer p
 | .nil, h => ⟨none, h⟩
 | .node .., ⟨b, _, _, e, _⟩ => ⟨some ⟨b, 0, none⟩, e⟩
def wt : Tr → Int
 | .nil => -1
 | .node n _ _ _ => n.f2
def lT (m : Bool) : Tr → Tr
 | .nil => .nil
 | .node _ _ l r => if m then r else l
def rT (m : Bool) : Tr → Tr
 | .nil => .nil
 | .node _ _ l r => if m then l else r
theorem cell_of {w : World} {b : Nat} {c : Array Value} {t : TypeId} (h : w.heap[b]? = some (.cells c t (0, 0))) (i : Nat) : w.cell? ⟨b, i, none⟩ = c[i]? := by simp [World.cell?, h]
set_option maxHeartbeats 1000000 in
theorem weight_any (v : Value) (T : Tr) (w : World) (h : Rep S w v T) :
  Calls Try.prog 92 #[v] w fun e w' => e = .returned (.int .i64 (wt T)) ∧ w' = w := by
 cases T with
 | nil =>
  obtain rfl := h
  go_enter Try.func92, Try.ntmps92
  go_wp2
  go_ret
  exact ⟨rfl, rfl⟩
 | node n pl l r =>
  obtain ⟨b, vl, vr, rfl, hb, _, _, _⟩ := h
  have hc : w.cell? ⟨b, 2, none⟩ = some (.int .i64 n.f2) := (cell_of hb 2).trans rfl
  clear hb
  go_enter Try.func92, Try.ntmps92
  go_wp2
  go_ret
  exact ⟨rfl, rfl⟩
set_option maxHeartbeats 1000000 in
theorem red_any (v : Value) (T : Tr) (w : World) (h : Rep S w v T) :
  Calls Try.prog 87 #[v] w fun e w' => e = .returned (.bool (wt T == 0)) ∧ w' = w := by
 have H := Am h
 clear h
 go_enter Try.func87, Try.ntmps87
 go_wp2_with (go_at_call 92; refine (weight_any _ _ _ H.out).mono ?_; rintro e w' ⟨rfl, rfl⟩)
 go_ret
 exact ⟨rfl, rfl⟩
set_option maxHeartbeats 1000000 in
theorem black_any (v : Value) (T : Tr) (w : World) (h : Rep S w v T) :
  Calls Try.prog 88 #[v] w fun e w' => e = .returned (.bool (decide (0 < wt T))) ∧ w' = w := by
 have H := Am h
 clear h
 go_enter Try.func88, Try.ntmps88
 go_wp2_with (go_at_call 92; refine (weight_any _ _ _ H.out).mono ?_; rintro e w' ⟨rfl, rfl⟩)
 go_ret
 exact ⟨rfl, rfl⟩
set_option maxHeartbeats 1000000 in
theorem over_any (v : Value) (T : Tr) (w : World) (h : Rep S w v T) :
  Calls Try.prog 90 #[v] w fun e w' => e = .returned (.bool (decide (1 < wt T))) ∧ w' = w := by
 have H := Am h
 clear h
 go_enter Try.func90, Try.ntmps90
 go_wp2_with (go_at_call 92; refine (weight_any _ _ _ H.out).mono ?_; rintro e w' ⟨rfl, rfl⟩)
 go_ret
 exact ⟨rfl, rfl⟩
set_option maxHeartbeats 1000000 in
theorem one_any (v : Value) (T : Tr) (w : World) (h : Rep S w v T) :
  Calls Try.prog 91 #[v] w fun e w' => e = .returned (.bool (wt T == 1)) ∧ w' = w := by
 have H := Am h
 clear h
 go_enter Try.func91, Try.ntmps91
 go_wp2_with (go_at_call 92; refine (weight_any _ _ _ H.out).mono ?_; rintro e w' ⟨rfl, rfl⟩)
 go_ret
 exact ⟨rfl, rfl⟩
def innerB : Tr → Bool
 | .nil => false
 | .node _ _ .nil _ => false
 | .node _ _ (.node ..) _ => true
set_option maxHeartbeats 1000000 in
theorem inner_any (v : Value) (T : Tr) (w : World) (h : Rep S w v T) :
  Calls Try.prog 89 #[v] w fun e w' => e = .returned (.bool (innerB T)) ∧ w' = w := by
 cases T with
 | nil =>
  obtain rfl := h
  unfold innerB
  go_enter Try.func89, Try.ntmps89
  go_wp2
  go_ret
  exact ⟨rfl, rfl⟩
 | node n pl l r =>
  obtain ⟨b, vl, vr, rfl, hb, hl, _, _⟩ := h
  have hc : w.cell? ⟨b, 7, none⟩ = some vl := (cell_of hb 7).trans rfl
  clear hb
  cases l with
  | nil =>
   obtain rfl := hl
   unfold innerB
   go_enter Try.func89, Try.ntmps89
   go_wp2
   go_ret
   exact ⟨rfl, rfl⟩
  | node n' pl' l' r' =>
   obtain ⟨b', _, _, rfl, _⟩ := hl
   unfold innerB
   go_enter Try.func89, Try.ntmps89
   go_wp2
   go_ret
   exact ⟨rfl, rfl⟩
set_option maxHeartbeats 1000000 in
theorem left_any (m rt : Bool) (x1 x2 x3 x4 x5 x6 x7 x8 x9 v : Value) (T : Tr) (w0 w : World) (h : Rep S w0 v T) (h0 : Below w0.heap.size w0 w) :
  Calls Try.prog 85 #[.agg #[.bool m, x1, x2, x3, x4, x5, x6, x7, x8, x9, .bool rt], v] w fun e w' => ∃ v', e = .returned v' ∧ Rep S w0 v' (lT m T) ∧ Below w.heap.size w w' := by
 have hu111 := Try.underlying111
 cases T with
 | nil =>
  obtain rfl := h
  go_enter Try.func85, Try.ntmps85
  go_wp2
  go_ret
  exact ⟨_, rfl, rfl, (Below.refl _ _).alloc (Nat.le_refl _) _⟩
 | node n pl l r =>
  obtain ⟨b, vl, vr, rfl, hb, hl, hr, _⟩ := h
  have hblt := (Array.getElem?_eq_some_iff.1 hb).1
  have hc7 : w.cell? ⟨b, 7, none⟩ = some vl := (h0.cell (p := ⟨b, 7, none⟩) hblt).trans ((cell_of hb 7).trans rfl)
  have hc8 : w.cell? ⟨b, 8, none⟩ = some vr := (h0.cell (p := ⟨b, 8, none⟩) hblt).trans ((cell_of hb 8).trans rfl)
  have HL := Am hl
  have HR := Am hr
  have hblw := Nat.lt_of_lt_of_le hblt h0.size
  clear hb hl hr h0 hblt
  cases m with
  | true =>
   have hfin : ∀ w', Below w.heap.size w w' → ∃ v', Ending.returned vr = .returned v' ∧ Rep S w0 v' (lT true (.node n pl l r)) ∧ Below w.heap.size w w' := fun w' hb => ⟨_, rfl, HR.out, hb⟩
   have HF := Am hfin
   clear hfin
   go_enter Try.func85, Try.ntmps85
   go_wp2
   go_ret
   exact HF.out _ ((Below.refl _ _).alloc (Nat.le_refl _) _)
  | false =>
   have hfin : ∀ w', Below w.heap.size w w' → ∃ v', Ending.returned vl = .returned v' ∧ Rep S w0 v' (lT false (.node n pl l r)) ∧ Below w.heap.size w w' := fun w' hb => ⟨_, rfl, HL.out, hb⟩
   have HF := Am hfin
   clear hfin
   go_enter Try.func85, Try.ntmps85
   go_wp2
   go_ret
   exact HF.out _ ((Below.refl _ _).alloc (Nat.le_refl _) _)
set_option maxHeartbeats 1000000 in
theorem right_any (m rt : Bool) (x1 x2 x3 x4 x5 x6 x7 x8 x9 v : Value) (T : Tr) (w0 w : World) (h : Rep S w0 v T) (h0 : Below w0.heap.size w0 w) :
  Calls Try.prog 86 #[.agg #[.bool m, x1, x2, x3, x4, x5, x6, x7, x8, x9, .bool rt], v] w fun e w' => ∃ v', e = .returned v' ∧ Rep S w0 v' (rT m T) ∧ Below w.heap.size w w' := by
 have hu111 := Try.underlying111
 cases T with
 | nil =>
  obtain rfl := h
  go_enter Try.func86, Try.ntmps86
  go_wp2
  go_ret
  exact ⟨_, rfl, rfl, (Below.refl _ _).alloc (Nat.le_refl _) _⟩
 | node n pl l r =>
  obtain ⟨b, vl, vr, rfl, hb, hl, hr, _⟩ := h
  have hblt := (Array.getElem?_eq_some_iff.1 hb).1
  have hc7 : w.cell? ⟨b, 7, none⟩ = some vl := (h0.cell (p := ⟨b, 7, none⟩) hblt).trans ((cell_of hb 7).trans rfl)
  have hc8 : w.cell? ⟨b, 8, none⟩ = some vr := (h0.cell (p := ⟨b, 8, none⟩) hblt).trans ((cell_of hb 8).trans rfl)
  have HL := Am hl
  have HR := Am hr
  have hblw := Nat.lt_of_lt_of_le hblt h0.size
  clear hb hl hr h0 hblt
  cases m with
  | true =>
   have hfin : ∀ w', Below w.heap.size w w' → ∃ v', Ending.returned vl = .returned v' ∧ Rep S w0 v' (rT true (.node n pl l r)) ∧ Below w.heap.size w w' := fun w' hb => ⟨_, rfl, HL.out, hb⟩
   have HF := Am hfin
   clear hfin
   go_enter Try.func86, Try.ntmps86
   go_wp2
   go_ret
   exact HF.out _ ((Below.refl _ _).alloc (Nat.le_refl _) _)
  | false =>
   have hfin : ∀ w', Below w.heap.size w w' → ∃ v', Ending.returned vr = .returned v' ∧ Rep S w0 v' (rT false (.node n pl l r)) ∧ Below w.heap.size w w' := fun w' hb => ⟨_, rfl, HR.out, hb⟩
   have HF := Am hfin
   clear hfin
   go_enter Try.func86, Try.ntmps86
   go_wp2
   go_ret
   exact HF.out _ ((Below.refl _ _).alloc (Nat.le_refl _) _)
end Go.Proofs.Ytgleaefhflamnaa.T
namespace Go.Proofs.Ytgleaefhflamnaa.T
open Go.RowKit Go.Proofs.YtgleaefhflamnaaW.PrintWords Go.Proofs.YtgleaefhflamnaaW.PrintLast Go.Proofs.YtgleaefhflamnaaW.PrintMore
variable {S : Nat → Prop}
/-- A node that a call has made: its children lay there before. -/
def TopRep (S : Nat → Prop) (w w' : World) (v : Value) (T : Tr) : Prop := ∃ b n pl L R vl vr, v = .pointer (some ⟨b, 0, none⟩) ∧ T = .node n pl L R ∧ w.heap.size ≤ b ∧ w'.heap[b]? = some (.cells (ndCells n pl vl vr) 116 (0, 0)) ∧ Rep S w vl L ∧ Rep S w vr R ∧ S b
theorem TopRep.rep {w w' : World} {v : Value} {T : Tr} (h : TopRep S w w' v T) (hb : Below w.heap.size w w') : Rep S w' v T := by
 obtain ⟨b, n, pl, L, R, vl, vr, rfl, rfl, _, h1, h2, h3, h4⟩ := h
 exact ⟨b, vl, vr, rfl, h1, h2.below hb, h3.below hb, h4⟩
theorem TopRep.ptr {w w' : World} {v : Value} {T : Tr} (h : TopRep S w w' v T) : ∃ p, v = .pointer p := by
 obtain ⟨b, n, pl, L, R, vl, vr, rfl, _⟩ := h
 exact ⟨_, rfl⟩
def asT (x : Int) : Tr → Tr
 | .nil => .nil
 | .node n _ l r => .node ⟨n.f0, n.f1, x, n.f3, n.f4, n.f5⟩ 0 l r
set_option maxHeartbeats 1000000 in
theorem as_any (v : Value) (n : S34) (pl : Int) (l r : Tr) (x : Int) (w : World) (hS : ∀ k, w.heap.size ≤ k → S k) (h : Rep S w v (.node n pl l r)) :
  Calls Try.prog 94 #[v, .int .i64 x] w fun e w' => ∃ v', e = .returned v' ∧ TopRep S w w' v' (asT x (.node n pl l r)) ∧ Below w.heap.size w w' := by
 have hu34 := Try.underlying34
 have hu116 := Try.underlying116
 obtain ⟨b, vl, vr, rfl, hb, hl, hr, _⟩ := h
 have hblt := (Array.getElem?_eq_some_iff.1 hb).1
 have hc0 : w.cell? ⟨b, 0, none⟩ = some (.int .i64 n.f0) := (cell_of hb 0).trans rfl
 have hc1 : w.cell? ⟨b, 1, none⟩ = some (.int .i64 n.f1) := (cell_of hb 1).trans rfl
 have hc2 : w.cell? ⟨b, 2, none⟩ = some (.int .i64 n.f2) := (cell_of hb 2).trans rfl
 have hc3 : w.cell? ⟨b, 3, none⟩ = some (.int .i64 n.f3) := (cell_of hb 3).trans rfl
 have hc4 : w.cell? ⟨b, 4, none⟩ = some (.int .i64 n.f4) := (cell_of hb 4).trans rfl
 have hc5 : w.cell? ⟨b, 5, none⟩ = some (.int .i64 n.f5) := (cell_of hb 5).trans rfl
 have hc7 : w.cell? ⟨b, 7, none⟩ = some vl := (cell_of hb 7).trans rfl
 have hc8 : w.cell? ⟨b, 8, none⟩ = some vr := (cell_of hb 8).trans rfl
 have HL := Am hl
 have HR := Am hr
 obtain ⟨pL, epL⟩ := hl.ptr
 obtain ⟨pR, epR⟩ := hr.ptr
 subst epL
 subst epR
 have HSS := Am hS
 clear hb hl hr hS
 go_enter Try.func94, Try.ntmps94
 go_wp2
 go_region
 go_wp2
 go_ret
 have hB : Below w.heap.size w (w.alloc (.cells (ndCells ⟨n.f0, n.f1, x, n.f3, n.f4, n.f5⟩ 0 (.pointer pL) (.pointer pR)) 116)).drew := ((Below.refl _ _).alloc (Nat.le_refl _) _).drew
 exact ⟨_, rfl, ⟨w.heap.size, _, _, _, _, _, _, rfl, rfl, Nat.le_refl _, heap_alloc_new w _, HL.out, HR.out, HSS.out _ (Nat.le_refl _)⟩, hB⟩
def lessT (T : Tr) : Tr := asT (wrap64 (wt T - 1)) T
set_option maxHeartbeats 1000000 in
theorem less_any (v : Value) (n : S34) (pl : Int) (l r : Tr) (w : World) (hS : ∀ k, w.heap.size ≤ k → S k) (h : Rep S w v (.node n pl l r)) :
  Calls Try.prog 95 #[v] w fun e w' => ∃ v', e = .returned v' ∧ TopRep S w w' v' (lessT (.node n pl l r)) ∧ Below w.heap.size w w' := by
 have H := Am h
 have HSS := Am hS
 clear h hS
 go_enter Try.func95, Try.ntmps95
 go_wp2_with (fail)
 refine (weight_any _ _ _ H.out).mono ?_
 rintro e w' ⟨rfl, rfl⟩
 go_wp2_with (fail)
 refine (as_any _ _ _ _ _ _ _ HSS.out H.out).mono ?_
 rintro e w' ⟨v', rfl, h1, h2⟩
 obtain ⟨p, rfl⟩ := h1.ptr
 have H1 := Am h1
 have H2 := Am h2
 clear h1 h2
 go_wp2
 go_ret
 exact ⟨_, rfl, H1.out, H2.out⟩
def putT (m : Bool) (key x : Int) (L R : Tr) : Tr := .node ⟨key, 0, x, 0, 0, 0⟩ 0 (if m then R else L) (if m then L else R)
set_option maxHeartbeats 1000000 in
theorem put_any (m rt : Bool) (x1 x2 x3 x4 x5 x6 x7 x8 x9 vk vl vr : Value) (n : S34) (pl : Int) (lk rk : Tr) (x : Int) (L R : Tr) (w : World) (hS : ∀ k, w.heap.size ≤ k → S k) (h : Rep S w vk (.node n pl lk rk)) (hl : Rep S w vl L) (hr : Rep S w vr R) :
  Calls Try.prog 93 #[.agg #[.bool m, x1, x2, x3, x4, x5, x6, x7, x8, x9, .bool rt], vk, .int .i64 x, vl, vr] w fun e w' => ∃ v', e = .returned v' ∧ TopRep S w w' v' (putT m n.f0 x L R) ∧ Below w.heap.size w w' := by
 have hu34 := Try.underlying34
 have hu116 := Try.underlying116
 have hu111 := Try.underlying111
 obtain ⟨b, kl, kr, rfl, hb, _, _, _⟩ := h
 have hblt := (Array.getElem?_eq_some_iff.1 hb).1
 have hc0 : w.cell? ⟨b, 0, none⟩ = some (.int .i64 n.f0) := (cell_of hb 0).trans rfl
 have HL := Am hl
 have HR := Am hr
 obtain ⟨pL, epL⟩ := hl.ptr
 obtain ⟨pR, epR⟩ := hr.ptr
 subst epL
 subst epR
 have HSS := Am hS
 clear hb hl hr hS
 cases m with
 | false =>
  go_enter Try.func93, Try.ntmps93
  go_wp2
  go_ret
  have hB : Below w.heap.size w ((w.alloc (.cells #[.bool false, x1, x2, x3, x4, x5, x6, x7, x8, x9, .bool rt] 111)).alloc (.cells (ndCells ⟨n.f0, 0, x, 0, 0, 0⟩ 0 (.pointer pL) (.pointer pR)) 116)) := ((Below.refl _ _).alloc (Nat.le_refl _) _).alloc (by simp) _
  exact ⟨_, rfl, ⟨w.heap.size + 1, _, _, _, _, _, _, rfl, rfl, Nat.le_succ _, by have := heap_alloc_new (w.alloc (.cells #[.bool false, x1, x2, x3, x4, x5, x6, x7, x8, x9, .bool rt] 111)) (.cells (ndCells ⟨n.f0, 0, x, 0, 0, 0⟩ 0 (.pointer pL) (.pointer pR)) 116); rw [World.size_alloc] at this; exact this, HL.out, HR.out, HSS.out _ (Nat.le_succ _)⟩, hB⟩
 | true =>
  go_enter Try.func93, Try.ntmps93
  go_wp2
  go_ret
  have hB : Below w.heap.size w ((w.alloc (.cells #[.bool true, x1, x2, x3, x4, x5, x6, x7, x8, x9, .bool rt] 111)).alloc (.cells (ndCells ⟨n.f0, 0, x, 0, 0, 0⟩ 0 (.pointer pR) (.pointer pL)) 116)) := ((Below.refl _ _).alloc (Nat.le_refl _) _).alloc (by simp) _
  exact ⟨_, rfl, ⟨w.heap.size + 1, _, _, _, _, _, _, rfl, rfl, Nat.le_succ _, by have := heap_alloc_new (w.alloc (.cells #[.bool true, x1, x2, x3, x4, x5, x6, x7, x8, x9, .bool rt] 111)) (.cells (ndCells ⟨n.f0, 0, x, 0, 0, 0⟩ 0 (.pointer pR) (.pointer pL)) 116); rw [World.size_alloc] at this; exact this, HR.out, HL.out, HSS.out _ (Nat.le_succ _)⟩, hB⟩
end Go.Proofs.Ytgleaefhflamnaa.T
namespace Go.Proofs.Ytgleaefhflamnaa.T
open Go.RowKit Go.Proofs.YtgleaefhflamnaaW.PrintWords Go.Proofs.YtgleaefhflamnaaW.PrintLast Go.Proofs.YtgleaefhflamnaaW.PrintMore
variable {S : Nat → Prop}
def LookPost (S : Nat → Prop) (w : World) (p : Option Addr) (T : Tr) (m rt : Bool) (e : Ending) (w' : World) : Prop :=
 ∃ pl pr pll plr prl prr pa pb, e = .returned (.agg #[.bool m, .pointer p, .pointer pl, .pointer pr, .pointer pll, .pointer plr, .pointer prl, .pointer prr, .pointer pa, .pointer pb, .bool rt]) ∧ Below w.heap.size w w' ∧
  Rep S w (.pointer pl) (lT m T) ∧ Rep S w (.pointer pr) (rT m T) ∧ Rep S w (.pointer pll) (lT m (lT m T)) ∧ Rep S w (.pointer plr) (rT m (lT m T)) ∧ Rep S w (.pointer prl) (lT m (rT m T)) ∧ Rep S w (.pointer prr) (rT m (rT m T)) ∧
  Rep S w (.pointer pa) (lT m (lT m (rT m T))) ∧ Rep S w (.pointer pb) (rT m (lT m (rT m T)))
theorem frz_of {w : World} {b : Nat} {c : Array Value} {t : TypeId} (h : w.heap[b]? = some (.cells c t (0, 0))) (i : Nat) : w.frozen? ⟨b, i, none⟩ = false := by simp [World.frozen?, h]
theorem cell_al {W : World} {a : Addr} {v : Value} (o : Obj) (h : W.cell? a = some v) : (W.alloc o).cell? a = some v := (World.cell?_alloc_lt _ _ _ (blt W a h)).trans h
theorem put_blk {w : World} {g : Nat} {cs : Array Value} {t : TypeId} (h : w.heap[g]? = some (.cells cs t (0, 0))) (i : Nat) (v : Value) : (w.setCell ⟨g, i, none⟩ v).heap[g]? = some (.cells (cs.setIfInBounds i v) t (0, 0)) := by
 simp [World.setCell, Array.getElem?_modify, h]
theorem put_blk_ne {w : World} {g k : Nat} (h : k ≠ g) (i : Nat) (v : Value) : (w.setCell ⟨g, i, none⟩ v).heap[k]? = w.heap[k]? := Below.heap_setCell w ⟨g, i, none⟩ v k h
theorem put11 {w : World} {g : Nat} {t : TypeId} {c0 c1 c2 c3 c4 c5 c6 c7 c8 c9 c10 : Value} (h : w.heap[g]? = some (.cells #[c0, c1, c2, c3, c4, c5, c6, c7, c8, c9, c10] t (0, 0))) (v0 v1 v2 v3 v4 v5 v6 v7 v8 v9 v10 : Value) :
  ((((((((((((w.setCell ⟨g, 0, none⟩ v0).setCell ⟨g, 1, none⟩ v1).setCell ⟨g, 2, none⟩ v2).setCell ⟨g, 3, none⟩ v3).setCell ⟨g, 4, none⟩ v4).setCell ⟨g, 5, none⟩ v5).setCell ⟨g, 6, none⟩ v6).setCell ⟨g, 7, none⟩ v7).setCell ⟨g, 8, none⟩ v8).setCell ⟨g, 9, none⟩ v9).setCell ⟨g, 10, none⟩ v10).heap[g]? = some (.cells #[v0, v1, v2, v3, v4, v5, v6, v7, v8, v9, v10] t (0, 0))) := by
 have h0 := put_blk h 0 v0
 simp only [sI, sZ, sS] at h0
 have h1 := put_blk h0 1 v1
 simp only [sI, sZ, sS] at h1
 have h2 := put_blk h1 2 v2
 simp only [sI, sZ, sS] at h2
 have h3 := put_blk h2 3 v3
 simp only [sI, sZ, sS] at h3
 have h4 := put_blk h3 4 v4
 simp only [sI, sZ, sS] at h4
 have h5 := put_blk h4 5 v5
 simp only [sI, sZ, sS] at h5
 have h6 := put_blk h5 6 v6
 simp only [sI, sZ, sS] at h6
 have h7 := put_blk h6 7 v7
 simp only [sI, sZ, sS] at h7
 have h8 := put_blk h7 8 v8
 simp only [sI, sZ, sS] at h8
 have h9 := put_blk h8 9 v9
 simp only [sI, sZ, sS] at h9
 have h10 := put_blk h9 10 v10
 simp only [sI, sZ, sS] at h10
 exact h10
theorem below11 {B : Nat} {a w : World} {g : Nat} (h : Below B a w) (hg : B ≤ g) (v0 v1 v2 v3 v4 v5 v6 v7 v8 v9 v10 : Value) : Below B a (((((((((((w.setCell ⟨g, 0, none⟩ v0).setCell ⟨g, 1, none⟩ v1).setCell ⟨g, 2, none⟩ v2).setCell ⟨g, 3, none⟩ v3).setCell ⟨g, 4, none⟩ v4).setCell ⟨g, 5, none⟩ v5).setCell ⟨g, 6, none⟩ v6).setCell ⟨g, 7, none⟩ v7).setCell ⟨g, 8, none⟩ v8).setCell ⟨g, 9, none⟩ v9).setCell ⟨g, 10, none⟩ v10) := (((((((((((h.setCell (p := ⟨g, 0, none⟩) hg v0).setCell (p := ⟨g, 1, none⟩) hg v1).setCell (p := ⟨g, 2, none⟩) hg v2).setCell (p := ⟨g, 3, none⟩) hg v3).setCell (p := ⟨g, 4, none⟩) hg v4).setCell (p := ⟨g, 5, none⟩) hg v5).setCell (p := ⟨g, 6, none⟩) hg v6).setCell (p := ⟨g, 7, none⟩) hg v7).setCell (p := ⟨g, 8, none⟩) hg v8).setCell (p := ⟨g, 9, none⟩) hg v9).setCell (p := ⟨g, 10, none⟩) hg v10)
theorem look_fin {w w5 : World} {T : Tr} {m rt : Bool} {p pl pr pll plr prl prr pa pb : Option Addr} {g6 : Nat} (hb : Below w.heap.size w w5) (_h6 : w.heap.size ≤ g6) (h1 : Rep S w (.pointer pl) (lT m T)) (h2 : Rep S w (.pointer pr) (rT m T)) (h3 : Rep S w (.pointer pll) (lT m (lT m T))) (h4 : Rep S w (.pointer plr) (rT m (lT m T)))
  (h5 : Rep S w (.pointer prl) (lT m (rT m T))) (h6 : Rep S w (.pointer prr) (rT m (rT m T))) (h7 : Rep S w (.pointer pa) (lT m (lT m (rT m T)))) (h8 : Rep S w (.pointer pb) (rT m (lT m (rT m T)))) :
  ∀ w', Below w.heap.size w w' → LookPost S w p T m rt (.returned (.agg #[.bool m, .pointer p, .pointer pl, .pointer pr, .pointer pll, .pointer plr, .pointer prl, .pointer prr, .pointer pa, .pointer pb, .bool rt])) w' :=
 fun _ hb' => ⟨pl, pr, pll, plr, prl, prr, pa, pb, rfl, hb', h1, h2, h3, h4, h5, h6, h7, h8⟩
set_option maxHeartbeats 2000000 in
set_option maxRecDepth 100000 in
theorem look_any (p : Option Addr) (T : Tr) (k : Int) (m rt : Bool) (w : World) (h : Rep S w (.pointer p) T) :
  Calls Try.prog 63 #[.pointer p, .agg #[.int .i64 k, .bool m], .bool rt] w fun e w' => LookPost S w p T m rt e w' := by
 have hu62 := Try.underlying62
 have hu111 := Try.underlying111
 have HRp := Am h
 clear h
 go_enter Try.func63, Try.ntmps63
 go_wp2
 have HV : Aside0 ((((w.alloc (.cells #[.int .i64 k, .bool m] 62)).alloc (.cells #[.bool false, .pointer none, .pointer none, .pointer none, .pointer none, .pointer none, .pointer none, .pointer none, .pointer none, .pointer none, .bool false] 111)).alloc (.cells #[.bool m, .pointer p, .pointer none, .pointer none, .pointer none, .pointer none, .pointer none, .pointer none, .pointer none, .pointer none, .bool rt] 111)).heap[w.heap.size + 1 + 1]? = some (.cells #[.bool m, .pointer p, .pointer none, .pointer none, .pointer none, .pointer none, .pointer none, .pointer none, .pointer none, .pointer none, .bool rt] 111 (0, 0))) := ⟨by have := heap_alloc_new ((w.alloc (.cells #[.int .i64 k, .bool m] 62)).alloc (.cells #[.bool false, .pointer none, .pointer none, .pointer none, .pointer none, .pointer none, .pointer none, .pointer none, .pointer none, .pointer none, .bool false] 111)) (.cells #[.bool m, .pointer p, .pointer none, .pointer none, .pointer none, .pointer none, .pointer none, .pointer none, .pointer none, .pointer none, .bool rt] 111); rw [World.size_alloc, World.size_alloc] at this; exact this⟩
 have HG : Aside0 ((((w.alloc (.cells #[.int .i64 k, .bool m] 62)).alloc (.cells #[.bool false, .pointer none, .pointer none, .pointer none, .pointer none, .pointer none, .pointer none, .pointer none, .pointer none, .pointer none, .bool false] 111)).alloc (.cells #[.bool m, .pointer p, .pointer none, .pointer none, .pointer none, .pointer none, .pointer none, .pointer none, .pointer none, .pointer none, .bool rt] 111)).heap[w.heap.size + 1]? = some (.cells #[.bool false, .pointer none, .pointer none, .pointer none, .pointer none, .pointer none, .pointer none, .pointer none, .pointer none, .pointer none, .bool false] 111)) := ⟨by rw [Below.heap_alloc _ _ _ (by simp)]; have := heap_alloc_new (w.alloc (.cells #[.int .i64 k, .bool m] 62)) (.cells #[.bool false, .pointer none, .pointer none, .pointer none, .pointer none, .pointer none, .pointer none, .pointer none, .pointer none, .pointer none, .bool false] 111); rw [World.size_alloc] at this; exact this⟩
 have HB : Aside0 (Below w.heap.size w (((w.alloc (.cells #[.int .i64 k, .bool m] 62)).alloc (.cells #[.bool false, .pointer none, .pointer none, .pointer none, .pointer none, .pointer none, .pointer none, .pointer none, .pointer none, .pointer none, .bool false] 111)).alloc (.cells #[.bool m, .pointer p, .pointer none, .pointer none, .pointer none, .pointer none, .pointer none, .pointer none, .pointer none, .pointer none, .bool rt] 111))) := ⟨(((Below.refl _ _).alloc (Nat.le_refl _) _).alloc (by simp) _).alloc (by simp; omega) _⟩
 have HGE : Aside0 (w.heap.size ≤ w.heap.size + 1 + 1) := ⟨by omega⟩
 have HG6 : Aside0 (w.heap.size ≤ w.heap.size + 1) := ⟨by omega⟩
 have HNE : Aside0 (w.heap.size + 1 ≠ w.heap.size + 1 + 1) := ⟨by omega⟩
 generalize ((w.alloc (.cells #[.int .i64 k, .bool m] 62)).alloc (.cells #[.bool false, .pointer none, .pointer none, .pointer none, .pointer none, .pointer none, .pointer none, .pointer none, .pointer none, .pointer none, .bool false] 111)).alloc (.cells #[.bool m, .pointer p, .pointer none, .pointer none, .pointer none, .pointer none, .pointer none, .pointer none, .pointer none, .pointer none, .bool rt] 111) = w1 at HV HG HB ⊢
 generalize w.heap.size + 1 + 1 = g at HV HGE HNE ⊢
 generalize w.heap.size + 1 = g6 at HG HG6 HNE ⊢
 have HB0 := Am (bd HB.out)
 have HV0 : Aside0 (w1.drew.heap[g]? = some (.cells #[.bool m, .pointer p, .pointer none, .pointer none, .pointer none, .pointer none, .pointer none, .pointer none, .pointer none, .pointer none, .bool rt] 111 (0, 0))) := ⟨HV.out⟩
 have HG0 : Aside0 (w1.drew.heap[g6]? = some (.cells #[.bool false, .pointer none, .pointer none, .pointer none, .pointer none, .pointer none, .pointer none, .pointer none, .pointer none, .pointer none, .bool false] 111)) := ⟨HG.out⟩
 clear HB HV HG
 refine start_ (n := 10) (S := fun w' => w'.cell? ⟨g, 0, none⟩ = some (.bool m) ∧ w'.cell? ⟨g, 1, none⟩ = some (.pointer p) ∧ w'.cell? ⟨g, 2, none⟩ = some (.pointer none) ∧ w'.cell? ⟨g, 3, none⟩ = some (.pointer none) ∧ w'.cell? ⟨g, 4, none⟩ = some (.pointer none) ∧ w'.cell? ⟨g, 5, none⟩ = some (.pointer none) ∧ w'.cell? ⟨g, 6, none⟩ = some (.pointer none) ∧ w'.cell? ⟨g, 7, none⟩ = some (.pointer none) ∧ w'.cell? ⟨g, 8, none⟩ = some (.pointer none) ∧ w'.cell? ⟨g, 9, none⟩ = some (.pointer none) ∧ w'.cell? ⟨g, 10, none⟩ = some (.bool rt)) (ds := [7, 9]) #[false, false, false, false, false, false, false, false, false, false] (by kernel_rfl) rfl rfl ⟨(cell_of HV0.out 0).trans rfl, (cell_of HV0.out 1).trans rfl, (cell_of HV0.out 2).trans rfl, (cell_of HV0.out 3).trans rfl, (cell_of HV0.out 4).trans rfl, (cell_of HV0.out 5).trans rfl, (cell_of HV0.out 6).trans rfl, (cell_of HV0.out 7).trans rfl, (cell_of HV0.out 8).trans rfl, (cell_of HV0.out 9).trans rfl, (cell_of HV0.out 10).trans rfl⟩ (fun hHeld => ?_)
 refine pu 1 14 ?_
 refine pu 4 17 ?_
 refine ta 0 13 hHeld ?_
 refine ta 3 16 hHeld ?_
 refine one_ (i := 2) (N := some 15) #[true, true, true, true, true, false, false, false, false, false] rfl rfl (by kernel_rfl) (by decide) (fun K hK => ?_)
 refine goes_ Try.func85 (by kernel_rfl) rfl #[.agg #[.bool m, .pointer p, .pointer none, .pointer none, .pointer none, .pointer none, .pointer none, .pointer none, .pointer none, .pointer none, .bool rt], .pointer p] (by rfl) rfl rfl (by (try simp only [List.map_toArray, List.map_cons, List.map_nil]); first | done | rfl) ?_
 with_reducible refine (left_any _ _ _ _ _ _ _ _ _ _ _ _ _ w _ HRp.out HB0.out).mono ?_
 rintro e w21 ⟨v', rfl, h1, h2⟩
 obtain ⟨pl, rfl⟩ := h1.ptr
 have HRpl := Am h1
 have HB1 := Am (HB0.out.trans (h2.mono HB0.out.size))
 have HV1 := Am ((h2.block _ (Array.getElem?_eq_some_iff.1 HV0.out).1).trans HV0.out)
 have HG1 := Am ((h2.block _ (Array.getElem?_eq_some_iff.1 HG0.out).1).trans HG0.out)
 clear h1 h2 HB0 HV0 HG0
 refine ⟨_, rfl, ?_⟩
 refine hK.out _ _ ⟨(cell_of HV1.out 0).trans rfl, (cell_of HV1.out 1).trans rfl, (cell_of HV1.out 2).trans rfl, (cell_of HV1.out 3).trans rfl, (cell_of HV1.out 4).trans rfl, (cell_of HV1.out 5).trans rfl, (cell_of HV1.out 6).trans rfl, (cell_of HV1.out 7).trans rfl, (cell_of HV1.out 8).trans rfl, (cell_of HV1.out 9).trans rfl, (cell_of HV1.out 10).trans rfl⟩ (fun hHeld => ?_)
 clear hK K
 refine norm_ (a' := ?_) ?_ ?_
 rotate_left
 ·show Act.put _ (some 15) _ = _
  simp only [Act.put, sI, sZ, sS, i64_w, i32_w]
  rfl
 refine pu 6 19 ?_
 refine one_ (i := 5) (N := some 18) #[true, true, true, true, true, true, true, false, false, false] rfl rfl (by kernel_rfl) (by decide) (fun K hK => ?_)
 refine goes_ Try.func86 (by kernel_rfl) rfl #[.agg #[.bool m, .pointer p, .pointer none, .pointer none, .pointer none, .pointer none, .pointer none, .pointer none, .pointer none, .pointer none, .bool rt], .pointer p] (by rfl) rfl rfl (by (try simp only [List.map_toArray, List.map_cons, List.map_nil]); first | done | rfl) ?_
 with_reducible refine (right_any _ _ _ _ _ _ _ _ _ _ _ _ _ w _ HRp.out HB1.out).mono ?_
 rintro e w22 ⟨v', rfl, h1, h2⟩
 obtain ⟨pr, rfl⟩ := h1.ptr
 have HRpr := Am h1
 have HB2 := Am (HB1.out.trans (h2.mono HB1.out.size))
 have HV2 := Am ((h2.block _ (Array.getElem?_eq_some_iff.1 HV1.out).1).trans HV1.out)
 have HG2 := Am ((h2.block _ (Array.getElem?_eq_some_iff.1 HG1.out).1).trans HG1.out)
 clear h1 h2 HB1 HV1 HG1
 have hfa := frz_of HV2.out 2
 have hfb := frz_of HV2.out 3
 refine ⟨_, rfl, ?_⟩
 refine hK.out _ _ ⟨(cell_of HV2.out 0).trans rfl, (cell_of HV2.out 1).trans rfl, (cell_of HV2.out 2).trans rfl, (cell_of HV2.out 3).trans rfl, (cell_of HV2.out 4).trans rfl, (cell_of HV2.out 5).trans rfl, (cell_of HV2.out 6).trans rfl, (cell_of HV2.out 7).trans rfl, (cell_of HV2.out 8).trans rfl, (cell_of HV2.out 9).trans rfl, (cell_of HV2.out 10).trans rfl⟩ (fun hHeld => ?_)
 clear hK K
 refine norm_ (a' := ?_) ?_ ?_
 rotate_left
 ·show Act.put _ (some 18) _ = _
  simp only [Act.put, sI, sZ, sS, i64_w, i32_w]
  rfl
 refine last_ (i := 7) (N := none) #[true, true, true, true, true, true, true, true, false, false] rfl rfl (by kernel_rfl) (by decide) (fun K hK => ?_)
 refine skip_ (w1 := ?_) (by rfl) rfl ?_ ?_
 rotate_left
 ·go_simp
  rfl
 refine hK.out _ _ ?_
 clear hK K
 refine pu 8 20 ?_
 refine last_ (i := 9) (N := none) #[true, true, true, true, true, true, true, true, true, true] rfl rfl (by kernel_rfl) (by decide) (fun K hK => ?_)
 refine skip_ (w1 := ?_) (by rfl) rfl ?_ ?_
 rotate_left
 ·go_simp
  rfl
 refine hK.out _ _ ?_
 clear hK K
 refine done_ (by kernel_rfl) ?_
 have HB := Am ((HB2.out.setCell (p := ⟨g, 2, none⟩) HGE.out (.pointer pl)).setCell (p := ⟨g, 3, none⟩) HGE.out (.pointer pr))
 have HV : Aside0 (((w22.setCell ⟨g, 2, none⟩ (.pointer pl)).setCell ⟨g, 3, none⟩ (.pointer pr)).heap[g]? = some (.cells #[.bool m, .pointer p, .pointer pl, .pointer pr, .pointer none, .pointer none, .pointer none, .pointer none, .pointer none, .pointer none, .bool rt] 111 (0, 0))) := ⟨put_blk (put_blk HV2.out 2 _) 3 _⟩
 have HG : Aside0 (((w22.setCell ⟨g, 2, none⟩ (.pointer pl)).setCell ⟨g, 3, none⟩ (.pointer pr)).heap[g6]? = some (.cells #[.bool false, .pointer none, .pointer none, .pointer none, .pointer none, .pointer none, .pointer none, .pointer none, .pointer none, .pointer none, .bool false] 111)) := ⟨(put_blk_ne HNE.out _ _).trans ((put_blk_ne HNE.out _ _).trans HG2.out)⟩
 clear HB2 HV2 HG2 hfa hfb
 try clear hHeld
 generalize ((w22.setCell ⟨g, 2, none⟩ (.pointer pl)).setCell ⟨g, 3, none⟩ (.pointer pr)) = w2 at HB HV HG ⊢
 have hv20 : w2.cell? ⟨g, 0, none⟩ = some (.bool m) := (cell_of HV.out 0).trans rfl
 have hv21 : w2.cell? ⟨g, 1, none⟩ = some (.pointer p) := (cell_of HV.out 1).trans rfl
 have hv22 : w2.cell? ⟨g, 2, none⟩ = some (.pointer pl) := (cell_of HV.out 2).trans rfl
 have hv23 : w2.cell? ⟨g, 3, none⟩ = some (.pointer pr) := (cell_of HV.out 3).trans rfl
 have hv24 : w2.cell? ⟨g, 4, none⟩ = some (.pointer none) := (cell_of HV.out 4).trans rfl
 have hv25 : w2.cell? ⟨g, 5, none⟩ = some (.pointer none) := (cell_of HV.out 5).trans rfl
 have hv26 : w2.cell? ⟨g, 6, none⟩ = some (.pointer none) := (cell_of HV.out 6).trans rfl
 have hv27 : w2.cell? ⟨g, 7, none⟩ = some (.pointer none) := (cell_of HV.out 7).trans rfl
 have hv28 : w2.cell? ⟨g, 8, none⟩ = some (.pointer none) := (cell_of HV.out 8).trans rfl
 have hv29 : w2.cell? ⟨g, 9, none⟩ = some (.pointer none) := (cell_of HV.out 9).trans rfl
 have hv210 : w2.cell? ⟨g, 10, none⟩ = some (.bool rt) := (cell_of HV.out 10).trans rfl
 go_wp2
 try clear hv20
 try clear hv21
 try clear hv22
 try clear hv23
 try clear hv24
 try clear hv25
 try clear hv26
 try clear hv27
 try clear hv28
 try clear hv29
 try clear hv210
 have HB0 := Am (bd HB.out)
 have HV0 : Aside0 (w2.drew.heap[g]? = some (.cells #[.bool m, .pointer p, .pointer pl, .pointer pr, .pointer none, .pointer none, .pointer none, .pointer none, .pointer none, .pointer none, .bool rt] 111 (0, 0))) := ⟨HV.out⟩
 have HG0 : Aside0 (w2.drew.heap[g6]? = some (.cells #[.bool false, .pointer none, .pointer none, .pointer none, .pointer none, .pointer none, .pointer none, .pointer none, .pointer none, .pointer none, .bool false] 111)) := ⟨HG.out⟩
 clear HB HV HG
 refine start_ (n := 12) (S := fun w' => w'.cell? ⟨g, 0, none⟩ = some (.bool m) ∧ w'.cell? ⟨g, 1, none⟩ = some (.pointer p) ∧ w'.cell? ⟨g, 2, none⟩ = some (.pointer pl) ∧ w'.cell? ⟨g, 3, none⟩ = some (.pointer pr) ∧ w'.cell? ⟨g, 4, none⟩ = some (.pointer none) ∧ w'.cell? ⟨g, 5, none⟩ = some (.pointer none) ∧ w'.cell? ⟨g, 6, none⟩ = some (.pointer none) ∧ w'.cell? ⟨g, 7, none⟩ = some (.pointer none) ∧ w'.cell? ⟨g, 8, none⟩ = some (.pointer none) ∧ w'.cell? ⟨g, 9, none⟩ = some (.pointer none) ∧ w'.cell? ⟨g, 10, none⟩ = some (.bool rt)) (ds := [9, 11]) #[false, false, false, false, false, false, false, false, false, false, false, false] (by kernel_rfl) rfl rfl ⟨(cell_of HV0.out 0).trans rfl, (cell_of HV0.out 1).trans rfl, (cell_of HV0.out 2).trans rfl, (cell_of HV0.out 3).trans rfl, (cell_of HV0.out 4).trans rfl, (cell_of HV0.out 5).trans rfl, (cell_of HV0.out 6).trans rfl, (cell_of HV0.out 7).trans rfl, (cell_of HV0.out 8).trans rfl, (cell_of HV0.out 9).trans rfl, (cell_of HV0.out 10).trans rfl⟩ (fun hHeld => ?_)
 refine pu 1 22 ?_
 refine pu 5 26 ?_
 refine ta 0 21 hHeld ?_
 refine ta 2 23 hHeld ?_
 refine ta 4 25 hHeld ?_
 refine ta 6 27 hHeld ?_
 refine one_ (i := 3) (N := some 24) #[true, true, true, true, true, true, true, false, false, false, false, false] rfl rfl (by kernel_rfl) (by decide) (fun K hK => ?_)
 refine goes_ Try.func85 (by kernel_rfl) rfl #[.agg #[.bool m, .pointer p, .pointer pl, .pointer pr, .pointer none, .pointer none, .pointer none, .pointer none, .pointer none, .pointer none, .bool rt], .pointer pl] (by rfl) rfl rfl (by (try simp only [List.map_toArray, List.map_cons, List.map_nil]); first | done | rfl) ?_
 with_reducible refine (left_any _ _ _ _ _ _ _ _ _ _ _ _ _ w _ HRpl.out HB0.out).mono ?_
 rintro e w31 ⟨v', rfl, h1, h2⟩
 obtain ⟨pll, rfl⟩ := h1.ptr
 have HRpll := Am h1
 have HB1 := Am (HB0.out.trans (h2.mono HB0.out.size))
 have HV1 := Am ((h2.block _ (Array.getElem?_eq_some_iff.1 HV0.out).1).trans HV0.out)
 have HG1 := Am ((h2.block _ (Array.getElem?_eq_some_iff.1 HG0.out).1).trans HG0.out)
 clear h1 h2 HB0 HV0 HG0
 refine ⟨_, rfl, ?_⟩
 refine hK.out _ _ ⟨(cell_of HV1.out 0).trans rfl, (cell_of HV1.out 1).trans rfl, (cell_of HV1.out 2).trans rfl, (cell_of HV1.out 3).trans rfl, (cell_of HV1.out 4).trans rfl, (cell_of HV1.out 5).trans rfl, (cell_of HV1.out 6).trans rfl, (cell_of HV1.out 7).trans rfl, (cell_of HV1.out 8).trans rfl, (cell_of HV1.out 9).trans rfl, (cell_of HV1.out 10).trans rfl⟩ (fun hHeld => ?_)
 clear hK K
 refine norm_ (a' := ?_) ?_ ?_
 rotate_left
 ·show Act.put _ (some 24) _ = _
  simp only [Act.put, sI, sZ, sS, i64_w, i32_w]
  rfl
 refine pu 8 29 ?_
 refine one_ (i := 7) (N := some 28) #[true, true, true, true, true, true, true, true, true, false, false, false] rfl rfl (by kernel_rfl) (by decide) (fun K hK => ?_)
 refine goes_ Try.func86 (by kernel_rfl) rfl #[.agg #[.bool m, .pointer p, .pointer pl, .pointer pr, .pointer none, .pointer none, .pointer none, .pointer none, .pointer none, .pointer none, .bool rt], .pointer pl] (by rfl) rfl rfl (by (try simp only [List.map_toArray, List.map_cons, List.map_nil]); first | done | rfl) ?_
 with_reducible refine (right_any _ _ _ _ _ _ _ _ _ _ _ _ _ w _ HRpl.out HB1.out).mono ?_
 rintro e w32 ⟨v', rfl, h1, h2⟩
 obtain ⟨plr, rfl⟩ := h1.ptr
 have HRplr := Am h1
 have HB2 := Am (HB1.out.trans (h2.mono HB1.out.size))
 have HV2 := Am ((h2.block _ (Array.getElem?_eq_some_iff.1 HV1.out).1).trans HV1.out)
 have HG2 := Am ((h2.block _ (Array.getElem?_eq_some_iff.1 HG1.out).1).trans HG1.out)
 clear h1 h2 HB1 HV1 HG1
 have hfa := frz_of HV2.out 4
 have hfb := frz_of HV2.out 5
 refine ⟨_, rfl, ?_⟩
 refine hK.out _ _ ⟨(cell_of HV2.out 0).trans rfl, (cell_of HV2.out 1).trans rfl, (cell_of HV2.out 2).trans rfl, (cell_of HV2.out 3).trans rfl, (cell_of HV2.out 4).trans rfl, (cell_of HV2.out 5).trans rfl, (cell_of HV2.out 6).trans rfl, (cell_of HV2.out 7).trans rfl, (cell_of HV2.out 8).trans rfl, (cell_of HV2.out 9).trans rfl, (cell_of HV2.out 10).trans rfl⟩ (fun hHeld => ?_)
 clear hK K
 refine norm_ (a' := ?_) ?_ ?_
 rotate_left
 ·show Act.put _ (some 28) _ = _
  simp only [Act.put, sI, sZ, sS, i64_w, i32_w]
  rfl
 refine last_ (i := 9) (N := none) #[true, true, true, true, true, true, true, true, true, true, false, false] rfl rfl (by kernel_rfl) (by decide) (fun K hK => ?_)
 refine skip_ (w1 := ?_) (by rfl) rfl ?_ ?_
 rotate_left
 ·go_simp
  rfl
 refine hK.out _ _ ?_
 clear hK K
 refine pu 10 30 ?_
 refine last_ (i := 11) (N := none) #[true, true, true, true, true, true, true, true, true, true, true, true] rfl rfl (by kernel_rfl) (by decide) (fun K hK => ?_)
 refine skip_ (w1 := ?_) (by rfl) rfl ?_ ?_
 rotate_left
 ·go_simp
  rfl
 refine hK.out _ _ ?_
 clear hK K
 refine done_ (by kernel_rfl) ?_
 have HB := Am ((HB2.out.setCell (p := ⟨g, 4, none⟩) HGE.out (.pointer pll)).setCell (p := ⟨g, 5, none⟩) HGE.out (.pointer plr))
 have HV : Aside0 (((w32.setCell ⟨g, 4, none⟩ (.pointer pll)).setCell ⟨g, 5, none⟩ (.pointer plr)).heap[g]? = some (.cells #[.bool m, .pointer p, .pointer pl, .pointer pr, .pointer pll, .pointer plr, .pointer none, .pointer none, .pointer none, .pointer none, .bool rt] 111 (0, 0))) := ⟨put_blk (put_blk HV2.out 4 _) 5 _⟩
 have HG : Aside0 (((w32.setCell ⟨g, 4, none⟩ (.pointer pll)).setCell ⟨g, 5, none⟩ (.pointer plr)).heap[g6]? = some (.cells #[.bool false, .pointer none, .pointer none, .pointer none, .pointer none, .pointer none, .pointer none, .pointer none, .pointer none, .pointer none, .bool false] 111)) := ⟨(put_blk_ne HNE.out _ _).trans ((put_blk_ne HNE.out _ _).trans HG2.out)⟩
 clear HB2 HV2 HG2 hfa hfb
 try clear hHeld
 generalize ((w32.setCell ⟨g, 4, none⟩ (.pointer pll)).setCell ⟨g, 5, none⟩ (.pointer plr)) = w3 at HB HV HG ⊢
 have hv30 : w3.cell? ⟨g, 0, none⟩ = some (.bool m) := (cell_of HV.out 0).trans rfl
 have hv31 : w3.cell? ⟨g, 1, none⟩ = some (.pointer p) := (cell_of HV.out 1).trans rfl
 have hv32 : w3.cell? ⟨g, 2, none⟩ = some (.pointer pl) := (cell_of HV.out 2).trans rfl
 have hv33 : w3.cell? ⟨g, 3, none⟩ = some (.pointer pr) := (cell_of HV.out 3).trans rfl
 have hv34 : w3.cell? ⟨g, 4, none⟩ = some (.pointer pll) := (cell_of HV.out 4).trans rfl
 have hv35 : w3.cell? ⟨g, 5, none⟩ = some (.pointer plr) := (cell_of HV.out 5).trans rfl
 have hv36 : w3.cell? ⟨g, 6, none⟩ = some (.pointer none) := (cell_of HV.out 6).trans rfl
 have hv37 : w3.cell? ⟨g, 7, none⟩ = some (.pointer none) := (cell_of HV.out 7).trans rfl
 have hv38 : w3.cell? ⟨g, 8, none⟩ = some (.pointer none) := (cell_of HV.out 8).trans rfl
 have hv39 : w3.cell? ⟨g, 9, none⟩ = some (.pointer none) := (cell_of HV.out 9).trans rfl
 have hv310 : w3.cell? ⟨g, 10, none⟩ = some (.bool rt) := (cell_of HV.out 10).trans rfl
 go_wp2
 try clear hv30
 try clear hv31
 try clear hv32
 try clear hv33
 try clear hv34
 try clear hv35
 try clear hv36
 try clear hv37
 try clear hv38
 try clear hv39
 try clear hv310
 have HB0 := Am (bd HB.out)
 have HV0 : Aside0 (w3.drew.heap[g]? = some (.cells #[.bool m, .pointer p, .pointer pl, .pointer pr, .pointer pll, .pointer plr, .pointer none, .pointer none, .pointer none, .pointer none, .bool rt] 111 (0, 0))) := ⟨HV.out⟩
 have HG0 : Aside0 (w3.drew.heap[g6]? = some (.cells #[.bool false, .pointer none, .pointer none, .pointer none, .pointer none, .pointer none, .pointer none, .pointer none, .pointer none, .pointer none, .bool false] 111)) := ⟨HG.out⟩
 clear HB HV HG
 refine start_ (n := 12) (S := fun w' => w'.cell? ⟨g, 0, none⟩ = some (.bool m) ∧ w'.cell? ⟨g, 1, none⟩ = some (.pointer p) ∧ w'.cell? ⟨g, 2, none⟩ = some (.pointer pl) ∧ w'.cell? ⟨g, 3, none⟩ = some (.pointer pr) ∧ w'.cell? ⟨g, 4, none⟩ = some (.pointer pll) ∧ w'.cell? ⟨g, 5, none⟩ = some (.pointer plr) ∧ w'.cell? ⟨g, 6, none⟩ = some (.pointer none) ∧ w'.cell? ⟨g, 7, none⟩ = some (.pointer none) ∧ w'.cell? ⟨g, 8, none⟩ = some (.pointer none) ∧ w'.cell? ⟨g, 9, none⟩ = some (.pointer none) ∧ w'.cell? ⟨g, 10, none⟩ = some (.bool rt)) (ds := [9, 11]) #[false, false, false, false, false, false, false, false, false, false, false, false] (by kernel_rfl) rfl rfl ⟨(cell_of HV0.out 0).trans rfl, (cell_of HV0.out 1).trans rfl, (cell_of HV0.out 2).trans rfl, (cell_of HV0.out 3).trans rfl, (cell_of HV0.out 4).trans rfl, (cell_of HV0.out 5).trans rfl, (cell_of HV0.out 6).trans rfl, (cell_of HV0.out 7).trans rfl, (cell_of HV0.out 8).trans rfl, (cell_of HV0.out 9).trans rfl, (cell_of HV0.out 10).trans rfl⟩ (fun hHeld => ?_)
 refine pu 1 32 ?_
 refine pu 5 36 ?_
 refine ta 0 31 hHeld ?_
 refine ta 2 33 hHeld ?_
 refine ta 4 35 hHeld ?_
 refine ta 6 37 hHeld ?_
 refine one_ (i := 3) (N := some 34) #[true, true, true, true, true, true, true, false, false, false, false, false] rfl rfl (by kernel_rfl) (by decide) (fun K hK => ?_)
 refine goes_ Try.func85 (by kernel_rfl) rfl #[.agg #[.bool m, .pointer p, .pointer pl, .pointer pr, .pointer pll, .pointer plr, .pointer none, .pointer none, .pointer none, .pointer none, .bool rt], .pointer pr] (by rfl) rfl rfl (by (try simp only [List.map_toArray, List.map_cons, List.map_nil]); first | done | rfl) ?_
 with_reducible refine (left_any _ _ _ _ _ _ _ _ _ _ _ _ _ w _ HRpr.out HB0.out).mono ?_
 rintro e w41 ⟨v', rfl, h1, h2⟩
 obtain ⟨prl, rfl⟩ := h1.ptr
 have HRprl := Am h1
 have HB1 := Am (HB0.out.trans (h2.mono HB0.out.size))
 have HV1 := Am ((h2.block _ (Array.getElem?_eq_some_iff.1 HV0.out).1).trans HV0.out)
 have HG1 := Am ((h2.block _ (Array.getElem?_eq_some_iff.1 HG0.out).1).trans HG0.out)
 clear h1 h2 HB0 HV0 HG0
 refine ⟨_, rfl, ?_⟩
 refine hK.out _ _ ⟨(cell_of HV1.out 0).trans rfl, (cell_of HV1.out 1).trans rfl, (cell_of HV1.out 2).trans rfl, (cell_of HV1.out 3).trans rfl, (cell_of HV1.out 4).trans rfl, (cell_of HV1.out 5).trans rfl, (cell_of HV1.out 6).trans rfl, (cell_of HV1.out 7).trans rfl, (cell_of HV1.out 8).trans rfl, (cell_of HV1.out 9).trans rfl, (cell_of HV1.out 10).trans rfl⟩ (fun hHeld => ?_)
 clear hK K
 refine norm_ (a' := ?_) ?_ ?_
 rotate_left
 ·show Act.put _ (some 34) _ = _
  simp only [Act.put, sI, sZ, sS, i64_w, i32_w]
  rfl
 refine pu 8 39 ?_
 refine one_ (i := 7) (N := some 38) #[true, true, true, true, true, true, true, true, true, false, false, false] rfl rfl (by kernel_rfl) (by decide) (fun K hK => ?_)
 refine goes_ Try.func86 (by kernel_rfl) rfl #[.agg #[.bool m, .pointer p, .pointer pl, .pointer pr, .pointer pll, .pointer plr, .pointer none, .pointer none, .pointer none, .pointer none, .bool rt], .pointer pr] (by rfl) rfl rfl (by (try simp only [List.map_toArray, List.map_cons, List.map_nil]); first | done | rfl) ?_
 with_reducible refine (right_any _ _ _ _ _ _ _ _ _ _ _ _ _ w _ HRpr.out HB1.out).mono ?_
 rintro e w42 ⟨v', rfl, h1, h2⟩
 obtain ⟨prr, rfl⟩ := h1.ptr
 have HRprr := Am h1
 have HB2 := Am (HB1.out.trans (h2.mono HB1.out.size))
 have HV2 := Am ((h2.block _ (Array.getElem?_eq_some_iff.1 HV1.out).1).trans HV1.out)
 have HG2 := Am ((h2.block _ (Array.getElem?_eq_some_iff.1 HG1.out).1).trans HG1.out)
 clear h1 h2 HB1 HV1 HG1
 have hfa := frz_of HV2.out 6
 have hfb := frz_of HV2.out 7
 refine ⟨_, rfl, ?_⟩
 refine hK.out _ _ ⟨(cell_of HV2.out 0).trans rfl, (cell_of HV2.out 1).trans rfl, (cell_of HV2.out 2).trans rfl, (cell_of HV2.out 3).trans rfl, (cell_of HV2.out 4).trans rfl, (cell_of HV2.out 5).trans rfl, (cell_of HV2.out 6).trans rfl, (cell_of HV2.out 7).trans rfl, (cell_of HV2.out 8).trans rfl, (cell_of HV2.out 9).trans rfl, (cell_of HV2.out 10).trans rfl⟩ (fun hHeld => ?_)
 clear hK K
 refine norm_ (a' := ?_) ?_ ?_
 rotate_left
 ·show Act.put _ (some 38) _ = _
  simp only [Act.put, sI, sZ, sS, i64_w, i32_w]
  rfl
 refine last_ (i := 9) (N := none) #[true, true, true, true, true, true, true, true, true, true, false, false] rfl rfl (by kernel_rfl) (by decide) (fun K hK => ?_)
 refine skip_ (w1 := ?_) (by rfl) rfl ?_ ?_
 rotate_left
 ·go_simp
  rfl
 refine hK.out _ _ ?_
 clear hK K
 refine pu 10 40 ?_
 refine last_ (i := 11) (N := none) #[true, true, true, true, true, true, true, true, true, true, true, true] rfl rfl (by kernel_rfl) (by decide) (fun K hK => ?_)
 refine skip_ (w1 := ?_) (by rfl) rfl ?_ ?_
 rotate_left
 ·go_simp
  rfl
 refine hK.out _ _ ?_
 clear hK K
 refine done_ (by kernel_rfl) ?_
 have HB := Am ((HB2.out.setCell (p := ⟨g, 6, none⟩) HGE.out (.pointer prl)).setCell (p := ⟨g, 7, none⟩) HGE.out (.pointer prr))
 have HV : Aside0 (((w42.setCell ⟨g, 6, none⟩ (.pointer prl)).setCell ⟨g, 7, none⟩ (.pointer prr)).heap[g]? = some (.cells #[.bool m, .pointer p, .pointer pl, .pointer pr, .pointer pll, .pointer plr, .pointer prl, .pointer prr, .pointer none, .pointer none, .bool rt] 111 (0, 0))) := ⟨put_blk (put_blk HV2.out 6 _) 7 _⟩
 have HG : Aside0 (((w42.setCell ⟨g, 6, none⟩ (.pointer prl)).setCell ⟨g, 7, none⟩ (.pointer prr)).heap[g6]? = some (.cells #[.bool false, .pointer none, .pointer none, .pointer none, .pointer none, .pointer none, .pointer none, .pointer none, .pointer none, .pointer none, .bool false] 111)) := ⟨(put_blk_ne HNE.out _ _).trans ((put_blk_ne HNE.out _ _).trans HG2.out)⟩
 clear HB2 HV2 HG2 hfa hfb
 try clear hHeld
 generalize ((w42.setCell ⟨g, 6, none⟩ (.pointer prl)).setCell ⟨g, 7, none⟩ (.pointer prr)) = w4 at HB HV HG ⊢
 have hv40 : w4.cell? ⟨g, 0, none⟩ = some (.bool m) := (cell_of HV.out 0).trans rfl
 have hv41 : w4.cell? ⟨g, 1, none⟩ = some (.pointer p) := (cell_of HV.out 1).trans rfl
 have hv42 : w4.cell? ⟨g, 2, none⟩ = some (.pointer pl) := (cell_of HV.out 2).trans rfl
 have hv43 : w4.cell? ⟨g, 3, none⟩ = some (.pointer pr) := (cell_of HV.out 3).trans rfl
 have hv44 : w4.cell? ⟨g, 4, none⟩ = some (.pointer pll) := (cell_of HV.out 4).trans rfl
 have hv45 : w4.cell? ⟨g, 5, none⟩ = some (.pointer plr) := (cell_of HV.out 5).trans rfl
 have hv46 : w4.cell? ⟨g, 6, none⟩ = some (.pointer prl) := (cell_of HV.out 6).trans rfl
 have hv47 : w4.cell? ⟨g, 7, none⟩ = some (.pointer prr) := (cell_of HV.out 7).trans rfl
 have hv48 : w4.cell? ⟨g, 8, none⟩ = some (.pointer none) := (cell_of HV.out 8).trans rfl
 have hv49 : w4.cell? ⟨g, 9, none⟩ = some (.pointer none) := (cell_of HV.out 9).trans rfl
 have hv410 : w4.cell? ⟨g, 10, none⟩ = some (.bool rt) := (cell_of HV.out 10).trans rfl
 go_wp2
 try clear hv40
 try clear hv41
 try clear hv42
 try clear hv43
 try clear hv44
 try clear hv45
 try clear hv46
 try clear hv47
 try clear hv48
 try clear hv49
 try clear hv410
 have HB0 := Am (bd HB.out)
 have HV0 : Aside0 (w4.drew.heap[g]? = some (.cells #[.bool m, .pointer p, .pointer pl, .pointer pr, .pointer pll, .pointer plr, .pointer prl, .pointer prr, .pointer none, .pointer none, .bool rt] 111 (0, 0))) := ⟨HV.out⟩
 have HG0 : Aside0 (w4.drew.heap[g6]? = some (.cells #[.bool false, .pointer none, .pointer none, .pointer none, .pointer none, .pointer none, .pointer none, .pointer none, .pointer none, .pointer none, .bool false] 111)) := ⟨HG.out⟩
 clear HB HV HG
 refine start_ (n := 12) (S := fun w' => w'.cell? ⟨g, 0, none⟩ = some (.bool m) ∧ w'.cell? ⟨g, 1, none⟩ = some (.pointer p) ∧ w'.cell? ⟨g, 2, none⟩ = some (.pointer pl) ∧ w'.cell? ⟨g, 3, none⟩ = some (.pointer pr) ∧ w'.cell? ⟨g, 4, none⟩ = some (.pointer pll) ∧ w'.cell? ⟨g, 5, none⟩ = some (.pointer plr) ∧ w'.cell? ⟨g, 6, none⟩ = some (.pointer prl) ∧ w'.cell? ⟨g, 7, none⟩ = some (.pointer prr) ∧ w'.cell? ⟨g, 8, none⟩ = some (.pointer none) ∧ w'.cell? ⟨g, 9, none⟩ = some (.pointer none) ∧ w'.cell? ⟨g, 10, none⟩ = some (.bool rt)) (ds := [9, 11]) #[false, false, false, false, false, false, false, false, false, false, false, false] (by kernel_rfl) rfl rfl ⟨(cell_of HV0.out 0).trans rfl, (cell_of HV0.out 1).trans rfl, (cell_of HV0.out 2).trans rfl, (cell_of HV0.out 3).trans rfl, (cell_of HV0.out 4).trans rfl, (cell_of HV0.out 5).trans rfl, (cell_of HV0.out 6).trans rfl, (cell_of HV0.out 7).trans rfl, (cell_of HV0.out 8).trans rfl, (cell_of HV0.out 9).trans rfl, (cell_of HV0.out 10).trans rfl⟩ (fun hHeld => ?_)
 refine pu 1 42 ?_
 refine pu 5 46 ?_
 refine ta 0 41 hHeld ?_
 refine ta 2 43 hHeld ?_
 refine ta 4 45 hHeld ?_
 refine ta 6 47 hHeld ?_
 refine one_ (i := 3) (N := some 44) #[true, true, true, true, true, true, true, false, false, false, false, false] rfl rfl (by kernel_rfl) (by decide) (fun K hK => ?_)
 refine goes_ Try.func85 (by kernel_rfl) rfl #[.agg #[.bool m, .pointer p, .pointer pl, .pointer pr, .pointer pll, .pointer plr, .pointer prl, .pointer prr, .pointer none, .pointer none, .bool rt], .pointer prl] (by rfl) rfl rfl (by (try simp only [List.map_toArray, List.map_cons, List.map_nil]); first | done | rfl) ?_
 with_reducible refine (left_any _ _ _ _ _ _ _ _ _ _ _ _ _ w _ HRprl.out HB0.out).mono ?_
 rintro e w51 ⟨v', rfl, h1, h2⟩
 obtain ⟨pa, rfl⟩ := h1.ptr
 have HRpa := Am h1
 have HB1 := Am (HB0.out.trans (h2.mono HB0.out.size))
 have HV1 := Am ((h2.block _ (Array.getElem?_eq_some_iff.1 HV0.out).1).trans HV0.out)
 have HG1 := Am ((h2.block _ (Array.getElem?_eq_some_iff.1 HG0.out).1).trans HG0.out)
 clear h1 h2 HB0 HV0 HG0
 refine ⟨_, rfl, ?_⟩
 refine hK.out _ _ ⟨(cell_of HV1.out 0).trans rfl, (cell_of HV1.out 1).trans rfl, (cell_of HV1.out 2).trans rfl, (cell_of HV1.out 3).trans rfl, (cell_of HV1.out 4).trans rfl, (cell_of HV1.out 5).trans rfl, (cell_of HV1.out 6).trans rfl, (cell_of HV1.out 7).trans rfl, (cell_of HV1.out 8).trans rfl, (cell_of HV1.out 9).trans rfl, (cell_of HV1.out 10).trans rfl⟩ (fun hHeld => ?_)
 clear hK K
 refine norm_ (a' := ?_) ?_ ?_
 rotate_left
 ·show Act.put _ (some 44) _ = _
  simp only [Act.put, sI, sZ, sS, i64_w, i32_w]
  rfl
 refine pu 8 49 ?_
 refine one_ (i := 7) (N := some 48) #[true, true, true, true, true, true, true, true, true, false, false, false] rfl rfl (by kernel_rfl) (by decide) (fun K hK => ?_)
 refine goes_ Try.func86 (by kernel_rfl) rfl #[.agg #[.bool m, .pointer p, .pointer pl, .pointer pr, .pointer pll, .pointer plr, .pointer prl, .pointer prr, .pointer none, .pointer none, .bool rt], .pointer prl] (by rfl) rfl rfl (by (try simp only [List.map_toArray, List.map_cons, List.map_nil]); first | done | rfl) ?_
 with_reducible refine (right_any _ _ _ _ _ _ _ _ _ _ _ _ _ w _ HRprl.out HB1.out).mono ?_
 rintro e w52 ⟨v', rfl, h1, h2⟩
 obtain ⟨pb, rfl⟩ := h1.ptr
 have HRpb := Am h1
 have HB2 := Am (HB1.out.trans (h2.mono HB1.out.size))
 have HV2 := Am ((h2.block _ (Array.getElem?_eq_some_iff.1 HV1.out).1).trans HV1.out)
 have HG2 := Am ((h2.block _ (Array.getElem?_eq_some_iff.1 HG1.out).1).trans HG1.out)
 clear h1 h2 HB1 HV1 HG1
 have hfa := frz_of HV2.out 8
 have hfb := frz_of HV2.out 9
 refine ⟨_, rfl, ?_⟩
 refine hK.out _ _ ⟨(cell_of HV2.out 0).trans rfl, (cell_of HV2.out 1).trans rfl, (cell_of HV2.out 2).trans rfl, (cell_of HV2.out 3).trans rfl, (cell_of HV2.out 4).trans rfl, (cell_of HV2.out 5).trans rfl, (cell_of HV2.out 6).trans rfl, (cell_of HV2.out 7).trans rfl, (cell_of HV2.out 8).trans rfl, (cell_of HV2.out 9).trans rfl, (cell_of HV2.out 10).trans rfl⟩ (fun hHeld => ?_)
 clear hK K
 refine norm_ (a' := ?_) ?_ ?_
 rotate_left
 ·show Act.put _ (some 48) _ = _
  simp only [Act.put, sI, sZ, sS, i64_w, i32_w]
  rfl
 refine last_ (i := 9) (N := none) #[true, true, true, true, true, true, true, true, true, true, false, false] rfl rfl (by kernel_rfl) (by decide) (fun K hK => ?_)
 refine skip_ (w1 := ?_) (by rfl) rfl ?_ ?_
 rotate_left
 ·go_simp
  rfl
 refine hK.out _ _ ?_
 clear hK K
 refine pu 10 50 ?_
 refine last_ (i := 11) (N := none) #[true, true, true, true, true, true, true, true, true, true, true, true] rfl rfl (by kernel_rfl) (by decide) (fun K hK => ?_)
 refine skip_ (w1 := ?_) (by rfl) rfl ?_ ?_
 rotate_left
 ·go_simp
  rfl
 refine hK.out _ _ ?_
 clear hK K
 refine done_ (by kernel_rfl) ?_
 have HB := Am ((HB2.out.setCell (p := ⟨g, 8, none⟩) HGE.out (.pointer pa)).setCell (p := ⟨g, 9, none⟩) HGE.out (.pointer pb))
 have HV : Aside0 (((w52.setCell ⟨g, 8, none⟩ (.pointer pa)).setCell ⟨g, 9, none⟩ (.pointer pb)).heap[g]? = some (.cells #[.bool m, .pointer p, .pointer pl, .pointer pr, .pointer pll, .pointer plr, .pointer prl, .pointer prr, .pointer pa, .pointer pb, .bool rt] 111 (0, 0))) := ⟨put_blk (put_blk HV2.out 8 _) 9 _⟩
 have HG : Aside0 (((w52.setCell ⟨g, 8, none⟩ (.pointer pa)).setCell ⟨g, 9, none⟩ (.pointer pb)).heap[g6]? = some (.cells #[.bool false, .pointer none, .pointer none, .pointer none, .pointer none, .pointer none, .pointer none, .pointer none, .pointer none, .pointer none, .bool false] 111)) := ⟨(put_blk_ne HNE.out _ _).trans ((put_blk_ne HNE.out _ _).trans HG2.out)⟩
 clear HB2 HV2 HG2 hfa hfb
 try clear hHeld
 generalize ((w52.setCell ⟨g, 8, none⟩ (.pointer pa)).setCell ⟨g, 9, none⟩ (.pointer pb)) = w5 at HB HV HG ⊢
 have hv50 : w5.cell? ⟨g, 0, none⟩ = some (.bool m) := (cell_of HV.out 0).trans rfl
 have hv51 : w5.cell? ⟨g, 1, none⟩ = some (.pointer p) := (cell_of HV.out 1).trans rfl
 have hv52 : w5.cell? ⟨g, 2, none⟩ = some (.pointer pl) := (cell_of HV.out 2).trans rfl
 have hv53 : w5.cell? ⟨g, 3, none⟩ = some (.pointer pr) := (cell_of HV.out 3).trans rfl
 have hv54 : w5.cell? ⟨g, 4, none⟩ = some (.pointer pll) := (cell_of HV.out 4).trans rfl
 have hv55 : w5.cell? ⟨g, 5, none⟩ = some (.pointer plr) := (cell_of HV.out 5).trans rfl
 have hv56 : w5.cell? ⟨g, 6, none⟩ = some (.pointer prl) := (cell_of HV.out 6).trans rfl
 have hv57 : w5.cell? ⟨g, 7, none⟩ = some (.pointer prr) := (cell_of HV.out 7).trans rfl
 have hv58 : w5.cell? ⟨g, 8, none⟩ = some (.pointer pa) := (cell_of HV.out 8).trans rfl
 have hv59 : w5.cell? ⟨g, 9, none⟩ = some (.pointer pb) := (cell_of HV.out 9).trans rfl
 have hv510 : w5.cell? ⟨g, 10, none⟩ = some (.bool rt) := (cell_of HV.out 10).trans rfl
 have hz0 : w5.cell? ⟨g6, 0, none⟩ = some (.bool false) := (cell_of HG.out 0).trans rfl
 have hf0 := frz_of HG.out 0
 have hz1 : w5.cell? ⟨g6, 1, none⟩ = some (.pointer none) := (cell_of HG.out 1).trans rfl
 have hf1 := frz_of HG.out 1
 have hz2 : w5.cell? ⟨g6, 2, none⟩ = some (.pointer none) := (cell_of HG.out 2).trans rfl
 have hf2 := frz_of HG.out 2
 have hz3 : w5.cell? ⟨g6, 3, none⟩ = some (.pointer none) := (cell_of HG.out 3).trans rfl
 have hf3 := frz_of HG.out 3
 have hz4 : w5.cell? ⟨g6, 4, none⟩ = some (.pointer none) := (cell_of HG.out 4).trans rfl
 have hf4 := frz_of HG.out 4
 have hz5 : w5.cell? ⟨g6, 5, none⟩ = some (.pointer none) := (cell_of HG.out 5).trans rfl
 have hf5 := frz_of HG.out 5
 have hz6 : w5.cell? ⟨g6, 6, none⟩ = some (.pointer none) := (cell_of HG.out 6).trans rfl
 have hf6 := frz_of HG.out 6
 have hz7 : w5.cell? ⟨g6, 7, none⟩ = some (.pointer none) := (cell_of HG.out 7).trans rfl
 have hf7 := frz_of HG.out 7
 have hz8 : w5.cell? ⟨g6, 8, none⟩ = some (.pointer none) := (cell_of HG.out 8).trans rfl
 have hf8 := frz_of HG.out 8
 have hz9 : w5.cell? ⟨g6, 9, none⟩ = some (.pointer none) := (cell_of HG.out 9).trans rfl
 have hf9 := frz_of HG.out 9
 have hz10 : w5.cell? ⟨g6, 10, none⟩ = some (.bool false) := (cell_of HG.out 10).trans rfl
 have hf10 := frz_of HG.out 10
 have hfin := look_fin HB.out HG6.out HRpl.out HRpr.out HRpll.out HRplr.out HRprl.out HRprr.out HRpa.out HRpb.out (m := m) (p := p) (rt := rt)
 have HF := Am hfin
 clear hfin
 go_wp2
 have hG := put11 HG.out (.bool m) (.pointer p) (.pointer pl) (.pointer pr) (.pointer pll) (.pointer plr) (.pointer prl) (.pointer prr) (.pointer pa) (.pointer pb) (.bool rt)
 have hBF := below11 HB.out HG6.out (.bool m) (.pointer p) (.pointer pl) (.pointer pr) (.pointer pll) (.pointer plr) (.pointer prl) (.pointer prr) (.pointer pa) (.pointer pb) (.bool rt)
 clear HG HB HV
 generalize (((((((((((w5.setCell ⟨g6, 0, none⟩ (.bool m)).setCell ⟨g6, 1, none⟩ (.pointer p)).setCell ⟨g6, 2, none⟩ (.pointer pl)).setCell ⟨g6, 3, none⟩ (.pointer pr)).setCell ⟨g6, 4, none⟩ (.pointer pll)).setCell ⟨g6, 5, none⟩ (.pointer plr)).setCell ⟨g6, 6, none⟩ (.pointer prl)).setCell ⟨g6, 7, none⟩ (.pointer prr)).setCell ⟨g6, 8, none⟩ (.pointer pa)).setCell ⟨g6, 9, none⟩ (.pointer pb)).setCell ⟨g6, 10, none⟩ (.bool rt)) = w6 at hG hBF ⊢
 have hs0 : w6.cell? ⟨g6, 0, none⟩ = some (.bool m) := (cell_of hG 0).trans rfl
 have hs1 : w6.cell? ⟨g6, 1, none⟩ = some (.pointer p) := (cell_of hG 1).trans rfl
 have hs2 : w6.cell? ⟨g6, 2, none⟩ = some (.pointer pl) := (cell_of hG 2).trans rfl
 have hs3 : w6.cell? ⟨g6, 3, none⟩ = some (.pointer pr) := (cell_of hG 3).trans rfl
 have hs4 : w6.cell? ⟨g6, 4, none⟩ = some (.pointer pll) := (cell_of hG 4).trans rfl
 have hs5 : w6.cell? ⟨g6, 5, none⟩ = some (.pointer plr) := (cell_of hG 5).trans rfl
 have hs6 : w6.cell? ⟨g6, 6, none⟩ = some (.pointer prl) := (cell_of hG 6).trans rfl
 have hs7 : w6.cell? ⟨g6, 7, none⟩ = some (.pointer prr) := (cell_of hG 7).trans rfl
 have hs8 : w6.cell? ⟨g6, 8, none⟩ = some (.pointer pa) := (cell_of hG 8).trans rfl
 have hs9 : w6.cell? ⟨g6, 9, none⟩ = some (.pointer pb) := (cell_of hG 9).trans rfl
 have hs10 : w6.cell? ⟨g6, 10, none⟩ = some (.bool rt) := (cell_of hG 10).trans rfl
 refine bodyPost_ret (v := .agg #[.bool m, .pointer p, .pointer pl, .pointer pr, .pointer pll, .pointer plr, .pointer prl, .pointer prr, .pointer pa, .pointer pb, .bool rt]) (by simp [results, Try.results63, go_sem, hs0, hs1, hs2, hs3, hs4, hs5, hs6, hs7, hs8, hs9, hs10]) rfl (HF.out _ hBF)
end Go.Proofs.Ytgleaefhflamnaa.T
namespace Go.Proofs.Ytgleaefhflamnaa.T
open Go.RowKit Go.Proofs.YtgleaefhflamnaaW.PrintWords Go.Proofs.YtgleaefhflamnaaW.PrintLast Go.Proofs.YtgleaefhflamnaaW.PrintMore
variable {S : Nat → Prop}
def ndL (n : S34) : List Value := [.int .i64 n.f0, .int .i64 n.f1, .int .i64 n.f2, .int .i64 n.f3, .int .i64 n.f4, .int .i64 n.f5]
def rowL (xs : List S34) : List Value := xs.flatMap ndL
def itL (L : List (Option Addr × Int)) : List Value := L.flatMap fun x => [.pointer x.1, .int .i64 x.2]
def sizeT : Tr → Nat
 | .nil => 0
 | .node _ _ l r => 1 + sizeT l + sizeT r
/-- Both children or none. -/
def Full : Tr → Prop
 | .nil => False
 | .node _ _ .nil .nil => True
 | .node _ _ .nil (.node ..) => False
 | .node _ _ (.node ..) .nil => False
 | .node _ _ (.node n p l r) (.node n' p' l' r') => Full (.node n p l r) ∧ Full (.node n' p' l' r')
/-- The nodes of a tree in their order, numbered from a place on. -/
def flatT : Tr → Nat → List S34
 | .nil, _ => []
 | .node n _ .nil _, _ => [n]
 | .node n _ (.node n' p' l' r') r, at_ => ⟨n.f0, n.f1, n.f2, n.f3, at_ + 1, at_ + 1 + sizeT (.node n' p' l' r')⟩ :: (flatT (.node n' p' l' r') (at_ + 1) ++ flatT r (at_ + 1 + sizeT (.node n' p' l' r')))
def setR (xs : List S34) (j : Int) (v : Int) : List S34 := if 0 ≤ j then xs.set j.toNat (let n := xs.getD j.toNat z34; ⟨n.f0, n.f1, n.f2, n.f3, n.f4, v⟩) else xs
/-- What the loop comes to: the out so far, the stack (its top first). -/
def finT (xs : List S34) : List (Tr × Int) → List S34
 | [] => xs
 | (T, j) :: rs => finT (setR xs j xs.length ++ flatT T xs.length) rs
def Items (S : Nat → Prop) (w : World) : List (Option Addr × Int) → List (Tr × Int) → Prop
 | [], [] => True
 | (p, i) :: L, (T, j) :: rs => i = j ∧ Rep S w (.pointer p) T ∧ Full T ∧ Items S w L rs
 | _, _ => False
def sizeR : List (Tr × Int) → Nat
 | [] => 0
 | (T, _) :: rs => sizeT T + sizeR rs
structure FlatInv (S : Nat → Prop) (w W : World) (R : List S34) (N : Nat) (vs vo : Value) (k : Nat) (L : List (Option Addr × Int)) (rs : List (Tr × Int)) (xs : List S34) : Prop where
 fin : finT xs rs = R
 items : Items S w L rs
 size : xs.length + sizeR rs = N
 own : W.ownsRow w.heap.size 141 2 vs L.length (itL L.reverse)
 out : W.ownsRow w.heap.size 34 6 vo xs.length (rowL xs)
 bel : Below w.heap.size w W
 meas : sizeR rs < k
 par : ∀ x, x ∈ rs → -1 ≤ x.2 ∧ x.2 < (xs.length : Int)
theorem flat_start {w : World} {p : Option Addr} {T : Tr} (h : Rep S w (.pointer p) T) (hf : Full T) :
  FlatInv S w (w.alloc (.cells #[.pointer p, .int .i64 (-1)] 141)) (flatT T 0) (sizeT T) (.slice (some ⟨w.heap.size, 0, none⟩) 1 1) (.slice none 0 0) (sizeT T + 1) [(p, -1)] [(T, -1)] [] := by
 refine ⟨?_, ⟨rfl, h, hf, trivial⟩, by simp [sizeR], ?_, ⟨rfl, .inl ⟨rfl, rfl⟩⟩, (Below.refl _ _).alloc (Nat.le_refl _) _, by simp [sizeR], ?_⟩
 ·simp [finT, setR]
 ·refine ⟨rfl, .inr ⟨w.heap.size, 1, #[.pointer p, .int .i64 (-1)], rfl, Nat.le_refl _, heap_alloc_new w _, by simp, by simp [maxLen], rfl, rfl⟩⟩
 ·intro x hx
  simp at hx
  subst hx
  simp
theorem itL_len (L : List (Option Addr × Int)) : (itL L).length = L.length * 2 := by
 induction L with
 | nil => rfl
 | cons x L ih => simp [itL] at ih ⊢; omega
theorem rowL_len (L : List S34) : (rowL L).length = L.length * 6 := by
 induction L with
 | nil => rfl
 | cons x L ih => simp [rowL, ndL] at ih ⊢; omega
theorem itL_app (A B : List (Option Addr × Int)) : itL (A ++ B) = itL A ++ itL B := by simp [itL]
theorem rowL_app (A B : List S34) : rowL (A ++ B) = rowL A ++ rowL B := by simp [rowL]
theorem flat_top {w W : World} {R : List S34} {N : Nat} {vs vo : Value} {k : Nat} {p : Option Addr} {i : Int} {L : List (Option Addr × Int)} {rs : List (Tr × Int)} {xs : List S34} (h : FlatInv S w W R N vs vo k ((p, i) :: L) rs xs) :
  ∃ gs cs, vs = .slice (some ⟨gs, 0, none⟩) (L.length + 1) cs ∧ w.heap.size ≤ gs ∧ gs < W.heap.size ∧ L.length + 1 ≤ cs ∧ W.cell? ⟨gs, L.length * 2, none⟩ = some (.pointer p) ∧ W.cell? ⟨gs, L.length * 2 + 1, none⟩ = some (.int .i64 i) := by
 have ho := h.own
 simp only [List.length_cons, List.reverse_cons, itL_app] at ho
 rcases ho.2 with ⟨_, h0⟩ | ⟨g, cap, cur, hv, hb, hg, hnc, hcm, hcs, ht⟩
 ·omega
 ·subst hv
  refine ⟨g, cap, rfl, hb, (Array.getElem?_eq_some_iff.1 hg).1, hnc, ?_, ?_⟩
  ·rw [ho.cellAt _ (by omega), List.getElem?_append_right (by rw [itL_len, List.length_reverse]; omega), itL_len, List.length_reverse]; simp [itL]
  ·rw [ho.cellAt _ (by omega), List.getElem?_append_right (by rw [itL_len, List.length_reverse]; omega), itL_len, List.length_reverse, show L.length * 2 + 1 - L.length * 2 = 1 by omega]; simp [itL]
theorem full_pos : ∀ {T : Tr}, Full T → 0 < sizeT T
 | .nil, h => h.elim
 | .node .., _ => by simp [sizeT]; omega
theorem items_len {w : World} : ∀ {L : List (Option Addr × Int)} {rs : List (Tr × Int)}, Items S w L rs → L.length ≤ sizeR rs
 | [], [], _ => Nat.zero_le _
 | (_, _) :: _, (_, _) :: _, h => by
  have h1 := full_pos h.2.2.1
  have h2 := items_len h.2.2.2
  simp [sizeR]
  omega
 | [], _ :: _, h => h.elim
 | _ :: _, [], h => h.elim
theorem info141 : (Try.prog.info? 141).map (fun i => (i.zero, i.size, i.bytes)) = some (some (.agg #[.pointer none, .int .i64 0]), 2, 16) := by kernel_rfl
def FlatPost (w : World) (T : Tr) (e : Ending) (w' : World) : Prop := ∃ v0, e = .returned v0 ∧ Kd.R k34 34 w' w.heap.size (fun _ => True) v0 (flatT T 0) ∧ Below w.heap.size w w'
theorem flat_nil {w W : World} {R : List S34} {N : Nat} {vs vo : Value} {k : Nat} {rs : List (Tr × Int)} {xs : List S34} (h : FlatInv S w W R N vs vo k [] rs xs) : ∃ A c, vs = .slice A 0 c := by
 rcases h.own.2 with ⟨rfl, _⟩ | ⟨g, cap, cur, rfl, _⟩
 ·exact ⟨_, _, rfl⟩
 ·exact ⟨_, _, rfl⟩
theorem reps_rowL : ∀ (xs : List S34) (j : Nat) (p : S34), xs[j]? = some p → ((rowL xs).drop (j * 6)).take 6 = ndL p := by
 intro xs
 induction xs with
 | nil => intro j p h; simp at h
 | cons x xs ih =>
  intro j p h
  cases j with
  | zero => simp at h; subst h; simp [rowL, ndL]
  | succ j =>
   simp at h
   have := ih j p h
   rw [show (j + 1) * 6 = 6 + j * 6 by omega, show rowL (x :: xs) = ndL x ++ rowL xs from rfl, List.drop_append]
   simp only [show (ndL x).length = 6 from rfl, show 6 + j * 6 - 6 = j * 6 by omega, List.drop_eq_nil_of_le (show (ndL x).length ≤ 6 + j * 6 by simp [ndL]), List.nil_append]
   exact this
theorem row_R {W : World} {base : Nat} {v : Value} {xs : List S34} (h : W.ownsRow base 34 6 v xs.length (rowL xs)) : Kd.R k34 34 W base (fun _ => True) v xs :=
 ⟨fun _ _ => trivial, rowL xs, h, ⟨rowL_len xs, fun j p hj => by rw [show k34.sz = 6 from rfl, reps_rowL xs j p hj]; exact k34_mkM _ _ _ p⟩⟩
theorem flat_end {w W : World} {T : Tr} {N : Nat} {vs vo : Value} {k : Nat} {rs : List (Tr × Int)} {xs : List S34} (h : FlatInv S w W (flatT T 0) N vs vo k [] rs xs) : FlatPost w T (.returned vo) W := by
 have h1 := h.items
 cases rs with
 | cons r rs => exact h1.elim
 | nil =>
  have h2 := h.fin
  simp only [finT] at h2
  subst h2
  exact ⟨vo, rfl, row_R h.out, h.bel⟩
theorem flat_node {w W : World} {R : List S34} {N : Nat} {vs vo : Value} {k : Nat} {p : Option Addr} {i j : Int} {L : List (Option Addr × Int)} {T : Tr} {rs : List (Tr × Int)} {xs : List S34} (h : FlatInv S w W R N vs vo k ((p, i) :: L) ((T, j) :: rs) xs) :
  ∃ n pl l r b vl vr, T = .node n pl l r ∧ p = some ⟨b, 0, none⟩ ∧ W.heap[b]? = some (.cells (ndCells n pl vl vr) 116 (0, 0)) ∧ b < w.heap.size ∧ Rep S w vl l ∧ Rep S w vr r := by
 obtain ⟨_, hr, hf, _⟩ := h.items
 cases T with
 | nil => exact hf.elim
 | node n pl l r =>
  obtain ⟨b, vl, vr, e, hb, hl, hr, _⟩ := hr
  have hlt := (Array.getElem?_eq_some_iff.1 hb).1
  injection e with e
  exact ⟨n, pl, l, r, b, vl, vr, rfl, e, (h.bel.block b hlt).trans hb, hlt, hl, hr⟩
theorem flat_pop {w W : World} {R : List S34} {N : Nat} {gs cs : Nat} {vo : Value} {k : Nat} {p : Option Addr} {i : Int} {L : List (Option Addr × Int)} {rs : List (Tr × Int)} {xs : List S34} (h : FlatInv S w W R N (.slice (some ⟨gs, 0, none⟩) (L.length + 1) cs) vo k ((p, i) :: L) rs xs) :
  W.ownsRow w.heap.size 141 2 (.slice (some ⟨gs, 0, none⟩) L.length cs) L.length (itL L.reverse) := by
 have h1 := h.own
 simp only [List.length_cons] at h1
 have h2 := own_take (m := L.length) h1 (by omega)
 rw [List.reverse_cons, itL_app, List.take_append_of_le_length (by rw [itL_len, List.length_reverse]; exact Nat.le_refl _), List.take_of_length_le (by rw [itL_len, List.length_reverse]; exact Nat.le_refl _)] at h2
 exact h2
theorem rowL_set (xs : List S34) (j : Int) (v : Int) (h0 : 0 ≤ j) (h1 : j < xs.length) : (rowL xs).set (j.toNat * 6 + 5) (.int .i64 v) = rowL (setR xs j v) := by
 obtain ⟨m, rfl⟩ := Int.eq_ofNat_of_zero_le h0
 simp only [setR, if_pos h0, Int.toNat_natCast]
 have hm : m < xs.length := by omega
 clear h0 h1
 induction xs generalizing m with
 | nil => simp at hm
 | cons x xs ih =>
  cases m with
  | zero => simp [rowL, ndL]
  | succ m =>
   have h3 := ih m (by simpa using hm)
   have e1 : rowL (x :: xs) = ndL x ++ rowL xs := rfl
   have e2 : (ndL x).length = 6 := rfl
   rw [e1, List.set_append_right _ _ (by rw [e2]; omega), e2, show (m + 1) * 6 + 5 - 6 = m * 6 + 5 by omega, h3, sS]
   rfl
theorem setR_len (xs : List S34) (j v : Int) : (setR xs j v).length = xs.length := by unfold setR; split <;> simp
structure Mid (w W1 : World) (gs cs : Nat) (vo : Value) (L : List (Option Addr × Int)) (xs1 : List S34) : Prop where
 own : W1.ownsRow w.heap.size 141 2 (.slice (some ⟨gs, 0, none⟩) L.length cs) L.length (itL L.reverse)
 out : W1.ownsRow w.heap.size 34 6 vo xs1.length (rowL xs1)
 bel : Below w.heap.size w W1
theorem flat_mid0 {w W : World} {R : List S34} {N : Nat} {gs cs : Nat} {vo : Value} {k : Nat} {p : Option Addr} {i : Int} {L : List (Option Addr × Int)} {T : Tr} {rs : List (Tr × Int)} {xs : List S34} (h : FlatInv S w W R N (.slice (some ⟨gs, 0, none⟩) (L.length + 1) cs) vo k ((p, i) :: L) ((T, i) :: rs) xs) (hi : ¬ 0 ≤ i) :
  Mid w W gs cs vo L (setR xs i xs.length) := ⟨flat_pop h, by rw [setR, if_neg hi]; exact h.out, h.bel⟩
theorem flat_mid1 {w W : World} {R : List S34} {N : Nat} {gs cs : Nat} {vo : Value} {k : Nat} {p : Option Addr} {i : Int} {L : List (Option Addr × Int)} {T : Tr} {rs : List (Tr × Int)} {xs : List S34} (h : FlatInv S w W R N (.slice (some ⟨gs, 0, none⟩) (L.length + 1) cs) vo k ((p, i) :: L) ((T, i) :: rs) xs) (hi : 0 ≤ i) :
  i < (xs.length : Int) ∧ ∃ go co, vo = .slice (some ⟨go, 0, none⟩) xs.length co ∧ go < W.heap.size ∧ (∃ u, W.cell? ⟨go, i.toNat * 6 + 5, none⟩ = some u) ∧ W.frozen? ⟨go, i.toNat * 6 + 5, none⟩ = false ∧ go ≠ gs ∧ w.heap.size ≤ go ∧
   Mid w (W.setCell ⟨go, i.toNat * 6 + 5, none⟩ (.int .i64 xs.length)) gs cs (.slice (some ⟨go, 0, none⟩) xs.length co) L (setR xs i xs.length) := by
 have hlt := (h.par (T, i) (by simp)).2
 simp only at hlt
 obtain ⟨go, co, hv, hbo, hgl⟩ := h.out.form (by omega)
 subst hv
 have ho := h.out
 have hne : go ≠ gs := by
  rcases own_type_ne ho h.own (by decide) with e | e
  ·simp [Value.ownBlock] at e
  ·intro he; subst he; exact e rfl
 have hs := ho.stored (i.toNat * 6 + 5) (.int .i64 xs.length)
 rw [rowL_set xs i _ hi hlt] at hs
 refine ⟨hlt, go, co, rfl, hgl, ⟨_, (ho.cellAt _ (by omega)).trans (List.getElem?_eq_getElem (by rw [rowL_len]; omega))⟩, ho.frozenAt _, hne, hbo, ⟨?_, ?_, h.bel.setCell hbo _⟩⟩
 ·refine (flat_pop h).kept hs.2 (.inr ?_)
  intro e
  simp [Value.ownBlock] at e
  exact hne e.symm
 ·rw [setR_len]; exact hs.1
theorem flat_fin_leaf {R : List S34} {n : S34} {pl : Int} {r : Tr} {i : Int} {rs : List (Tr × Int)} {xs : List S34} (h : finT xs ((.node n pl .nil r, i) :: rs) = R) : finT (setR xs i xs.length ++ [n]) rs = R := h
theorem finT_app (xs : List S34) (T : Tr) (rs : List (Tr × Int)) : finT xs ((T, -1) :: rs) = finT (xs ++ flatT T xs.length) rs := by simp [finT, setR]
theorem setR_mid (A : List S34) (m : S34) (F : List S34) (j v : Int) (hj : j = A.length) : setR (A ++ m :: F) j v = A ++ ⟨m.f0, m.f1, m.f2, m.f3, m.f4, v⟩ :: F := by
 subst hj
 rw [setR, if_pos (by omega), Int.toNat_natCast, List.set_append_right _ _ (Nat.le_refl _)]
 simp [List.getD_eq_getElem?_getD]
theorem flat_fin_inner {R : List S34} {n n1 : S34} {pl p1 : Int} {l1 r1 r : Tr} {i : Int} {rs : List (Tr × Int)} {xs : List S34} (hs : (flatT (.node n1 p1 l1 r1) (xs.length + 1)).length = sizeT (.node n1 p1 l1 r1)) (h : finT xs ((.node n pl (.node n1 p1 l1 r1) r, i) :: rs) = R) :
  finT (setR xs i xs.length ++ [⟨n.f0, n.f1, n.f2, n.f3, (xs.length : Int) + 1, n.f5⟩]) ((.node n1 p1 l1 r1, -1) :: (r, (xs.length : Int)) :: rs) = R := by
 rw [← h, finT_app]
 generalize hT : Tr.node n1 p1 l1 r1 = T1 at hs
 simp only [finT]
 congr 1
 have hl : (setR xs i xs.length ++ [(⟨n.f0, n.f1, n.f2, n.f3, (xs.length : Int) + 1, n.f5⟩ : S34)]).length = xs.length + 1 := by simp [setR_len]
 rw [hl, List.append_assoc, List.singleton_append, setR_mid _ _ _ _ _ (by rw [setR_len])]
 subst hT
 simp only [flatT, List.length_append, setR_len, List.length_cons, hs, List.append_assoc, List.cons_append]
 congr 3
 ·congr 1
  push_cast
  omega
 ·congr 1
  omega
theorem flatT_len : ∀ (T : Tr) (a : Nat), Full T → (flatT T a).length = sizeT T
 | .nil, _, h => h.elim
 | .node _ _ .nil .nil, _, _ => rfl
 | .node _ _ .nil (.node ..), _, h => h.elim
 | .node _ _ (.node ..) .nil, _, h => h.elim
 | .node _ _ (.node n p l r) (.node n' p' l' r'), a, h => by
  have h1 := flatT_len (.node n p l r) (a + 1) h.1
  have h2 := flatT_len (.node n' p' l' r') (a + 1 + sizeT (.node n p l r)) h.2
  rw [flatT, List.length_cons, List.length_append, h1, h2]
  simp only [sizeT]
  omega
theorem flat_leaf {w wr W1 W2 W3 : World} {R : List S34} {N : Nat} {gs cs : Nat} {vo v' : Value} {k : Nat} {p : Option Addr} {i : Int} {n : S34} {pl : Int} {r : Tr} {L : List (Option Addr × Int)} {rs : List (Tr × Int)} {xs : List S34}
  (h : FlatInv S w wr R N (.slice (some ⟨gs, 0, none⟩) (L.length + 1) cs) vo k ((p, i) :: L) ((.node n pl .nil r, i) :: rs) xs)
  (hm : Mid w W1 gs cs vo L (setR xs i xs.length)) (hb2 : Below W1.heap.size W1 W2)
  (hown : W3.ownsRow w.heap.size 34 6 v' ((setR xs i xs.length).length + 1) (rowL (setR xs i xs.length) ++ ndL n)) (hg : W2.grownBy W3 vo.ownBlock) (k' : Nat) (hk : sizeR rs < k') :
  FlatInv S w W3 R N (.slice (some ⟨gs, 0, none⟩) L.length cs) v' k' L rs (setR xs i xs.length ++ [n]) := by
 obtain ⟨_, _, hf, hit⟩ := h.items
 have hr : r = .nil := by
  cases r with
  | nil => rfl
  | node _ _ _ _ => exact hf.elim
 subst hr
 have hne : (Value.slice (some ⟨gs, 0, none⟩) L.length cs).ownBlock ≠ vo.ownBlock := by
  rcases own_type_ne hm.own hm.out (by decide) with e | e
  ·simp [Value.ownBlock] at e
  ·exact e
 have hbl : Below w.heap.size w W2 := hm.bel.trans (hb2.mono hm.bel.size)
 refine ⟨flat_fin_leaf h.fin, hit, ?_, ?_, ?_, ?_, hk, ?_⟩
 ·have := h.size
  simp only [sizeR, sizeT, List.length_append, setR_len, List.length_singleton] at this ⊢
  omega
 ·exact (pw_own_below hm.own hb2).kept hg (.inr hne)
 ·rw [List.length_append, rowL_app]; simpa [rowL] using hown
 ·exact hbl.grown hg hbl.size (fun k hk => own_base hm.out k hk)
 ·intro x hx
  have := h.par x (by simp [hx])
  rw [List.length_append, setR_len]
  simp only [List.length_singleton]
  omega
theorem own_append_step {P : Program} {ops : Array Oper} {o : Oper} {a : Act} {Q : Exit → Act → World → Prop} {Kc : Act → World → Prop} {w : World} (hw : Region.wanted o (yielded ops a.tmps) = true) (s x : Operand) (t : TypeId)
  (ho : o.op = .call { callee := .builtin .append, args := #[s, x], argTypes := #[t, t] })
  (base : Nat) (e : TypeId) (i : TypeInfo) (z : Value) (size bytes : Nat) (ht : P.underlying t = some (.slice e)) (hi : P.info? e = some i) (hz : i.zero = some z)
  (hsize : i.size = size) (hby : i.bytes = bytes) (hzs : z.cells.size = size) (hsz : 0 < size)
  (v : Value) (n : Nat) (xs : List Value) (hs : a.eval s = v) (hown : w.ownsRow base e size v n xs)
  (ad : Addr) (m c : Nat) (news : List Value) (hx : a.eval x = .slice (some ad) m c) (hl : news.length = m * size) (hnews : ∀ j u, news[j]? = some u → w.cell? (ad.add j) = some u) (h1 : ∀ u ∈ news, u.oneCell' = true)
  (h63 : n + m ≤ maxLen) (hbytes : (n + m) * bytes ≤ 140737488355328) (hbase : base ≤ w.heap.size)
  (h : ∀ v' w', w'.ownsRow base e size v' (n + m) (xs ++ news) → w.grownBy w' v.ownBlock → (v'.ownBlock = v.ownBlock ∨ v'.ownBlock = some w.heap.size) → Kc (a.put o.dst v') w') :
  if Region.wanted o (yielded ops a.tmps) = true then Oper.wp P o a w Kc Q else Kc (a.put o.dst undef) w := by
 rw [if_pos hw]
 obtain ⟨v', w', hr, h2, h3, h4, h5⟩ := run_append_own_at (P := P) w base t o.type e i z size bytes ht hi hz hsize hby hzs hsz v n xs hown ad m c news hl hnews h1 h63 hbytes hbase
 unfold Oper.wp execOp
 simp only [ho, resolve, invoke, builtin, Sem.run_bind, Sem.run_pure, Result.andThen_ok, List.map_toArray, List.map_cons, List.map_nil, hs, hx, hr]
 exact h v' w' h2 h3 h5
theorem flat_inner {w wr W1 W2 W3 W4 W5 : World} {R : List S34} {N : Nat} {gs cs : Nat} {vo v' vs' : Value} {k : Nat} {p pL pR : Option Addr} {i : Int} {n n1 : S34} {pl p1 : Int} {l1 r1 r : Tr} {L : List (Option Addr × Int)} {rs : List (Tr × Int)} {xs : List S34}
  (h : FlatInv S w wr R N (.slice (some ⟨gs, 0, none⟩) (L.length + 1) cs) vo k ((p, i) :: L) ((.node n pl (.node n1 p1 l1 r1) r, i) :: rs) xs)
  (hl : Rep S w (.pointer pL) (.node n1 p1 l1 r1)) (hr : Rep S w (.pointer pR) r)
  (hm : Mid w W1 gs cs vo L (setR xs i xs.length)) (hb2 : Below W1.heap.size W1 W2)
  (hown : W3.ownsRow w.heap.size 141 2 vs' (L.length + 2) (itL L.reverse ++ itL [(pR, (xs.length : Int)), (pL, -1)])) (hg : W2.grownBy W3 (some gs)) (hat : vs'.ownBlock = some gs ∨ vs'.ownBlock = some W2.heap.size)
  (hb4 : Below W3.heap.size W3 W4)
  (hown2 : W5.ownsRow w.heap.size 34 6 v' ((setR xs i xs.length).length + 1) (rowL (setR xs i xs.length) ++ ndL ⟨n.f0, n.f1, n.f2, n.f3, (xs.length : Int) + 1, n.f5⟩)) (hg2 : W4.grownBy W5 vo.ownBlock) (k' : Nat) (hk : sizeT (.node n1 p1 l1 r1) + (sizeT r + sizeR rs) < k') :
  FlatInv S w W5 R N vs' v' k' ((pL, -1) :: (pR, (xs.length : Int)) :: L) ((.node n1 p1 l1 r1, -1) :: (r, (xs.length : Int)) :: rs) (setR xs i xs.length ++ [⟨n.f0, n.f1, n.f2, n.f3, (xs.length : Int) + 1, n.f5⟩]) := by
 obtain ⟨_, _, hf, hit⟩ := h.items
 have hf2 : Full (.node n1 p1 l1 r1) ∧ Full r := by
  cases r with
  | nil => exact hf.elim
  | node _ _ _ _ => exact hf
 have hne : some gs ≠ vo.ownBlock := by
  rcases own_type_ne hm.own hm.out (by decide) with e | e
  ·simp [Value.ownBlock] at e
  ·exact e
 have hbl : Below w.heap.size w W2 := hm.bel.trans (hb2.mono hm.bel.size)
 have hgs : w.heap.size ≤ gs := own_base hm.own gs rfl
 have hbl3 : Below w.heap.size w W3 := hbl.grown hg hbl.size (fun k hk => by injection hk with hk; omega)
 have hbl4 : Below w.heap.size w W4 := hbl3.trans (hb4.mono hbl3.size)
 have hout4 := (pw_own_below ((pw_own_below hm.out hb2).kept hg (by cases e : vo.ownBlock with | none => exact .inl rfl | some _ => exact .inr (fun e2 => hne (by rw [e, e2])))) hb4)
 refine ⟨flat_fin_inner (flatT_len _ _ hf2.1) h.fin, ⟨rfl, hl, hf2.1, rfl, hr, hf2.2, hit⟩, ?_, ?_, ?_, ?_, ?_, ?_⟩
 ·have := h.size
  simp only [sizeR, sizeT, List.length_append, setR_len, List.length_singleton] at this ⊢
  omega
 ·have h4 := pw_own_below hown hb4
  have h5 := h4.kept hg2 (own_type_ne h4 hout4 (by decide))
  simp only [List.length_cons, List.reverse_cons, List.append_assoc, itL_app] at h5 ⊢
  exact h5
 ·rw [List.length_append, rowL_app]; simpa [rowL] using hown2
 ·exact hbl4.grown hg2 hbl4.size (fun k hk => own_base hm.out k hk)
 ·simp only [sizeR]; exact hk
 ·intro x hx
  rw [List.length_append, setR_len]
  simp only [List.mem_cons] at hx
  rcases hx with rfl | rfl | hx
  ·simp only [List.length_singleton]; omega
  ·simp only [List.length_singleton]; omega
  ·have := h.par x (by simp [hx])
   simp only [List.length_singleton]
   omega
set_option maxHeartbeats 4000000 in
set_option maxRecDepth 100000 in
theorem flat_any (p : Option Addr) (T : Tr) (w : World) (h : Rep S w (.pointer p) T) (hf : Full T) (hn : sizeT T ≤ 1000000) :
  Calls Try.prog 66 #[.pointer p] w fun e w' => FlatPost w T e w' := by
 have hu141 := Try.underlying141
 have hu34 := Try.underlying34
 have hu116 := Try.underlying116
 have H := Am h
 clear h
 go_enter Try.func66, Try.ntmps66
 go_wp2
 go_loopg [3, 4] (sizeT T + 1) (fun gk vo vs wr => ∃ L rs xs, Aside0 (FlatInv S w wr (flatT T 0) (sizeT T) vs vo gk L rs xs))
 case atStart => exact ⟨[(p, -1)], [(T, -1)], [], ⟨flat_start H.out hf⟩⟩
 case round =>
  obtain ⟨L, rs, xs, HI⟩ := hrel
  cases L with
  | nil =>
   obtain ⟨A_, c_, rfl⟩ := flat_nil HI.out
   obtain ⟨Ao, co, rfl⟩ := own_slice HI.out.out
   have hfin := flat_end HI.out
   have HF := Am hfin
   clear hfin
   go_wp2
   go_ret
   exact HF.out
  | cons it L =>
   obtain ⟨p', i⟩ := it
   cases rs with
   | nil => exact absurd HI.out.items (by simp [Items])
   | cons r rs =>
    obtain ⟨T', j⟩ := r
    obtain ⟨gs, cs, hvs, hgs, hgl, hcap, hit0, hit1⟩ := flat_top HI.out
    subst hvs
    have hpos : decide (0 < L.length + 1) = true := decide_eq_true (by omega)
    have hlen : L.length + 1 ≤ 1000000 := by
     have := items_len HI.out.items
     have h2 := HI.out.size
     simp only [List.length_cons] at this
     omega
    have hxl : xs.length ≤ 1000000 := by have h2 := HI.out.size; omega
    obtain ⟨Ao, co, hvo⟩ := own_slice HI.out.out
    subst hvo
    have hgc : gs < wr.heap.size := hgl
    obtain ⟨i0, hi0, hz0, hsz0, hby0⟩ := info_parts info141
    have hcut := cut_to (P := Try.prog) 142 141 .i64 Try.underlying142 hi0 (some ⟨gs, 0, none⟩) (L.length + 1) cs (L.length : Int) (by omega) (by omega) hcap
    simp only [Int.toNat_natCast] at hcut
    obtain ⟨n, pl, l, r, b, vl, vr, hT', hp', hb, hbl, hl, hr⟩ := flat_node HI.out
    subst hT'
    subst hp'
    have hc0 : wr.cell? ⟨b, 0, none⟩ = some (.int .i64 n.f0) := (cell_of hb 0).trans rfl
    have hc1 : wr.cell? ⟨b, 1, none⟩ = some (.int .i64 n.f1) := (cell_of hb 1).trans rfl
    have hc2 : wr.cell? ⟨b, 2, none⟩ = some (.int .i64 n.f2) := (cell_of hb 2).trans rfl
    have hc3 : wr.cell? ⟨b, 3, none⟩ = some (.int .i64 n.f3) := (cell_of hb 3).trans rfl
    have hc4 : wr.cell? ⟨b, 4, none⟩ = some (.int .i64 n.f4) := (cell_of hb 4).trans rfl
    have hc5 : wr.cell? ⟨b, 5, none⟩ = some (.int .i64 n.f5) := (cell_of hb 5).trans rfl
    have hc7 : wr.cell? ⟨b, 7, none⟩ = some vl := (cell_of hb 7).trans rfl
    have hc8 : wr.cell? ⟨b, 8, none⟩ = some vr := (cell_of hb 8).trans rfl
    have hbw : b < wr.heap.size := Nat.lt_of_lt_of_le hbl HI.out.bel.size
    obtain rfl : i = j := HI.out.items.1
    obtain ⟨i34, hi34, hz340, hz341, hz342⟩ := info_parts info34
    by_cases hi : 0 ≤ i
    ·have di : decide (0 ≤ i) = true := decide_eq_true hi
     obtain ⟨hilt, go, co', hvo, hgo, ⟨u_, hco⟩, hfo, hne, hgb, hm⟩ := flat_mid1 HI.out hi
     have HM := Am hm
     injection hvo with hA _ hC
     subst hA
     subst hC
     clear hm
     cases l with
     | nil =>
      obtain rfl := hl
      go_wp2_with (at_builtin; refine wpList_append_own_at _ rfl (.tmp 66) (.tmp 68) 22 rfl w.heap.size 34 i34 _ 6 48 Try.underlying22 hi34 hz340 hz341 hz342 rfl (by decide) (.slice (some ⟨go, 0, none⟩) xs.length co) xs.length (rowL (setR xs i xs.length)) rfl ?c0 _ 1 1 (ndL n) rfl rfl ?c1 ?c2 ?c3 ?c4 ?c5 ?_)
      case c0 => have h_ := HM.out.out; rw [setR_len] at h_; exact ((h_.alloc _).alloc _).alloc _
      case c1 => exact fun _ _ h_ => h_
      case c2 => simp [ndL, Value.oneCell']
      case c3 => simp only [maxLen]; omega
      case c4 => omega
      case c5 => have h_ := HM.out.bel.size; simp at h_ ⊢; omega
      intro v' w' hown hg hnil hat
      obtain ⟨A', c', hv'⟩ := own_slice hown
      subst hv'
      have hres := flat_leaf HI.out HM.out (((Below.refl _ _).alloc (Nat.le_refl _) _).alloc (by simp) _ |>.alloc (by simp; omega) _) (by rw [setR_len]; exact hown) hg (gk - 1) (by have := HI.out.meas; simp only [sizeR, sizeT] at this; omega)
      have HRES := Am hres
      have HK : gk - 1 < gk := by have := HI.out.meas; omega
      clear hres hown hg hnil hat
      go_wp2
      go_roundg (gk - 1)
      case measure => exact HK
      case rel => exact ⟨_, _, _, ⟨HRES.out⟩⟩
     | node n1 p1 l1 r1 =>
      obtain ⟨pR, epR⟩ := hr.ptr
      subst epR
      obtain ⟨bl, vl1, vr1, hvl, hbl1, hl1, hr1, hs1⟩ := hl
      subst hvl
      have HRL : Aside0 (Rep S w (.pointer (some ⟨bl, 0, none⟩)) (.node n1 p1 l1 r1)) := ⟨⟨bl, vl1, vr1, rfl, hbl1, hl1, hr1, hs1⟩⟩
      have HRR := Am hr
      clear hbl1 hl1 hr1 hs1 hr
      go_wp2_with (fail)
      have hbx0 : (((wr.setCell ⟨go, i.toNat * 6 + 5, none⟩ (.int .i64 xs.length)).alloc (.cells #[.pointer (some ⟨b, 0, none⟩), .int .i64 i] 141)).alloc (.cells #[.int .i64 n.f0, .int .i64 n.f1, .int .i64 n.f2, .int .i64 n.f3, .int .i64 ((xs.length : Int) + 1), .int .i64 n.f5] 34)).drew.cell? ⟨wr.heap.size, 0, none⟩ = some (.pointer (some ⟨b, 0, none⟩)) := cell_al _ (World.cell?_alloc_at _ _ _ _ (by simp))
      have hb7 : (((wr.setCell ⟨go, i.toNat * 6 + 5, none⟩ (.int .i64 xs.length)).alloc (.cells #[.pointer (some ⟨b, 0, none⟩), .int .i64 i] 141)).alloc (.cells #[.int .i64 n.f0, .int .i64 n.f1, .int .i64 n.f2, .int .i64 n.f3, .int .i64 ((xs.length : Int) + 1), .int .i64 n.f5] 34)).drew.cell? ⟨b, 7, none⟩ = some (.pointer (some ⟨bl, 0, none⟩)) := cell_al _ (cell_al _ ((World.cell?_setCell_other _ _ _ _ (by intro e_; injection e_ with e_; omega)).trans hc7))
      have hb8 : (((wr.setCell ⟨go, i.toNat * 6 + 5, none⟩ (.int .i64 xs.length)).alloc (.cells #[.pointer (some ⟨b, 0, none⟩), .int .i64 i] 141)).alloc (.cells #[.int .i64 n.f0, .int .i64 n.f1, .int .i64 n.f2, .int .i64 n.f3, .int .i64 ((xs.length : Int) + 1), .int .i64 n.f5] 34)).drew.cell? ⟨b, 8, none⟩ = some (.pointer pR) := cell_al _ (cell_al _ ((World.cell?_setCell_other _ _ _ _ (by intro e_; injection e_ with e_; omega)).trans hc8))
      have hsz : (((wr.setCell ⟨go, i.toNat * 6 + 5, none⟩ (.int .i64 xs.length)).alloc (.cells #[.pointer (some ⟨b, 0, none⟩), .int .i64 i] 141)).alloc (.cells #[.int .i64 n.f0, .int .i64 n.f1, .int .i64 n.f2, .int .i64 n.f3, .int .i64 ((xs.length : Int) + 1), .int .i64 n.f5] 34)).heap.size = wr.heap.size + 2 := by simp
      have hbl2 : Below w.heap.size w (((wr.setCell ⟨go, i.toNat * 6 + 5, none⟩ (.int .i64 xs.length)).alloc (.cells #[.pointer (some ⟨b, 0, none⟩), .int .i64 i] 141)).alloc (.cells #[.int .i64 n.f0, .int .i64 n.f1, .int .i64 n.f2, .int .i64 n.f3, .int .i64 ((xs.length : Int) + 1), .int .i64 n.f5] 34)) := (HM.out.bel.alloc HM.out.bel.size _).alloc (by have h_ := HM.out.bel.size; simp at h_ ⊢; omega) _
      have HB2 := Am hbl2
      have hnb : (((wr.setCell ⟨go, i.toNat * 6 + 5, none⟩ (.int .i64 xs.length)).alloc (.cells #[.pointer (some ⟨b, 0, none⟩), .int .i64 i] 141)).alloc (.cells #[.int .i64 n.f0, .int .i64 n.f1, .int .i64 n.f2, .int .i64 n.f3, .int .i64 ((xs.length : Int) + 1), .int .i64 n.f5] 34)).heap[wr.heap.size + 1]? = some (.cells #[.int .i64 n.f0, .int .i64 n.f1, .int .i64 n.f2, .int .i64 n.f3, .int .i64 ((xs.length : Int) + 1), .int .i64 n.f5] 34 (0, 0)) := by have h_ := heap_alloc_new ((wr.setCell ⟨go, i.toNat * 6 + 5, none⟩ (.int .i64 xs.length)).alloc (.cells #[.pointer (some ⟨b, 0, none⟩), .int .i64 i] 141)) (.cells #[.int .i64 n.f0, .int .i64 n.f1, .int .i64 n.f2, .int .i64 n.f3, .int .i64 ((xs.length : Int) + 1), .int .i64 n.f5] 34); simpa using h_
      have HNB := Am hnb
      have hb12 : Below (wr.setCell ⟨go, i.toNat * 6 + 5, none⟩ (.int .i64 xs.length)).heap.size (wr.setCell ⟨go, i.toNat * 6 + 5, none⟩ (.int .i64 xs.length)) (((wr.setCell ⟨go, i.toNat * 6 + 5, none⟩ (.int .i64 xs.length)).alloc (.cells #[.pointer (some ⟨b, 0, none⟩), .int .i64 i] 141)).alloc (.cells #[.int .i64 n.f0, .int .i64 n.f1, .int .i64 n.f2, .int .i64 n.f3, .int .i64 ((xs.length : Int) + 1), .int .i64 n.f5] 34)) := ((Below.refl _ _).alloc (Nat.le_refl _) _).alloc (by simp) _
      have HB12 := Am hb12
      have hos : (((wr.setCell ⟨go, i.toNat * 6 + 5, none⟩ (.int .i64 xs.length)).alloc (.cells #[.pointer (some ⟨b, 0, none⟩), .int .i64 i] 141)).alloc (.cells #[.int .i64 n.f0, .int .i64 n.f1, .int .i64 n.f2, .int .i64 n.f3, .int .i64 ((xs.length : Int) + 1), .int .i64 n.f5] 34)).ownsRow w.heap.size 141 2 (.slice (some ⟨gs, 0, none⟩) L.length cs) L.length (itL L.reverse) := (HM.out.own.alloc _).alloc _
      have HOS := Am hos
      clear hbl2 hnb hb12 hos
      generalize (((wr.setCell ⟨go, i.toNat * 6 + 5, none⟩ (.int .i64 xs.length)).alloc (.cells #[.pointer (some ⟨b, 0, none⟩), .int .i64 i] 141)).alloc (.cells #[.int .i64 n.f0, .int .i64 n.f1, .int .i64 n.f2, .int .i64 n.f3, .int .i64 ((xs.length : Int) + 1), .int .i64 n.f5] 34)) = w2 at hbx0 hb7 hb8 hsz HB2 HNB HB12 HOS ⊢
      refine start_ (n := 18) (S := fun w' => w'.cell? ⟨wr.heap.size, 0, none⟩ = some (.pointer (some ⟨b, 0, none⟩)) ∧ w'.cell? ⟨b, 7, none⟩ = some (.pointer (some ⟨bl, 0, none⟩)) ∧ w'.cell? ⟨b, 8, none⟩ = some (.pointer pR)) (ds := [16]) #[false, false, false, false, false, false, false, false, false, false, false, false, false, false, false, false, false, false] (by kernel_rfl) rfl rfl ⟨hbx0, hb7, hb8⟩ (fun hHeld => ?_)
      refine pu 0 49 ?_
      refine pu 1 50 ?_
      refine pu 6 55 ?_
      refine pu 7 56 ?_
      refine pu 9 58 ?_
      refine ta 2 51 hHeld ?_
      refine pu 3 52 ?_
      refine pu 4 53 ?_
      refine ta 5 54 hHeld ?_
      refine pu 8 57 ?_
      refine ta 10 59 hHeld ?_
      refine pu 11 60 ?_
      refine pu 12 61 ?_
      refine ta 13 62 hHeld ?_
      refine pu 14 63 ?_
      refine one_ (i := 15) (N := some 64) #[true, true, true, true, true, true, true, true, true, true, true, true, true, true, true, true, false, false] rfl rfl (by kernel_rfl) (by decide) (fun K hK => ?_)
      refine value_ (w1 := ?_) (v := ?_) (by rfl) rfl ?_ ?_
      rotate_left 2
      ·go_simp
       constructor
       ·rfl
       ·rfl
      refine hK.out _ _ ⟨cell_al _ hHeld.1, cell_al _ hHeld.2.1, cell_al _ hHeld.2.2⟩ (fun hHeld => ?_)
      clear hK K
      refine norm_ (a' := ?_) ?_ ?_
      rotate_left
      ·show Act.put _ (some 64) _ = _
       simp only [Act.put, sI, sZ, sS, i64_w, i32_w]
       rfl
      refine last_ (i := 16) (N := some 65) #[true, true, true, true, true, true, true, true, true, true, true, true, true, true, true, true, true, false] rfl rfl (by kernel_rfl) (by decide) (fun K hK => ?_)
      refine own_append_step (by rfl) (.tmp 49) (.tmp 64) 142 (by rfl) w.heap.size 141 i0 _ 2 16 Try.underlying142 hi0 hz0 hsz0 hby0 rfl (by decide) (.slice (some ⟨gs, 0, none⟩) L.length cs) L.length (itL L.reverse) rfl ?c0 _ 2 2 (itL [(pR, (xs.length : Int)), (some ⟨bl, 0, none⟩, -1)]) rfl rfl ?c1 ?c2 ?c3 ?c4 ?c5 ?_
      case c0 => exact (HOS.out.drew).alloc _
      case c1 => exact World.news_of_block (cs := #[.pointer pR, .int .i64 (xs.length : Int), .pointer (some ⟨bl, 0, none⟩), .int .i64 (-1)]) (t := 141) (fr := (0, 0)) (by have h_ := heap_alloc_new w2 (.cells #[.pointer pR, .int .i64 (xs.length : Int), .pointer (some ⟨bl, 0, none⟩), .int .i64 (-1)] 141); rw [hsz] at h_; exact h_)
      case c2 => simp [itL, Value.oneCell']
      case c3 => simp only [maxLen]; omega
      case c4 => omega
      case c5 => have h_ := HB2.out.size; first | omega | (show _ ≤ (w2.alloc _).heap.size; rw [World.size_alloc]; omega)
      intro vs' w3 hown hg hat
      refine hK.out _ _ ?_
      clear hK K
      refine norm_ (a' := ?_) ?_ ?_
      rotate_left
      ·show Act.put _ (some 65) _ = _
       simp only [Act.put, sI, sZ, sS, i64_w, i32_w]
       rfl
      refine pu 17 4 ?_
      refine done_ (by kernel_rfl) ?_
      try clear hHeld
      have HOW := Am hown
      have HG := Am hg
      have HAT := Am hat
      have hnb3 : w3.heap[wr.heap.size + 1]? = some (.cells #[.int .i64 n.f0, .int .i64 n.f1, .int .i64 n.f2, .int .i64 n.f3, .int .i64 ((xs.length : Int) + 1), .int .i64 n.f5] 34 (0, 0)) := (hg.block (wr.heap.size + 1) (by show _ < (w2.alloc _).heap.size; rw [World.size_alloc]; omega) (by simp [Value.ownBlock]; omega)).trans ((Below.heap_alloc _ _ _ (by show _ < w2.heap.size; omega)).trans HNB.out)
      have hnc0 : w3.cell? ⟨wr.heap.size + 1, 0, none⟩ = some (.int .i64 n.f0) := (cell_of hnb3 0).trans rfl
      have hnc1 : w3.cell? ⟨wr.heap.size + 1, 1, none⟩ = some (.int .i64 n.f1) := (cell_of hnb3 1).trans rfl
      have hnc2 : w3.cell? ⟨wr.heap.size + 1, 2, none⟩ = some (.int .i64 n.f2) := (cell_of hnb3 2).trans rfl
      have hnc3 : w3.cell? ⟨wr.heap.size + 1, 3, none⟩ = some (.int .i64 n.f3) := (cell_of hnb3 3).trans rfl
      have hnc4 : w3.cell? ⟨wr.heap.size + 1, 4, none⟩ = some (.int .i64 ((xs.length : Int) + 1)) := (cell_of hnb3 4).trans rfl
      have hnc5 : w3.cell? ⟨wr.heap.size + 1, 5, none⟩ = some (.int .i64 n.f5) := (cell_of hnb3 5).trans rfl
      obtain ⟨A3, c3, hvs3⟩ := own_slice hown
      subst hvs3
      have hsz3 : w2.heap.size + 1 ≤ w3.heap.size := by have h_ := hg.size; simpa using h_
      clear hown hg hat hnb3
      have hb3 : Below w2.heap.size w2 (w2.alloc (.cells #[.pointer pR, .int .i64 (xs.length : Int), .pointer (some ⟨bl, 0, none⟩), .int .i64 (-1)] 141)).drew := ((Below.refl _ _).alloc (Nat.le_refl _) _).drew
      have HB3 := Am hb3
      clear hb3
      have hod : w3.ownsRow w.heap.size 34 6 (.slice (some ⟨go, 0, none⟩) xs.length co) xs.length (rowL (setR xs i xs.length)) := by
       have h_ := pw_own_below (pw_own_below HM.out.out HB12.out) HB3.out
       rw [setR_len] at h_
       exact h_.kept HG.out (by rcases own_type_ne HM.out.out HM.out.own (by decide) with e | e; exact .inl e; exact .inr e)
      have HOD := Am hod
      clear hod
      go_wp2_with (at_builtin; refine wpList_append_own_at _ rfl (.tmp 66) (.tmp 68) 22 rfl w.heap.size 34 i34 _ 6 48 Try.underlying22 hi34 hz340 hz341 hz342 rfl (by decide) (.slice (some ⟨go, 0, none⟩) xs.length co) xs.length (rowL (setR xs i xs.length)) rfl ?d0 _ 1 1 (ndL ⟨n.f0, n.f1, n.f2, n.f3, (xs.length : Int) + 1, n.f5⟩) rfl rfl ?d1 ?d2 ?d3 ?d4 ?d5 ?_)
      case d0 => exact HOD.out.alloc _
      case d1 => first | exact fun _ _ h_ => h_ | exact World.news_of_block (heap_alloc_new _ _)
      case d2 => simp [ndL, Value.oneCell']
      case d3 => simp only [maxLen]; omega
      case d4 => omega
      case d5 => have h_ := HB2.out.size; first | (simp only [World.size_alloc]; omega) | omega
      intro v' w5 hown2 hg2 hnil2 hat2
      obtain ⟨A', c', hv'⟩ := own_slice hown2
      subst hv'
      have hres := flat_inner HI.out HRL.out HRR.out HM.out (HB12.out.trans (HB3.out.mono HB12.out.size)) HOW.out HG.out HAT.out ((Below.refl _ _).alloc (Nat.le_refl _) _) (by rw [setR_len]; exact hown2) hg2 (gk - 1) (by have h_ := HI.out.meas; simp only [sizeR, sizeT] at h_ ⊢; omega)
      have HRES := Am hres
      have HK : gk - 1 < gk := by have h_ := HI.out.meas; omega
      clear hres hown2 hg2 hnil2 hat2
      go_wp2
      go_roundg (gk - 1)
      case measure => exact HK
      case rel => exact ⟨_, _, _, ⟨HRES.out⟩⟩
    ·have di : decide (0 ≤ i) = false := decide_eq_false hi
     have HM := Am (flat_mid0 HI.out hi)
     cases l with
     | nil =>
      obtain rfl := hl
      go_wp2_with (at_builtin; refine wpList_append_own_at _ rfl (.tmp 66) (.tmp 68) 22 rfl w.heap.size 34 i34 _ 6 48 Try.underlying22 hi34 hz340 hz341 hz342 rfl (by decide) (.slice Ao xs.length co) xs.length (rowL (setR xs i xs.length)) rfl ?c0 _ 1 1 (ndL n) rfl rfl ?c1 ?c2 ?c3 ?c4 ?c5 ?_)
      case c0 => have h_ := HM.out.out; rw [setR_len] at h_; exact ((h_.alloc _).alloc _).alloc _
      case c1 => exact fun _ _ h_ => h_
      case c2 => simp [ndL, Value.oneCell']
      case c3 => simp only [maxLen]; omega
      case c4 => omega
      case c5 => have h_ := HM.out.bel.size; simp at h_ ⊢; omega
      intro v' w' hown hg hnil hat
      obtain ⟨A', c', hv'⟩ := own_slice hown
      subst hv'
      have hres := flat_leaf HI.out HM.out (((Below.refl _ _).alloc (Nat.le_refl _) _).alloc (by simp) _ |>.alloc (by simp; omega) _) (by rw [setR_len]; exact hown) hg (gk - 1) (by have := HI.out.meas; simp only [sizeR, sizeT] at this; omega)
      have HRES := Am hres
      have HK : gk - 1 < gk := by have := HI.out.meas; omega
      clear hres hown hg hnil hat
      go_wp2
      go_roundg (gk - 1)
      case measure => exact HK
      case rel => exact ⟨_, _, _, ⟨HRES.out⟩⟩
     | node n1 p1 l1 r1 =>
      obtain ⟨pR, epR⟩ := hr.ptr
      subst epR
      obtain ⟨bl, vl1, vr1, hvl, hbl1, hl1, hr1, hs1⟩ := hl
      subst hvl
      have HRL : Aside0 (Rep S w (.pointer (some ⟨bl, 0, none⟩)) (.node n1 p1 l1 r1)) := ⟨⟨bl, vl1, vr1, rfl, hbl1, hl1, hr1, hs1⟩⟩
      have HRR := Am hr
      clear hbl1 hl1 hr1 hs1 hr
      go_wp2_with (fail)
      have hbx0 : ((wr.alloc (.cells #[.pointer (some ⟨b, 0, none⟩), .int .i64 i] 141)).alloc (.cells #[.int .i64 n.f0, .int .i64 n.f1, .int .i64 n.f2, .int .i64 n.f3, .int .i64 ((xs.length : Int) + 1), .int .i64 n.f5] 34)).drew.cell? ⟨wr.heap.size, 0, none⟩ = some (.pointer (some ⟨b, 0, none⟩)) := cell_al _ (World.cell?_alloc_at _ _ _ _ (by simp))
      have hb7 : ((wr.alloc (.cells #[.pointer (some ⟨b, 0, none⟩), .int .i64 i] 141)).alloc (.cells #[.int .i64 n.f0, .int .i64 n.f1, .int .i64 n.f2, .int .i64 n.f3, .int .i64 ((xs.length : Int) + 1), .int .i64 n.f5] 34)).drew.cell? ⟨b, 7, none⟩ = some (.pointer (some ⟨bl, 0, none⟩)) := cell_al _ (cell_al _ (hc7))
      have hb8 : ((wr.alloc (.cells #[.pointer (some ⟨b, 0, none⟩), .int .i64 i] 141)).alloc (.cells #[.int .i64 n.f0, .int .i64 n.f1, .int .i64 n.f2, .int .i64 n.f3, .int .i64 ((xs.length : Int) + 1), .int .i64 n.f5] 34)).drew.cell? ⟨b, 8, none⟩ = some (.pointer pR) := cell_al _ (cell_al _ (hc8))
      have hsz : ((wr.alloc (.cells #[.pointer (some ⟨b, 0, none⟩), .int .i64 i] 141)).alloc (.cells #[.int .i64 n.f0, .int .i64 n.f1, .int .i64 n.f2, .int .i64 n.f3, .int .i64 ((xs.length : Int) + 1), .int .i64 n.f5] 34)).heap.size = wr.heap.size + 2 := by simp
      have hbl2 : Below w.heap.size w ((wr.alloc (.cells #[.pointer (some ⟨b, 0, none⟩), .int .i64 i] 141)).alloc (.cells #[.int .i64 n.f0, .int .i64 n.f1, .int .i64 n.f2, .int .i64 n.f3, .int .i64 ((xs.length : Int) + 1), .int .i64 n.f5] 34)) := (HM.out.bel.alloc HM.out.bel.size _).alloc (by have h_ := HM.out.bel.size; simp at h_ ⊢; omega) _
      have HB2 := Am hbl2
      have hnb : ((wr.alloc (.cells #[.pointer (some ⟨b, 0, none⟩), .int .i64 i] 141)).alloc (.cells #[.int .i64 n.f0, .int .i64 n.f1, .int .i64 n.f2, .int .i64 n.f3, .int .i64 ((xs.length : Int) + 1), .int .i64 n.f5] 34)).heap[wr.heap.size + 1]? = some (.cells #[.int .i64 n.f0, .int .i64 n.f1, .int .i64 n.f2, .int .i64 n.f3, .int .i64 ((xs.length : Int) + 1), .int .i64 n.f5] 34 (0, 0)) := by have h_ := heap_alloc_new (wr.alloc (.cells #[.pointer (some ⟨b, 0, none⟩), .int .i64 i] 141)) (.cells #[.int .i64 n.f0, .int .i64 n.f1, .int .i64 n.f2, .int .i64 n.f3, .int .i64 ((xs.length : Int) + 1), .int .i64 n.f5] 34); simpa using h_
      have HNB := Am hnb
      have hb12 : Below wr.heap.size wr ((wr.alloc (.cells #[.pointer (some ⟨b, 0, none⟩), .int .i64 i] 141)).alloc (.cells #[.int .i64 n.f0, .int .i64 n.f1, .int .i64 n.f2, .int .i64 n.f3, .int .i64 ((xs.length : Int) + 1), .int .i64 n.f5] 34)) := ((Below.refl _ _).alloc (Nat.le_refl _) _).alloc (by simp) _
      have HB12 := Am hb12
      have hos : ((wr.alloc (.cells #[.pointer (some ⟨b, 0, none⟩), .int .i64 i] 141)).alloc (.cells #[.int .i64 n.f0, .int .i64 n.f1, .int .i64 n.f2, .int .i64 n.f3, .int .i64 ((xs.length : Int) + 1), .int .i64 n.f5] 34)).ownsRow w.heap.size 141 2 (.slice (some ⟨gs, 0, none⟩) L.length cs) L.length (itL L.reverse) := (HM.out.own.alloc _).alloc _
      have HOS := Am hos
      clear hbl2 hnb hb12 hos
      generalize ((wr.alloc (.cells #[.pointer (some ⟨b, 0, none⟩), .int .i64 i] 141)).alloc (.cells #[.int .i64 n.f0, .int .i64 n.f1, .int .i64 n.f2, .int .i64 n.f3, .int .i64 ((xs.length : Int) + 1), .int .i64 n.f5] 34)) = w2 at hbx0 hb7 hb8 hsz HB2 HNB HB12 HOS ⊢
      refine start_ (n := 18) (S := fun w' => w'.cell? ⟨wr.heap.size, 0, none⟩ = some (.pointer (some ⟨b, 0, none⟩)) ∧ w'.cell? ⟨b, 7, none⟩ = some (.pointer (some ⟨bl, 0, none⟩)) ∧ w'.cell? ⟨b, 8, none⟩ = some (.pointer pR)) (ds := [16]) #[false, false, false, false, false, false, false, false, false, false, false, false, false, false, false, false, false, false] (by kernel_rfl) rfl rfl ⟨hbx0, hb7, hb8⟩ (fun hHeld => ?_)
      refine pu 0 49 ?_
      refine pu 1 50 ?_
      refine pu 6 55 ?_
      refine pu 7 56 ?_
      refine pu 9 58 ?_
      refine ta 2 51 hHeld ?_
      refine pu 3 52 ?_
      refine pu 4 53 ?_
      refine ta 5 54 hHeld ?_
      refine pu 8 57 ?_
      refine ta 10 59 hHeld ?_
      refine pu 11 60 ?_
      refine pu 12 61 ?_
      refine ta 13 62 hHeld ?_
      refine pu 14 63 ?_
      refine one_ (i := 15) (N := some 64) #[true, true, true, true, true, true, true, true, true, true, true, true, true, true, true, true, false, false] rfl rfl (by kernel_rfl) (by decide) (fun K hK => ?_)
      refine value_ (w1 := ?_) (v := ?_) (by rfl) rfl ?_ ?_
      rotate_left 2
      ·go_simp
       constructor
       ·rfl
       ·rfl
      refine hK.out _ _ ⟨cell_al _ hHeld.1, cell_al _ hHeld.2.1, cell_al _ hHeld.2.2⟩ (fun hHeld => ?_)
      clear hK K
      refine norm_ (a' := ?_) ?_ ?_
      rotate_left
      ·show Act.put _ (some 64) _ = _
       simp only [Act.put, sI, sZ, sS, i64_w, i32_w]
       rfl
      refine last_ (i := 16) (N := some 65) #[true, true, true, true, true, true, true, true, true, true, true, true, true, true, true, true, true, false] rfl rfl (by kernel_rfl) (by decide) (fun K hK => ?_)
      refine own_append_step (by rfl) (.tmp 49) (.tmp 64) 142 (by rfl) w.heap.size 141 i0 _ 2 16 Try.underlying142 hi0 hz0 hsz0 hby0 rfl (by decide) (.slice (some ⟨gs, 0, none⟩) L.length cs) L.length (itL L.reverse) rfl ?c0 _ 2 2 (itL [(pR, (xs.length : Int)), (some ⟨bl, 0, none⟩, -1)]) rfl rfl ?c1 ?c2 ?c3 ?c4 ?c5 ?_
      case c0 => exact (HOS.out.drew).alloc _
      case c1 => exact World.news_of_block (cs := #[.pointer pR, .int .i64 (xs.length : Int), .pointer (some ⟨bl, 0, none⟩), .int .i64 (-1)]) (t := 141) (fr := (0, 0)) (by have h_ := heap_alloc_new w2 (.cells #[.pointer pR, .int .i64 (xs.length : Int), .pointer (some ⟨bl, 0, none⟩), .int .i64 (-1)] 141); rw [hsz] at h_; exact h_)
      case c2 => simp [itL, Value.oneCell']
      case c3 => simp only [maxLen]; omega
      case c4 => omega
      case c5 => have h_ := HB2.out.size; first | omega | (show _ ≤ (w2.alloc _).heap.size; rw [World.size_alloc]; omega)
      intro vs' w3 hown hg hat
      refine hK.out _ _ ?_
      clear hK K
      refine norm_ (a' := ?_) ?_ ?_
      rotate_left
      ·show Act.put _ (some 65) _ = _
       simp only [Act.put, sI, sZ, sS, i64_w, i32_w]
       rfl
      refine pu 17 4 ?_
      refine done_ (by kernel_rfl) ?_
      try clear hHeld
      have HOW := Am hown
      have HG := Am hg
      have HAT := Am hat
      have hnb3 : w3.heap[wr.heap.size + 1]? = some (.cells #[.int .i64 n.f0, .int .i64 n.f1, .int .i64 n.f2, .int .i64 n.f3, .int .i64 ((xs.length : Int) + 1), .int .i64 n.f5] 34 (0, 0)) := (hg.block (wr.heap.size + 1) (by show _ < (w2.alloc _).heap.size; rw [World.size_alloc]; omega) (by simp [Value.ownBlock]; omega)).trans ((Below.heap_alloc _ _ _ (by show _ < w2.heap.size; omega)).trans HNB.out)
      have hnc0 : w3.cell? ⟨wr.heap.size + 1, 0, none⟩ = some (.int .i64 n.f0) := (cell_of hnb3 0).trans rfl
      have hnc1 : w3.cell? ⟨wr.heap.size + 1, 1, none⟩ = some (.int .i64 n.f1) := (cell_of hnb3 1).trans rfl
      have hnc2 : w3.cell? ⟨wr.heap.size + 1, 2, none⟩ = some (.int .i64 n.f2) := (cell_of hnb3 2).trans rfl
      have hnc3 : w3.cell? ⟨wr.heap.size + 1, 3, none⟩ = some (.int .i64 n.f3) := (cell_of hnb3 3).trans rfl
      have hnc4 : w3.cell? ⟨wr.heap.size + 1, 4, none⟩ = some (.int .i64 ((xs.length : Int) + 1)) := (cell_of hnb3 4).trans rfl
      have hnc5 : w3.cell? ⟨wr.heap.size + 1, 5, none⟩ = some (.int .i64 n.f5) := (cell_of hnb3 5).trans rfl
      obtain ⟨A3, c3, hvs3⟩ := own_slice hown
      subst hvs3
      have hsz3 : w2.heap.size + 1 ≤ w3.heap.size := by have h_ := hg.size; simpa using h_
      clear hown hg hat hnb3
      have hb3 : Below w2.heap.size w2 (w2.alloc (.cells #[.pointer pR, .int .i64 (xs.length : Int), .pointer (some ⟨bl, 0, none⟩), .int .i64 (-1)] 141)).drew := ((Below.refl _ _).alloc (Nat.le_refl _) _).drew
      have HB3 := Am hb3
      clear hb3
      have hod : w3.ownsRow w.heap.size 34 6 (.slice Ao xs.length co) xs.length (rowL (setR xs i xs.length)) := by
       have h_ := pw_own_below (pw_own_below HM.out.out HB12.out) HB3.out
       rw [setR_len] at h_
       exact h_.kept HG.out (by rcases own_type_ne HM.out.out HM.out.own (by decide) with e | e; exact .inl e; exact .inr e)
      have HOD := Am hod
      clear hod
      go_wp2_with (at_builtin; refine wpList_append_own_at _ rfl (.tmp 66) (.tmp 68) 22 rfl w.heap.size 34 i34 _ 6 48 Try.underlying22 hi34 hz340 hz341 hz342 rfl (by decide) (.slice Ao xs.length co) xs.length (rowL (setR xs i xs.length)) rfl ?d0 _ 1 1 (ndL ⟨n.f0, n.f1, n.f2, n.f3, (xs.length : Int) + 1, n.f5⟩) rfl rfl ?d1 ?d2 ?d3 ?d4 ?d5 ?_)
      case d0 => exact HOD.out.alloc _
      case d1 => first | exact fun _ _ h_ => h_ | exact World.news_of_block (heap_alloc_new _ _)
      case d2 => simp [ndL, Value.oneCell']
      case d3 => simp only [maxLen]; omega
      case d4 => omega
      case d5 => have h_ := HB2.out.size; first | (simp only [World.size_alloc]; omega) | omega
      intro v' w5 hown2 hg2 hnil2 hat2
      obtain ⟨A', c', hv'⟩ := own_slice hown2
      subst hv'
      have hres := flat_inner HI.out HRL.out HRR.out HM.out (HB12.out.trans (HB3.out.mono HB12.out.size)) HOW.out HG.out HAT.out ((Below.refl _ _).alloc (Nat.le_refl _) _) (by rw [setR_len]; exact hown2) hg2 (gk - 1) (by have h_ := HI.out.meas; simp only [sizeR, sizeT] at h_ ⊢; omega)
      have HRES := Am hres
      have HK : gk - 1 < gk := by have h_ := HI.out.meas; omega
      clear hres hown2 hg2 hnil2 hat2
      go_wp2
      go_roundg (gk - 1)
      case measure => exact HK
      case rel => exact ⟨_, _, _, ⟨HRES.out⟩⟩
end Go.Proofs.Ytgleaefhflamnaa.T
namespace Go.Proofs.Ytgleaefhflamnaa.T
open Go.RowKit Go.Proofs.YtgleaefhflamnaaW.PrintWords Go.Proofs.YtgleaefhflamnaaW.PrintLast Go.Proofs.YtgleaefhflamnaaW.PrintMore
def nb (B : Nat) (j : Nat) : Option Addr := some ⟨B + 2 + 2 * j, 0, none⟩
def lpV (B : Nat) (t : List S34) (j : Nat) : Option Addr := if 0 ≤ (t.getD j z34).f4 then nb B (t.getD j z34).f4.toNat else none
def rpV (B : Nat) (t : List S34) (j : Nat) : Option Addr := if 0 ≤ (t.getD j z34).f4 then nb B (t.getD j z34).f5.toNat else none
/-- The first n1 nodes are made, the first n2 of them linked. -/
structure Forest (w W : World) (t : List S34) (n1 n2 : Nat) : Prop where
 ptrs : W.rowIs w.heap.size 92 t.length (fun j => .pointer (if j < n1 then nb w.heap.size j else none))
 nodes : ∀ j, j < n1 → W.heap[w.heap.size + 2 + 2 * j]? = some (.cells (ndCells (t.getD j z34) j (.pointer (if j < n2 then lpV w.heap.size t j else none)) (.pointer (if j < n2 then rpV w.heap.size t j else none))) 116 (0, 0))
 bel : Below w.heap.size w W
theorem rowIs_put {w : World} {b : Nat} {t : TypeId} {n : Nat} {f : Nat → Value} (h : w.rowIs b t n f) (i : Nat) (v : Value) : (w.setCell ⟨b, i, none⟩ v).rowIs b t n (fun j => if j = i then v else f j) := by
 obtain ⟨c, hb, hc, hf⟩ := h
 refine ⟨c.setIfInBounds i v, put_blk hb i v, by simpa using hc, fun j hj => ?_⟩
 rw [Array.getElem?_setIfInBounds]
 by_cases e : i = j
 ·subst e; simp [hc, hj]
 ·rw [if_neg e]; simp only [if_neg (show ¬ j = i from fun h => e h.symm)]; exact hf j hj
theorem rowIs_blk {w w' : World} {b : Nat} {t : TypeId} {n : Nat} {f : Nat → Value} (h : w.rowIs b t n f) (hb : w'.heap[b]? = w.heap[b]?) : w'.rowIs b t n f := by
 obtain ⟨c, h1, h2⟩ := h
 exact ⟨c, hb.trans h1, h2⟩
theorem rowIs_cell {w : World} {b : Nat} {t : TypeId} {n : Nat} {f : Nat → Value} (h : w.rowIs b t n f) (i : Nat) (hi : i < n) : w.cell? ⟨b, i, none⟩ = some (f i) := by
 obtain ⟨c, h1, h2, h3⟩ := h
 exact (cell_of h1 i).trans (h3 i hi)
theorem rowIs_frz {w : World} {b : Nat} {t : TypeId} {n : Nat} {f : Nat → Value} (h : w.rowIs b t n f) (i : Nat) : w.frozen? ⟨b, i, none⟩ = false := by
 obtain ⟨c, h1, _⟩ := h
 exact frz_of h1 i
theorem rowIs_lt {w : World} {b : Nat} {t : TypeId} {n : Nat} {f : Nat → Value} (h : w.rowIs b t n f) : b < w.heap.size := by
 obtain ⟨c, h1, _⟩ := h
 exact (Array.getElem?_eq_some_iff.1 h1).1
theorem rowIs_congr {w : World} {b : Nat} {t : TypeId} {n : Nat} {f g : Nat → Value} (h : w.rowIs b t n f) (hfg : ∀ j, j < n → f j = g j) : w.rowIs b t n g := by
 obtain ⟨c, h1, h2, h3⟩ := h
 exact ⟨c, h1, h2, fun i hi => (h3 i hi).trans (by rw [hfg i hi])⟩
theorem forest_start (w : World) (t : List S34) : Forest w (w.alloc (.cells (madeCells #[.pointer none] t.length) 92)) t 0 0 := by
 refine ⟨?_, fun j h => absurd h (Nat.not_lt_zero _), (Below.refl _ _).alloc (Nat.le_refl _) _⟩
 have h := World.rowIs_made w (.pointer none) t.length 92
 exact rowIs_congr h (fun j _ => by simp)
theorem forest_step1 {w wr : World} {t : List S34} {i : Nat} (hi : i < t.length) (h : Forest w wr t i 0) (hs : wr.heap.size = w.heap.size + 1 + 2 * i) (o : Obj) :
  Forest w (((wr.setCell ⟨w.heap.size, i, none⟩ (.pointer (some ⟨wr.heap.size + 1, 0, none⟩))).alloc o).alloc (.cells (ndCells (t.getD i z34) i (.pointer none) (.pointer none)) 116)) t (i + 1) 0
  ∧ (((wr.setCell ⟨w.heap.size, i, none⟩ (.pointer (some ⟨wr.heap.size + 1, 0, none⟩))).alloc o).alloc (.cells (ndCells (t.getD i z34) i (.pointer none) (.pointer none)) 116)).heap.size = w.heap.size + 1 + 2 * (i + 1) := by
 have hsz : (wr.setCell ⟨w.heap.size, i, none⟩ (.pointer (some ⟨wr.heap.size + 1, 0, none⟩))).heap.size = wr.heap.size := by simp [World.setCell]
 refine ⟨⟨?_, fun j hj => ?_, ?_⟩, ?_⟩
 ·have h1 := rowIs_put h.ptrs i (.pointer (some ⟨wr.heap.size + 1, 0, none⟩))
  refine rowIs_congr (rowIs_blk h1 ?_) (fun j hj => ?_)
  ·rw [Below.heap_alloc _ _ _ (by rw [World.size_alloc, hsz]; omega), Below.heap_alloc _ _ _ (by rw [hsz]; omega)]
  ·by_cases e : j = i
   ·subst e; simp only [if_pos (show j < j + 1 by omega), nb, hs]; rw [show w.heap.size + 1 + 2 * j + 1 = w.heap.size + 2 + 2 * j by omega]; simp
   ·by_cases e2 : j < i
    ·simp only [if_neg e, if_pos e2, if_pos (show j < i + 1 by omega)]
    ·simp only [if_neg e, if_neg e2, if_neg (show ¬ j < i + 1 by omega)]
 ·by_cases e : j = i
  ·subst e
   have h2 := heap_alloc_new ((wr.setCell ⟨w.heap.size, j, none⟩ (.pointer (some ⟨wr.heap.size + 1, 0, none⟩))).alloc o) (.cells (ndCells (t.getD j z34) j (.pointer none) (.pointer none)) 116)
   rw [World.size_alloc, hsz, hs] at h2
   rw [show w.heap.size + 2 + 2 * j = w.heap.size + 1 + 2 * j + 1 by omega]
   rw [hs]
   exact h2
  ·rw [Below.heap_alloc _ _ _ (by rw [World.size_alloc, hsz]; omega), Below.heap_alloc _ _ _ (by rw [hsz]; omega), Below.heap_setCell _ _ _ _ (by show _ ≠ w.heap.size; omega)]
   exact h.nodes j (by omega)
 ·exact ((h.bel.setCell (p := ⟨w.heap.size, i, none⟩) (Nat.le_refl _) _).alloc (by rw [hsz]; omega) _).alloc (by rw [World.size_alloc, hsz]; omega) _
 ·rw [World.size_alloc, World.size_alloc, hsz]; omega
theorem forest_skip {w wr : World} {t : List S34} {i : Nat} (h : Forest w wr t t.length i) (hl : ¬ 0 ≤ (t.getD i z34).f4) (o : Obj) : Forest w (wr.alloc o) t t.length (i + 1) := by
 have hB := rowIs_lt h.ptrs
 refine ⟨rowIs_blk h.ptrs (Below.heap_alloc _ _ _ hB), fun j hj => ?_, h.bel.alloc h.bel.size _⟩
 have hn := h.nodes j hj
 rw [Below.heap_alloc _ _ _ (Array.getElem?_eq_some_iff.1 hn).1, hn]
 by_cases e : j < i
 ·simp only [if_pos e, if_pos (show j < i + 1 by omega)]
 ·by_cases e2 : j = i
  ·subst e2; simp only [if_neg e, if_pos (show j < j + 1 by omega), lpV, rpV, if_neg hl]
  ·simp only [if_neg e, if_neg (show ¬ j < i + 1 by omega)]
theorem forest_alloc {w wr : World} {t : List S34} {n1 n2 : Nat} (h : Forest w wr t n1 n2) (o : Obj) : Forest w (wr.alloc o).drew t n1 n2 :=
 ⟨rowIs_blk h.ptrs (Below.heap_alloc _ _ _ (rowIs_lt h.ptrs)), fun j hj => (Below.heap_alloc _ _ _ (Array.getElem?_eq_some_iff.1 (h.nodes j hj)).1).trans (h.nodes j hj), (h.bel.alloc h.bel.size _).drew⟩
theorem forest_link {w wr : World} {t : List S34} {i : Nat} (h : Forest w wr t t.length i) (hl : 0 ≤ (t.getD i z34).f4) :
  Forest w ((wr.setCell ⟨w.heap.size + 2 + 2 * i, 7, none⟩ (.pointer (nb w.heap.size (t.getD i z34).f4.toNat))).setCell ⟨w.heap.size + 2 + 2 * i, 8, none⟩ (.pointer (nb w.heap.size (t.getD i z34).f5.toNat))) t t.length (i + 1) := by
 refine ⟨rowIs_blk h.ptrs ?_, fun j hj => ?_, ?_⟩
 ·rw [Below.heap_setCell _ _ _ _ (by show _ ≠ _; simp; omega), Below.heap_setCell _ _ _ _ (by show _ ≠ _; simp; omega)]
 ·have hn2 := h.nodes j hj
  by_cases e2 : j = i
  ·subst e2
   have h3 := put_blk (put_blk hn2 7 (.pointer (nb w.heap.size (t.getD j z34).f4.toNat))) 8 (.pointer (nb w.heap.size (t.getD j z34).f5.toNat))
   rw [h3]
   simp only [if_pos (show j < j + 1 by omega), lpV, rpV, if_pos hl]
   rfl
  ·rw [Below.heap_setCell _ _ _ _ (by show _ ≠ _; simp; omega), Below.heap_setCell _ _ _ _ (by show _ ≠ _; simp; omega), hn2]
   by_cases e : j < i
   ·simp only [if_pos e, if_pos (show j < i + 1 by omega)]
   ·simp only [if_neg e, if_neg (show ¬ j < i + 1 by omega)]
 ·exact (h.bel.setCell (p := ⟨w.heap.size + 2 + 2 * i, 7, none⟩) (by simp; omega) _).setCell (p := ⟨w.heap.size + 2 + 2 * i, 8, none⟩) (by simp; omega) _
theorem info92 : (Try.prog.info? 92).map (fun i => (i.zero, i.size, i.bytes)) = some (some (.pointer none), 1, 8) := by kernel_rfl
def GrowPost (w : World) (t : List S34) (e : Ending) (w' : World) : Prop := e = .returned (.slice (some ⟨w.heap.size, 0, none⟩) t.length t.length) ∧ Forest w w' t t.length t.length
def ndL' (n : S34) : List Value := [.int .i64 n.f0, .int .i64 n.f1, .int .i64 n.f2, .int .i64 n.f3, .int .i64 n.f4, .int .i64 n.f5]
set_option maxHeartbeats 4000000 in
set_option maxRecDepth 100000 in
theorem grow_any (A0 : Option Addr) (c0 : Nat) (t : List S34) (w : World) (hr0 : Kd.C k34 w A0 t.length t) (hn : t.length ≤ 1000000)
  (hc : ∀ i, i < t.length → 0 ≤ (t.getD i z34).f4 → (t.getD i z34).f4 < t.length ∧ 0 ≤ (t.getD i z34).f5 ∧ (t.getD i z34).f5 < t.length) :
  Calls Try.prog 49 #[.slice A0 t.length c0] w fun e w' => GrowPost w t e w' := by
 have hu34 := Try.underlying34
 have hu116 := Try.underlying116
 have HR0 := Am hr0
 have HC := Am hc
 clear hr0 hc
 have hmk := fun W => run_make_row' (P := Try.prog) 90 92 (.pointer none) 8 Try.underlying90 info92 rfl .i64 .i64 t.length (by omega) (by omega) W
 have hfin : ∀ w', Forest w w' t t.length t.length → GrowPost w t (.returned (.slice (some ⟨w.heap.size, 0, none⟩) t.length t.length)) w' := fun w' h => ⟨rfl, h⟩
 have HF := Am hfin
 clear hfin
 go_enter Try.func49, Try.ntmps49
 go_wp2
 go_loopg [13] t.length (fun gk vi wr => ∃ i : Nat, vi = .int .i64 (i : Int) ∧ i ≤ t.length ∧ Aside0 (gk + i = t.length) ∧ Aside0 (Forest w wr t i 0) ∧ Aside0 (wr.heap.size = w.heap.size + 1 + 2 * i))
 case atStart => exact ⟨0, rfl, Nat.zero_le _, ⟨rfl⟩, ⟨forest_start w t⟩, ⟨by simp⟩⟩
 case round =>
  clear hmk
  obtain ⟨i, rfl, hil, HK, HFo, HS⟩ := hrel
  by_cases hlt : i < t.length
  ·have HBL := Am HFo.out.bel
   obtain ⟨adX, eX, hx0, hx1, hx2, hx3, hx4, hx5⟩ := at_T34 HR0.out (i : Int) (by omega) (by omega)
   cases eX
   replace hx0 := (HBL.out.cell (blt w _ hx0)).trans hx0
   replace hx1 := (HBL.out.cell (blt w _ hx1)).trans hx1
   replace hx2 := (HBL.out.cell (blt w _ hx2)).trans hx2
   replace hx3 := (HBL.out.cell (blt w _ hx3)).trans hx3
   replace hx4 := (HBL.out.cell (blt w _ hx4)).trans hx4
   replace hx5 := (HBL.out.cell (blt w _ hx5)).trans hx5
   simp only [Int.toNat_natCast] at hx0 hx1 hx2 hx3 hx4 hx5
   have hcB : wr.cell? ⟨w.heap.size, i, none⟩ = some (.pointer none) := (rowIs_cell HFo.out.ptrs i hlt).trans (by simp)
   have hfB : wr.frozen? ⟨w.heap.size, i, none⟩ = false := rowIs_frz HFo.out.ptrs i
   have hBl : w.heap.size < wr.heap.size := rowIs_lt HFo.out.ptrs
   have dlt : decide (i < t.length) = true := decide_eq_true hlt
   have hst := forest_step1 hlt HFo.out HS.out (.cells (ndL' (rd_T34 t i)).toArray 34)
   have HST := Am hst
   clear hst
   go_wp2
   go_roundg (gk - 1)
   case measure => have := HK.out; omega
   case rel => exact ⟨i + 1, by go_num, by omega, ⟨by have := HK.out; omega⟩, ⟨HST.out.1⟩, ⟨HST.out.2⟩⟩
  ·obtain rfl : i = t.length := by omega
   have dlt : decide (t.length < t.length) = false := decide_eq_false (Nat.lt_irrefl _)
   clear hlt
   go_wp2
   go_loopg [28] t.length (fun gk vi wr => ∃ i : Nat, vi = .int .i64 (i : Int) ∧ i ≤ t.length ∧ Aside0 (gk + i = t.length) ∧ Aside0 (Forest w wr t t.length i))
   case atStart => exact ⟨0, rfl, Nat.zero_le _, ⟨rfl⟩, HFo⟩
   case round =>
    clear dlt HFo HS HK
    obtain ⟨i, rfl, hil, HK, HFo⟩ := hrel
    by_cases hlt : i < t.length
    ·have HBL := Am HFo.out.bel
     obtain ⟨adX, eX, hx0, hx1, hx2, hx3, hx4, hx5⟩ := at_T34 HR0.out (i : Int) (by omega) (by omega)
     cases eX
     replace hx0 := (HBL.out.cell (blt w _ hx0)).trans hx0
     replace hx1 := (HBL.out.cell (blt w _ hx1)).trans hx1
     replace hx2 := (HBL.out.cell (blt w _ hx2)).trans hx2
     replace hx3 := (HBL.out.cell (blt w _ hx3)).trans hx3
     replace hx4 := (HBL.out.cell (blt w _ hx4)).trans hx4
     replace hx5 := (HBL.out.cell (blt w _ hx5)).trans hx5
     simp only [Int.toNat_natCast] at hx0 hx1 hx2 hx3 hx4 hx5
     have dlt : decide (i < t.length) = true := decide_eq_true hlt
     have hBl : w.heap.size < wr.heap.size := rowIs_lt HFo.out.ptrs
     by_cases hL : 0 ≤ (rd_T34 t i).f4
     ·have dL : decide (0 ≤ (rd_T34 t i).f4) = true := decide_eq_true hL
      obtain ⟨hL2, hR1, hR2⟩ : (rd_T34 t i).f4 < t.length ∧ 0 ≤ (rd_T34 t i).f5 ∧ (rd_T34 t i).f5 < t.length := HC.out i hlt hL
      have HEL := Am (show (t.getD i z34).f4 = (rd_T34 t i).f4 from rfl)
      have HER := Am (show (t.getD i z34).f5 = (rd_T34 t i).f5 from rfl)
      have hpI : wr.cell? ⟨w.heap.size, i, none⟩ = some (.pointer (some ⟨w.heap.size + 2 + 2 * i, 0, none⟩)) := (rowIs_cell HFo.out.ptrs (i) (by omega)).trans (by rw [if_pos (by omega)]; rfl)
      have hpL : wr.cell? ⟨w.heap.size, (rd_T34 t i).f4.toNat, none⟩ = some (.pointer (some ⟨w.heap.size + 2 + 2 * (rd_T34 t i).f4.toNat, 0, none⟩)) := (rowIs_cell HFo.out.ptrs ((rd_T34 t i).f4.toNat) (by omega)).trans (by rw [if_pos (by omega)]; rfl)
      have hpR : wr.cell? ⟨w.heap.size, (rd_T34 t i).f5.toNat, none⟩ = some (.pointer (some ⟨w.heap.size + 2 + 2 * (rd_T34 t i).f5.toNat, 0, none⟩)) := (rowIs_cell HFo.out.ptrs ((rd_T34 t i).f5.toNat) (by omega)).trans (by rw [if_pos (by omega)]; rfl)
      have hnI := HFo.out.nodes i hlt
      have hIl : w.heap.size + 2 + 2 * i < wr.heap.size := (Array.getElem?_eq_some_iff.1 hnI).1
      have hlk := fun o => forest_alloc (forest_link HFo.out hL) o
      have HLK := Am hlk
      have HNI := Am hnI
      clear hlk hnI
      go_wp2_with (fail)
      have hbd : Below wr.heap.size wr (wr.alloc (.cells #[.int .i64 (rd_T34 t i).f0, .int .i64 (rd_T34 t i).f1, .int .i64 (rd_T34 t i).f2, .int .i64 (rd_T34 t i).f3, .int .i64 (rd_T34 t i).f4, .int .i64 (rd_T34 t i).f5] 34)).drew := (((Below.refl _ _).alloc (Nat.le_refl _) _).drew)
      have HBD := Am hbd
      clear hbd
      have hf7 := frz_of HNI.out 7
      have hf8 := frz_of HNI.out 8
      have ho7 : wr.cell? ⟨w.heap.size + 2 + 2 * i, 7, none⟩ = some (.pointer none) := (cell_of HNI.out 7).trans (by simp [ndCells])
      have ho8 : wr.cell? ⟨w.heap.size + 2 + 2 * i, 8, none⟩ = some (.pointer none) := (cell_of HNI.out 8).trans (by simp [ndCells])
      have hsa : (wr.alloc (.cells #[.int .i64 (rd_T34 t i).f0, .int .i64 (rd_T34 t i).f1, .int .i64 (rd_T34 t i).f2, .int .i64 (rd_T34 t i).f3, .int .i64 (rd_T34 t i).f4, .int .i64 (rd_T34 t i).f5] 34)).drew.cell? ⟨w.heap.size, i, none⟩ = some (.pointer (some ⟨w.heap.size + 2 + 2 * i, 0, none⟩)) := cell_al _ hpI
      have hsb : (wr.alloc (.cells #[.int .i64 (rd_T34 t i).f0, .int .i64 (rd_T34 t i).f1, .int .i64 (rd_T34 t i).f2, .int .i64 (rd_T34 t i).f3, .int .i64 (rd_T34 t i).f4, .int .i64 (rd_T34 t i).f5] 34)).drew.cell? ⟨w.heap.size, (rd_T34 t i).f4.toNat, none⟩ = some (.pointer (some ⟨w.heap.size + 2 + 2 * (rd_T34 t i).f4.toNat, 0, none⟩)) := cell_al _ hpL
      have hsc : (wr.alloc (.cells #[.int .i64 (rd_T34 t i).f0, .int .i64 (rd_T34 t i).f1, .int .i64 (rd_T34 t i).f2, .int .i64 (rd_T34 t i).f3, .int .i64 (rd_T34 t i).f4, .int .i64 (rd_T34 t i).f5] 34)).drew.cell? ⟨w.heap.size, (rd_T34 t i).f5.toNat, none⟩ = some (.pointer (some ⟨w.heap.size + 2 + 2 * (rd_T34 t i).f5.toNat, 0, none⟩)) := cell_al _ hpR
      have hsd : (wr.alloc (.cells #[.int .i64 (rd_T34 t i).f0, .int .i64 (rd_T34 t i).f1, .int .i64 (rd_T34 t i).f2, .int .i64 (rd_T34 t i).f3, .int .i64 (rd_T34 t i).f4, .int .i64 (rd_T34 t i).f5] 34)).drew.cell? ⟨wr.heap.size, 4, none⟩ = some (.int .i64 (rd_T34 t i).f4) := World.cell?_alloc_at _ _ _ _ rfl
      have hse : (wr.alloc (.cells #[.int .i64 (rd_T34 t i).f0, .int .i64 (rd_T34 t i).f1, .int .i64 (rd_T34 t i).f2, .int .i64 (rd_T34 t i).f3, .int .i64 (rd_T34 t i).f4, .int .i64 (rd_T34 t i).f5] 34)).drew.cell? ⟨wr.heap.size, 5, none⟩ = some (.int .i64 (rd_T34 t i).f5) := World.cell?_alloc_at _ _ _ _ rfl
      skip
      refine start_ (n := 24) (S := fun w' => w'.cell? ⟨w.heap.size, i, none⟩ = some (.pointer (some ⟨w.heap.size + 2 + 2 * i, 0, none⟩)) ∧ w'.cell? ⟨w.heap.size, (rd_T34 t i).f4.toNat, none⟩ = some (.pointer (some ⟨w.heap.size + 2 + 2 * (rd_T34 t i).f4.toNat, 0, none⟩)) ∧ w'.cell? ⟨w.heap.size, (rd_T34 t i).f5.toNat, none⟩ = some (.pointer (some ⟨w.heap.size + 2 + 2 * (rd_T34 t i).f5.toNat, 0, none⟩)) ∧ w'.cell? ⟨wr.heap.size, 4, none⟩ = some (.int .i64 (rd_T34 t i).f4) ∧ w'.cell? ⟨wr.heap.size, 5, none⟩ = some (.int .i64 (rd_T34 t i).f5)) (ds := [20, 23]) #[false, false, false, false, false, false, false, false, false, false, false, false, false, false, false, false, false, false, false, false, false, false, false, false] (by kernel_rfl) rfl rfl ⟨hsa, hsb, hsc, hsd, hse⟩ (fun hHeld => ?_)
      refine pu 0 36 ?_
      refine pu 1 37 ?_
      refine pu 2 38 ?_
      refine pu 4 40 ?_
      refine pu 5 41 ?_
      refine pu 6 42 ?_
      refine pu 8 44 ?_
      refine pu 9 45 ?_
      refine pu 13 49 ?_
      refine pu 14 50 ?_
      refine ta 3 39 hHeld ?_
      refine ta 7 43 hHeld ?_
      refine ta 10 46 hHeld ?_
      refine pu 11 47 ?_
      refine ta 12 48 hHeld ?_
      refine ta 15 51 hHeld ?_
      refine pu 16 52 ?_
      refine ta 17 53 hHeld ?_
      refine pu 18 54 ?_
      refine pu 19 55 ?_
      refine last_ (i := 20) (N := none) #[true, true, true, true, true, true, true, true, true, true, true, true, true, true, true, true, true, true, true, true, true, false, false, false] rfl rfl (by kernel_rfl) (by decide) (fun K hK => ?_)
      refine skip_ (w1 := ?_) (by rfl) rfl ?_ ?_
      rotate_left
      ·go_simp
       rfl
      refine hK.out _ _ ?_
      clear hK K
      refine pu 21 56 ?_
      refine pu 22 57 ?_
      refine last_ (i := 23) (N := none) #[true, true, true, true, true, true, true, true, true, true, true, true, true, true, true, true, true, true, true, true, true, true, true, true] rfl rfl (by kernel_rfl) (by decide) (fun K hK => ?_)
      refine skip_ (w1 := ?_) (by rfl) rfl ?_ ?_
      rotate_left
      ·go_simp
       rfl
      refine hK.out _ _ ?_
      clear hK K
      refine done_ (by kernel_rfl) ?_
      go_wp2
      go_roundg (gk - 1)
      case measure => have := HK.out; omega
      case rel => exact ⟨i + 1, by go_num, by omega, ⟨by have := HK.out; omega⟩, ⟨HLK.out _⟩⟩
     ·have dL : decide (0 ≤ (rd_T34 t i).f4) = false := decide_eq_false hL
      have hsk := forest_skip HFo.out hL (.cells (ndL' (rd_T34 t i)).toArray 34)
      have HSK := Am hsk
      clear hsk
      go_wp2
      go_roundg (gk - 1)
      case measure => have := HK.out; omega
      case rel => exact ⟨i + 1, by go_num, by omega, ⟨by have := HK.out; omega⟩, ⟨HSK.out⟩⟩
    ·obtain rfl : i = t.length := by omega
     have dlt : decide (t.length < t.length) = false := decide_eq_false (Nat.lt_irrefl _)
     clear hlt
     go_wp2
     go_ret
     exact HF.out _ HFo.out
end Go.Proofs.Ytgleaefhflamnaa.T
namespace Go.Proofs.Ytgleaefhflamnaa.T
open Go.RowKit Go.Proofs.YtgleaefhflamnaaW.PrintWords Go.Proofs.YtgleaefhflamnaaW.PrintLast Go.Proofs.YtgleaefhflamnaaW.PrintMore
attribute [local go_sem] max2_int min2_int max_two min_two max_three min_three max_four min_four   -- for this text's walks alone
set_option linter.unusedVariables false
set_option linter.unusedSimpArgs false
attribute [local go_sem high] eqA34
def table_crowned.f (l0 : List (S34)) (a1_0 : Int) (a1_1 : Int) (a1_2 : Int) (a1_3 : Int) (a1_4 : Int) (a1_5 : Int) : Option (Bool) := (table_isLeaf.f a1_0 a1_1 a1_2 a1_3 a1_4 a1_5).bind fun t137 => (if t137 = true then (some false) else (if a1_1 = 1 then (if a1_2 = 1 then (if 0 ≤ a1_5 then (if a1_5 < (l0.length : Int) then ((table_sentinel.f).bind fun bt139 => (some (((rd_T34 l0 a1_5).f0) == bt139.1 && (((rd_T34 l0 a1_5).f1) == bt139.2.1 && (((rd_T34 l0 a1_5).f2) == bt139.2.2.1 && (((rd_T34 l0 a1_5).f3) == bt139.2.2.2.1 && (((rd_T34 l0 a1_5).f4) == bt139.2.2.2.2.1 && (((rd_T34 l0 a1_5).f5) == bt139.2.2.2.2.2)))))))) else (none)) else (none)) else (some false)) else (some false)))
def table_crowned.T1 : Bool × List (List Nat × List Nat) := (true, [([], []), ([0], [0]), ([1], [1]), ([2, 1], [2]), ([3], [3]), ([4, 3], [3, 4]), ([5, 3], [3, 5]), ([3, 6], [3, 6]), ([7, 3], [7]), ([8], [8]), ([9, 8], [8, 9]), ([10, 8], [8, 10]), ([8, 11], [8, 11]), ([12, 8], [12]), ([13], [13]), ([13], [13]), ([15, 13], [13, 15]), ([14, 16, 13], [13, 14, 16]), ([17, 13], [13, 17]), ([13, 13], [13]), ([18, 19, 13], [13, 18, 19]), ([13, 20], [13, 20]), ([21, 19, 0, 1, 2, 3, 4, 5, 6, 7, 8, 9, 10, 11, 12, 13, 14, 15, 16, 17, 18, 19, 20, 21], [21])])
def table_crowned.B1 : List Nat := [0, 1, 3, 7, 15, 31, 63, 127, 255, 511, 1023, 2047, 4095, 8191, 16383, 16383, 49151, 131071, 262143, 16383, 1048575, 2097151, 4194303]
theorem table_crowned.tab1 : rtab .any (opsOf Try.f42 1) = table_crowned.T1 := by kernel_rfl
theorem table_crowned.bits1 : waitsOk table_crowned.T1.2 table_crowned.B1 = true := by kernel_rfl
theorem crh (a b c : Bool) : (a = false) ∨ (a = true ∧ b = false) ∨ (a = true ∧ b = true ∧ c = false) ∨ (a = true ∧ b = true ∧ c = true) := by
 cases a <;> cases b <;> cases c <;> simp
theorem crowned_inv {l0 : List S34} {n0 n1 n2 n3 n4 n5 : Int} {r : Bool} (h : table_crowned.f l0 n0 n1 n2 n3 n4 n5 = some r) : ∃ b, table_isLeaf.f n0 n1 n2 n3 n4 n5 = some b ∧ (b = true → r = false) ∧ (b = false → (n1 == 1) = false → r = false) ∧ (b = false → (n1 == 1) = true → (n2 == 1) = false → r = false) ∧
  (b = false → (n1 == 1) = true → (n2 == 1) = true → (0 ≤ n5 ∧ n5 < l0.length) ∧ ((rd_T34 l0 n5).f0 == 0 && ((rd_T34 l0 n5).f1 == 1 && ((rd_T34 l0 n5).f2 == 1 && ((rd_T34 l0 n5).f3 == 0 && ((rd_T34 l0 n5).f4 == -1 && (rd_T34 l0 n5).f5 == -1))))) = r) := by
 unfold table_crowned.f at h
 obtain ⟨b, hb, h⟩ := Option.bind_eq_some_iff.1 h
 refine ⟨b, hb, ?_, ?_, ?_, ?_⟩
 ·rintro rfl
  exact (Option.some.inj h).symm
 ·intro h0 h1
  rw [h0, if_neg (by simp), if_neg (by simpa using h1)] at h
  exact (Option.some.inj h).symm
 ·intro h0 h1 h2
  rw [h0, if_neg (by simp), if_pos (by simpa using h1), if_neg (by simpa using h2)] at h
  exact (Option.some.inj h).symm
 ·intro h0 h1 h2
  rw [h0, if_neg (by simp), if_pos (by simpa using h1), if_pos (by simpa using h2)] at h
  by_cases h3 : 0 ≤ n5
  ·rw [if_pos h3] at h
   by_cases h4 : n5 < (l0.length : Int)
   ·rw [if_pos h4] at h
    exact ⟨⟨h3, h4⟩, Option.some.inj h⟩
   ·rw [if_neg h4] at h; exact absurd h (by simp)
  ·rw [if_neg h3] at h; exact absurd h (by simp)
theorem crb {w w1 w2 : World} (h : Below w.heap.size w w1) (hb : Below w1.heap.size w1 w2) : Below w.heap.size w w2 := h.trans (hb.mono h.size)
theorem crl {w : World} {b : Nat} {o : Obj} (h : w.heap[b]? = some o) : b < w.heap.size := (Array.getElem?_eq_some_iff.1 h).1
theorem crc {W : World} {g : Nat} {t : TypeId} {a b c d e f : Value} (h : W.heap[g]? = some (.cells #[a, b, c, d, e, f] t (0, 0))) : W.cell? ⟨g, 0, none⟩ = some a ∧ W.cell? ⟨g, 1, none⟩ = some b ∧ W.cell? ⟨g, 2, none⟩ = some c ∧ W.cell? ⟨g, 3, none⟩ = some d ∧ W.cell? ⟨g, 4, none⟩ = some e ∧ W.cell? ⟨g, 5, none⟩ = some f := by
 simp [World.cell?, h]
set_option maxHeartbeats 8000000 in
set_option maxRecDepth 100000 in
theorem table_crowned.calls (A0 : Option Addr) (c0 : Nat) (l0 : List S34) (n0 n1 n2 n3 n4 n5 : Int) (r : Bool) (w : World) (hr0 : Kd.C k34 w A0 l0.length l0) (hc0 : l0.length ≤ c0) (h : table_crowned.f l0 n0 n1 n2 n3 n4 n5 = some r) :
  Calls Try.prog 42 #[.slice A0 l0.length c0, .agg #[.int .i64 n0, .int .i64 n1, .int .i64 n2, .int .i64 n3, .int .i64 n4, .int .i64 n5]] w fun e w' => e = .returned (.bool r) ∧ Below w.heap.size w w' := by
 have hu34 := Try.underlying34
 obtain ⟨b, hb, e0, e1, e2, e3⟩ := crowned_inv h
 have HR0 := Am hr0
 have HC0 := Am hc0
 have HL := Am hb
 clear hr0 hc0 h hb
 rcases crh (!b) (n1 == 1) (n2 == 1) with h0 | ⟨h0, h1⟩ | ⟨h0, h1, h2⟩ | ⟨h0, h1, h2⟩
 rotate_left 3
 ·obtain rfl : b = false := by simpa using h0
  obtain ⟨⟨q0, q1⟩, e4⟩ := e3 rfl h1 h2
  have E4 := Am e4
  obtain ⟨ad, ea, x0, x1, x2, x3, x4, x5⟩ := at_T34 HR0.out n5 q0 q1
  subst ea
  have t : ∀ {W} {a : Addr} {v : Value}, Below w.heap.size w W → w.cell? a = some v → W.cell? a = some v := fun hb h => (hb.cell (blt w _ h)).trans h
  have HX := fun {W} (hb : Below w.heap.size w W) => And.intro (t hb x0) (And.intro (t hb x1) (And.intro (t hb x2) (And.intro (t hb x3) (And.intro (t hb x4) (t hb x5)))))
  have p0 := eq_true q0
  have p1 := eq_true q1
  clear e0 e1 e2 e3 e4 x0 x1 x2 x3 x4 x5 q0 q1
  go_enter Try.func42, Try.ntmps42
  go_wp2
  refine start_ (n := 23) (S := fun W' => Below w.heap.size w W' ∧ W'.heap[w.heap.size]? = some (.cells #[.int .i64 n0, .int .i64 n1, .int .i64 n2, .int .i64 n3, .int .i64 n4, .int .i64 n5] 34 (0, 0))) (ds := []) #[false, false, false, false, false, false, false, false, false, false, false, false, false, false, false, false, false, false, false, false, false, false, false] (by kernel_rfl) rfl rfl ⟨below_drew (ba (Below.refl _ _) _), heap_alloc_new w _⟩ (fun hHeld => ?_)
  refine ta 0 5 hHeld (hy := by intro w' hs; obtain ⟨y0, y1, y2, y3, y4, y5⟩ := crc hs.2; go_simp; with_reducible rfl) ?_
  refine one_ (i := 1) (N := some 6) #[true, true, false, false, false, false, false, false, false, false, false, false, false, false, false, false, false, false, false, false, false, false, false] rfl rfl (by kernel_rfl) (by decide) (fun K hK => ?_)
  refine goes_ Try.func72 (by kernel_rfl) rfl #[.agg #[.int .i64 n0, .int .i64 n1, .int .i64 n2, .int .i64 n3, .int .i64 n4, .int .i64 n5]] (by rfl) rfl rfl (by (try simp only [List.map_toArray, List.map_cons, List.map_nil]); first | done | rfl) ?_
  refine (table_isLeaf.calls _ _ _ _ _ _ _ _ HL.out).mono ?_
  rintro e w2 ⟨rfl, hb⟩
  have hs2 := And.intro (crb hHeld.1 hb) ((hb.block _ (crl hHeld.2)).trans hHeld.2)
  refine ⟨_, rfl, ?_⟩
  refine hK.out _ _ hs2 (fun hHeld => ?_)
  clear hK K hs2 hb
  refine norm_ (a' := ?_) ?_ ?_
  rotate_left
  ·show Act.put _ (some 6) _ = _
   simp only [Act.put, sI, sZ, sS]
   rfl
  first | refine pu 2 7 ?_ | refine po 2 7 ?_
  first | refine pu 3 8 ?_ | refine po 3 8 ?_
  first | refine pu 4 9 ?_ | refine po 4 9 ?_
  first | refine ta 5 10 hHeld (hy := by intro w' hs; obtain ⟨y0, y1, y2, y3, y4, y5⟩ := crc hs.2; go_simp; with_reducible rfl) ?_ | refine po 5 10 ?_
  first | refine pu 6 11 ?_ | refine po 6 11 ?_
  first | refine pu 7 12 ?_ | refine po 7 12 ?_
  first | refine pu 8 13 ?_ | refine po 8 13 ?_
  first | refine pu 9 14 ?_ | refine po 9 14 ?_
  first | refine ta 10 15 hHeld (hy := by intro w' hs; obtain ⟨y0, y1, y2, y3, y4, y5⟩ := crc hs.2; go_simp; with_reducible rfl) ?_ | refine po 10 15 ?_
  first | refine pu 11 16 ?_ | refine po 11 16 ?_
  first | refine pu 12 17 ?_ | refine po 12 17 ?_
  first | refine pu 13 18 ?_ | refine po 13 18 ?_
  first | refine pu 14 19 ?_ | refine po 14 19 ?_
  first | refine pu 15 20 ?_ | refine po 15 20 ?_
  first | refine ta 16 21 hHeld (hy := by intro w' hs; obtain ⟨y0, y1, y2, y3, y4, y5⟩ := crc hs.2; go_simp; with_reducible rfl) ?_ | refine po 16 21 ?_
  first | refine pu 17 22 ?_ | refine po 17 22 ?_
  first | refine ta 18 23 hHeld (hy := by intro w' hs; obtain ⟨x0, x1, x2, x3, x4, x5⟩ := HX hs.1; go_simp; with_reducible rfl) ?_ | refine po 18 23 ?_
  refine one_ (i := 19) (N := some 24) #[true, true, true, true, true, true, true, true, true, true, true, true, true, true, true, true, true, true, true, true, false, false, false] rfl rfl (by kernel_rfl) (by decide) (fun K hK => ?_)
  refine goes_ Try.func43 (by kernel_rfl) rfl #[] (by rfl) rfl rfl (by (try simp only [List.map_toArray, List.map_cons, List.map_nil]); first | done | rfl) ?_
  refine (table_sentinel.calls 0 1 1 0 (-1) (-1) _ rfl).mono ?_
  rintro e w3 ⟨rfl, hb⟩
  have hs3 := And.intro (crb hHeld.1 hb) ((hb.block _ (crl hHeld.2)).trans hHeld.2)
  refine ⟨_, rfl, ?_⟩
  refine hK.out _ _ hs3 (fun hHeld => ?_)
  clear hK K hs3 hb
  refine norm_ (a' := ?_) ?_ ?_
  rotate_left
  ·show Act.put _ (some 24) _ = _
   simp only [Act.put, sI, sZ, sS]
   rfl
  refine pu 20 25 ?_
  refine pu 21 26 ?_
  refine pu 22 4 ?_
  refine done_ (by kernel_rfl) ?_
  go_wp2
  go_ret
  exact ⟨by rw [← E4.out]; rfl, hHeld.1⟩
 ·obtain rfl : b = true := by simpa using h0
  obtain rfl := e0 rfl
  clear e0 e1 e2 e3
  go_enter Try.func42, Try.ntmps42
  go_wp2
  refine start_ (n := 23) (S := fun W' => Below w.heap.size w W' ∧ W'.heap[w.heap.size]? = some (.cells #[.int .i64 n0, .int .i64 n1, .int .i64 n2, .int .i64 n3, .int .i64 n4, .int .i64 n5] 34 (0, 0))) (ds := []) #[false, false, false, false, false, false, false, false, false, false, false, false, false, false, false, false, false, false, false, false, false, false, false] (by kernel_rfl) rfl rfl ⟨below_drew (ba (Below.refl _ _) _), heap_alloc_new w _⟩ (fun hHeld => ?_)
  refine ta 0 5 hHeld (hy := by intro w' hs; obtain ⟨y0, y1, y2, y3, y4, y5⟩ := crc hs.2; go_simp; with_reducible rfl) ?_
  refine one_ (i := 1) (N := some 6) #[true, true, false, false, false, false, false, false, false, false, false, false, false, false, false, false, false, false, false, false, false, false, false] rfl rfl (by kernel_rfl) (by decide) (fun K hK => ?_)
  refine goes_ Try.func72 (by kernel_rfl) rfl #[.agg #[.int .i64 n0, .int .i64 n1, .int .i64 n2, .int .i64 n3, .int .i64 n4, .int .i64 n5]] (by rfl) rfl rfl (by (try simp only [List.map_toArray, List.map_cons, List.map_nil]); first | done | rfl) ?_
  refine (table_isLeaf.calls _ _ _ _ _ _ _ _ HL.out).mono ?_
  rintro e w2 ⟨rfl, hb⟩
  have hs2 := And.intro (crb hHeld.1 hb) ((hb.block _ (crl hHeld.2)).trans hHeld.2)
  refine ⟨_, rfl, ?_⟩
  refine hK.out _ _ hs2 (fun hHeld => ?_)
  clear hK K hs2 hb
  refine norm_ (a' := ?_) ?_ ?_
  rotate_left
  ·show Act.put _ (some 6) _ = _
   simp only [Act.put, sI, sZ, sS]
   rfl
  first | refine pu 2 7 ?_ | refine po 2 7 ?_
  first | refine pu 3 8 ?_ | refine po 3 8 ?_
  first | refine pu 4 9 ?_ | refine po 4 9 ?_
  first | refine ta 5 10 hHeld (hy := by intro w' hs; obtain ⟨y0, y1, y2, y3, y4, y5⟩ := crc hs.2; go_simp; with_reducible rfl) ?_ | refine po 5 10 ?_
  first | refine pu 6 11 ?_ | refine po 6 11 ?_
  first | refine pu 7 12 ?_ | refine po 7 12 ?_
  first | refine pu 8 13 ?_ | refine po 8 13 ?_
  first | refine pu 9 14 ?_ | refine po 9 14 ?_
  first | refine ta 10 15 hHeld (hy := by intro w' hs; obtain ⟨y0, y1, y2, y3, y4, y5⟩ := crc hs.2; go_simp; with_reducible rfl) ?_ | refine po 10 15 ?_
  first | refine pu 11 16 ?_ | refine po 11 16 ?_
  first | refine pu 12 17 ?_ | refine po 12 17 ?_
  first | refine pu 13 18 ?_ | refine po 13 18 ?_
  first | refine pu 14 19 ?_ | refine po 14 19 ?_
  first | refine pu 15 20 ?_ | refine po 15 20 ?_
  first | refine ta 16 21 hHeld (hy := by intro w' hs; obtain ⟨y0, y1, y2, y3, y4, y5⟩ := crc hs.2; go_simp; with_reducible rfl) ?_ | refine po 16 21 ?_
  first | refine pu 17 22 ?_ | refine po 17 22 ?_
  first | refine ta 18 23 hHeld (hy := by intro w' hs; obtain ⟨x0, x1, x2, x3, x4, x5⟩ := HX hs.1; go_simp; with_reducible rfl) ?_ | refine po 18 23 ?_
  refine po 19 24 ?_
  first | refine pu 20 25 ?_ | refine po 20 25 ?_
  first | refine pu 21 26 ?_ | refine po 21 26 ?_
  first | refine pu 22 4 ?_ | refine po 22 4 ?_
  refine done_ (by kernel_rfl) ?_
  go_wp2
  go_ret
  exact ⟨rfl, hHeld.1⟩
 all_goals
  obtain rfl : b = false := by simpa using h0
  have hr : r = false := by first | exact e1 rfl h1 | exact e2 rfl h1 h2
  subst hr
  clear e0 e1 e2 e3
  go_enter Try.func42, Try.ntmps42
  go_wp2
  refine start_ (n := 23) (S := fun W' => Below w.heap.size w W' ∧ W'.heap[w.heap.size]? = some (.cells #[.int .i64 n0, .int .i64 n1, .int .i64 n2, .int .i64 n3, .int .i64 n4, .int .i64 n5] 34 (0, 0))) (ds := []) #[false, false, false, false, false, false, false, false, false, false, false, false, false, false, false, false, false, false, false, false, false, false, false] (by kernel_rfl) rfl rfl ⟨below_drew (ba (Below.refl _ _) _), heap_alloc_new w _⟩ (fun hHeld => ?_)
  refine ta 0 5 hHeld (hy := by intro w' hs; obtain ⟨y0, y1, y2, y3, y4, y5⟩ := crc hs.2; go_simp; with_reducible rfl) ?_
  refine one_ (i := 1) (N := some 6) #[true, true, false, false, false, false, false, false, false, false, false, false, false, false, false, false, false, false, false, false, false, false, false] rfl rfl (by kernel_rfl) (by decide) (fun K hK => ?_)
  refine goes_ Try.func72 (by kernel_rfl) rfl #[.agg #[.int .i64 n0, .int .i64 n1, .int .i64 n2, .int .i64 n3, .int .i64 n4, .int .i64 n5]] (by rfl) rfl rfl (by (try simp only [List.map_toArray, List.map_cons, List.map_nil]); first | done | rfl) ?_
  refine (table_isLeaf.calls _ _ _ _ _ _ _ _ HL.out).mono ?_
  rintro e w2 ⟨rfl, hb⟩
  have hs2 := And.intro (crb hHeld.1 hb) ((hb.block _ (crl hHeld.2)).trans hHeld.2)
  refine ⟨_, rfl, ?_⟩
  refine hK.out _ _ hs2 (fun hHeld => ?_)
  clear hK K hs2 hb
  refine norm_ (a' := ?_) ?_ ?_
  rotate_left
  ·show Act.put _ (some 6) _ = _
   simp only [Act.put, sI, sZ, sS]
   rfl
  first | refine pu 2 7 ?_ | refine po 2 7 ?_
  first | refine pu 3 8 ?_ | refine po 3 8 ?_
  first | refine pu 4 9 ?_ | refine po 4 9 ?_
  first | refine ta 5 10 hHeld (hy := by intro w' hs; obtain ⟨y0, y1, y2, y3, y4, y5⟩ := crc hs.2; go_simp; with_reducible rfl) ?_ | refine po 5 10 ?_
  first | refine pu 6 11 ?_ | refine po 6 11 ?_
  first | refine pu 7 12 ?_ | refine po 7 12 ?_
  first | refine pu 8 13 ?_ | refine po 8 13 ?_
  first | refine pu 9 14 ?_ | refine po 9 14 ?_
  first | refine ta 10 15 hHeld (hy := by intro w' hs; obtain ⟨y0, y1, y2, y3, y4, y5⟩ := crc hs.2; go_simp; with_reducible rfl) ?_ | refine po 10 15 ?_
  first | refine pu 11 16 ?_ | refine po 11 16 ?_
  first | refine pu 12 17 ?_ | refine po 12 17 ?_
  first | refine pu 13 18 ?_ | refine po 13 18 ?_
  first | refine pu 14 19 ?_ | refine po 14 19 ?_
  first | refine pu 15 20 ?_ | refine po 15 20 ?_
  first | refine ta 16 21 hHeld (hy := by intro w' hs; obtain ⟨y0, y1, y2, y3, y4, y5⟩ := crc hs.2; go_simp; with_reducible rfl) ?_ | refine po 16 21 ?_
  first | refine pu 17 22 ?_ | refine po 17 22 ?_
  first | refine ta 18 23 hHeld (hy := by intro w' hs; obtain ⟨x0, x1, x2, x3, x4, x5⟩ := HX hs.1; go_simp; with_reducible rfl) ?_ | refine po 18 23 ?_
  refine po 19 24 ?_
  first | refine pu 20 25 ?_ | refine po 20 25 ?_
  first | refine pu 21 26 ?_ | refine po 21 26 ?_
  first | refine pu 22 4 ?_ | refine po 22 4 ?_
  refine done_ (by kernel_rfl) ?_
  go_wp2
  go_ret
  exact ⟨rfl, hHeld.1⟩
end Go.Proofs.Ytgleaefhflamnaa.T
