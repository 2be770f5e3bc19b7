/- A part of the proof: see YtgleaefhflamnaaLawStepsKeeps. -/
import Derived.LaidEqlPtr
import Derived.Test.YtgleaefhflamnaaZk1
set_option linter.unusedVariables false
set_option linter.unusedSimpArgs false
set_option maxHeartbeats 32000000
set_option maxRecDepth 100000
namespace Go.Proofs.Ytgleaefhflamnaa.T
open Go.RowKit Go.Proofs.YtgleaefhflamnaaW.PrintWords Go.Proofs.YtgleaefhflamnaaW.PrintLast Go.Proofs.YtgleaefhflamnaaW.PrintMore
attribute [local go_sem] Try.underlying34 Try.underlying62 Try.underlying111 Try.underlying116
section
attribute [local go_sem] max2_int min2_int max_two min_two max_three min_three max_four min_four
attribute [local go_sem high] eqA34
def table_Root.l0 : Nat → List (S34) → List Int → Int → Int → Int → Int → Int → Int → Int → Int → Option (Int × Int)
 | 0, _, _, _, _, _, _, _, _, _, _ => none
 | k + 1, x0, x36, x37, x38, x151000, x151001, x151002, x151003, x151004, x151005 => if x38 < x37 then (if 0 ≤ x38 then (if x38 < (x36.length : Int) then (if 0 ≤ (rd x36 x38) then (if (rd x36 x38) < (x0.length : Int) then (if ((rd_T34 x0 (rd x36 x38)).f1) = 0 then (table_Root.l0 k x0 x36 x37 (wrap64 (x38 + 1)) x151000 x151001 x151002 x151003 x151004 x151005) else (some (0, 3))) else (none)) else (none)) else (none)) else (none)) else (some (x151004, 0))
def table_Root.f (k : Nat) (l0 : List (S34)) : Option (Int × Int) := (table_Check.f k l0).bind fun t145 => (if t145 = 0 then (if 0 < (l0.length : Int) then ((table_crowned.f l0 ((rd_T34 l0 0).f0) ((rd_T34 l0 0).f1) ((rd_T34 l0 0).f2) ((rd_T34 l0 0).f3) ((rd_T34 l0 0).f4) ((rd_T34 l0 0).f5)).bind fun t147 => (if t147 = true then (if 0 ≤ ((rd_T34 l0 0).f4) then (if ((rd_T34 l0 0).f4) < (l0.length : Int) then ((table_sentinel.f).bind fun bt151 => (if (((rd_T34 l0 ((rd_T34 l0 0).f4)).f0) == bt151.1 && (((rd_T34 l0 ((rd_T34 l0 0).f4)).f1) == bt151.2.1 && (((rd_T34 l0 ((rd_T34 l0 0).f4)).f2) == bt151.2.2.1 && (((rd_T34 l0 ((rd_T34 l0 0).f4)).f3) == bt151.2.2.2.1 && (((rd_T34 l0 ((rd_T34 l0 0).f4)).f4) == bt151.2.2.2.2.1 && (((rd_T34 l0 ((rd_T34 l0 0).f4)).f5) == bt151.2.2.2.2.2)))))) = true then (some (0, 4)) else ((table_crowned.f l0 ((rd_T34 l0 ((rd_T34 l0 0).f4)).f0) ((rd_T34 l0 ((rd_T34 l0 0).f4)).f1) ((rd_T34 l0 ((rd_T34 l0 0).f4)).f2) ((rd_T34 l0 ((rd_T34 l0 0).f4)).f3) ((rd_T34 l0 ((rd_T34 l0 0).f4)).f4) ((rd_T34 l0 ((rd_T34 l0 0).f4)).f5)).bind fun t157 => (if t157 = true then ((table_order.f k l0 ((rd_T34 l0 ((rd_T34 l0 0).f4)).f4)).bind fun t158 => (table_Root.l0 k l0 t158 (t158.length : Int) 0 ((rd_T34 l0 ((rd_T34 l0 0).f4)).f0) ((rd_T34 l0 ((rd_T34 l0 0).f4)).f1) ((rd_T34 l0 ((rd_T34 l0 0).f4)).f2) ((rd_T34 l0 ((rd_T34 l0 0).f4)).f3) ((rd_T34 l0 ((rd_T34 l0 0).f4)).f4) ((rd_T34 l0 ((rd_T34 l0 0).f4)).f5))) else (some (0, 3)))))) else (none)) else (none)) else (some (0, 3)))) else (none)) else (some (0, t145)))
theorem table_Root.mono_l : ∀ k, (∀ y0 y1 y2 y3 y4 y5 y6 y7 y8 y9, LeO (table_Root.l0 k y0 y1 y2 y3 y4 y5 y6 y7 y8 y9) (table_Root.l0 (k + 1) y0 y1 y2 y3 y4 y5 y6 y7 y8 y9))
 | 0 => fun _ _ _ _ _ _ _ _ _ _ r h => by simp [table_Root.l0] at h
 | k + 1 => by
  have ih0 := table_Root.mono_l k
  ·intro y0 y1 y2 y3 y4 y5 y6 y7 y8 y9
   unfold table_Root.l0
   repeat' first
   | (with_reducible exact ih0 _ _ _ _ _ _ _ _ _ _)
   | (with_reducible exact table_Check.mono _ _)
   | (with_reducible exact table_order.mono _ _ _)
   | (with_reducible exact LeO.refl _)
   | (with_reducible exact LeO.none _)
   | (with_reducible refine LeO.ite ?_ ?_)
   | (with_reducible refine LeO.bind ?_ (fun _ => ?_))
   | exact ih0 _ _ _ _ _ _ _ _ _ _
   | exact table_Check.mono _ _
   | exact table_order.mono _ _ _
   | exact LeO.none _
   | refine LeO.ite ?_ ?_
   | refine LeO.bind ?_ (fun _ => ?_)
theorem table_Root.mono : ∀ a0 k, LeO (table_Root.f k a0) (table_Root.f (k + 1) a0) := by
 intro a0 k
 have ih0 := table_Root.mono_l k
 unfold table_Root.f
 repeat' first
   | (with_reducible exact ih0 _ _ _ _ _ _ _ _ _ _)
   | (with_reducible exact table_Check.mono _ _)
   | (with_reducible exact table_order.mono _ _ _)
   | (with_reducible exact LeO.refl _)
   | (with_reducible exact LeO.none _)
   | (with_reducible refine LeO.ite ?_ ?_)
   | (with_reducible refine LeO.bind ?_ (fun _ => ?_))
   | exact ih0 _ _ _ _ _ _ _ _ _ _
   | exact table_Check.mono _ _
   | exact table_order.mono _ _ _
   | exact LeO.none _
   | refine LeO.ite ?_ ?_
   | refine LeO.bind ?_ (fun _ => ?_)
theorem table_Root.calls (k : Nat) (A0 : Option Addr) (c0 : Nat) (l0 : List (S34)) (r1 : Int) (r2 : Int) (w : World) (hr0 : Kd.C k34 w A0 l0.length l0) (hc0 : l0.length ≤ c0) (h : table_Root.f k l0 = some (r1, r2)) :
  Calls Try.prog 12 #[.slice A0 l0.length c0] w (RB w (.tuple #[.int .i64 r1, .int .i64 r2])) := by
 have HR0 := Am hr0
 have HC0 := Am hc0
 clear hr0 hc0
 have HB := Am (Below.refl w.heap.size w)
 have H : ((table_Check.f k l0).bind fun t145 => (if t145 = 0 then (if 0 < (l0.length : Int) then ((table_crowned.f l0 ((rd_T34 l0 0).f0) ((rd_T34 l0 0).f1) ((rd_T34 l0 0).f2) ((rd_T34 l0 0).f3) ((rd_T34 l0 0).f4) ((rd_T34 l0 0).f5)).bind fun t147 => (if t147 = true then (if 0 ≤ ((rd_T34 l0 0).f4) then (if ((rd_T34 l0 0).f4) < (l0.length : Int) then ((table_sentinel.f).bind fun bt151 => (if (((rd_T34 l0 ((rd_T34 l0 0).f4)).f0) == bt151.1 && (((rd_T34 l0 ((rd_T34 l0 0).f4)).f1) == bt151.2.1 && (((rd_T34 l0 ((rd_T34 l0 0).f4)).f2) == bt151.2.2.1 && (((rd_T34 l0 ((rd_T34 l0 0).f4)).f3) == bt151.2.2.2.1 && (((rd_T34 l0 ((rd_T34 l0 0).f4)).f4) == bt151.2.2.2.2.1 && (((rd_T34 l0 ((rd_T34 l0 0).f4)).f5) == bt151.2.2.2.2.2)))))) = true then (some (0, 4)) else ((table_crowned.f l0 ((rd_T34 l0 ((rd_T34 l0 0).f4)).f0) ((rd_T34 l0 ((rd_T34 l0 0).f4)).f1) ((rd_T34 l0 ((rd_T34 l0 0).f4)).f2) ((rd_T34 l0 ((rd_T34 l0 0).f4)).f3) ((rd_T34 l0 ((rd_T34 l0 0).f4)).f4) ((rd_T34 l0 ((rd_T34 l0 0).f4)).f5)).bind fun t157 => (if t157 = true then ((table_order.f k l0 ((rd_T34 l0 ((rd_T34 l0 0).f4)).f4)).bind fun t158 => (table_Root.l0 k l0 t158 (t158.length : Int) 0 ((rd_T34 l0 ((rd_T34 l0 0).f4)).f0) ((rd_T34 l0 ((rd_T34 l0 0).f4)).f1) ((rd_T34 l0 ((rd_T34 l0 0).f4)).f2) ((rd_T34 l0 ((rd_T34 l0 0).f4)).f3) ((rd_T34 l0 ((rd_T34 l0 0).f4)).f4) ((rd_T34 l0 ((rd_T34 l0 0).f4)).f5))) else (some (0, 3)))))) else (none)) else (none)) else (some (0, 3)))) else (none)) else (some (0, t145)))) = some (r1, r2) := h
 clear h
 obtain ⟨t145, A2, H⟩ := bo H
 by_cases c3 : t145 = 0
 ·rw [if_pos c3] at H
  obtain ⟨c3b0, c3b1⟩ := eq2 c3
  clear c3
  obtain ⟨c4, H⟩ := gd H
  have c4b0 := decide_eq_true c4
  have c4b1 : decide (0 < l0.length) = true := decide_eq_true (by omega)
  clear c4
  obtain ⟨t147, A5, H⟩ := bo H
  by_cases c6 : t147 = true
  ·subst c6
   rw [if_pos rfl] at H
   obtain ⟨c7, H⟩ := gd H
   have c7b0 := decide_eq_true c7
   clear c7
   obtain ⟨c8, H⟩ := gd H
   have c8b0 := decide_eq_true c8
   clear c8
   obtain ⟨⟨t151, t152, t153, t154, t155, t156⟩, A9, H⟩ := bo H
   dsimp only at H
   by_cases c10 : (((rd_T34 l0 ((rd_T34 l0 0).f4)).f0) == t151 && (((rd_T34 l0 ((rd_T34 l0 0).f4)).f1) == t152 && (((rd_T34 l0 ((rd_T34 l0 0).f4)).f2) == t153 && (((rd_T34 l0 ((rd_T34 l0 0).f4)).f3) == t154 && (((rd_T34 l0 ((rd_T34 l0 0).f4)).f4) == t155 && (((rd_T34 l0 ((rd_T34 l0 0).f4)).f5) == t156)))))) = true
   ·rw [if_pos c10] at H
    have c10b0 : (((rd_T34 l0 ((rd_T34 l0 0).f4)).f0) == t151 && (((rd_T34 l0 ((rd_T34 l0 0).f4)).f1) == t152 && (((rd_T34 l0 ((rd_T34 l0 0).f4)).f2) == t153 && (((rd_T34 l0 ((rd_T34 l0 0).f4)).f3) == t154 && (((rd_T34 l0 ((rd_T34 l0 0).f4)).f4) == t155 && (((rd_T34 l0 ((rd_T34 l0 0).f4)).f5) == t156)))))) = true := c10
    (try (have c10b1 : decide (((rd_T34 l0 ((rd_T34 l0 0).f4)).f0) = t151 && (((rd_T34 l0 ((rd_T34 l0 0).f4)).f1) == t152 && (((rd_T34 l0 ((rd_T34 l0 0).f4)).f2) == t153 && (((rd_T34 l0 ((rd_T34 l0 0).f4)).f3) == t154 && (((rd_T34 l0 ((rd_T34 l0 0).f4)).f4) == t155 && (((rd_T34 l0 ((rd_T34 l0 0).f4)).f5) == t156)))))) = true := by simpa using c10))
    (try (have c10b2 : (((rd_T34 l0 ((rd_T34 l0 0).f4)).f0) == t151 && (((rd_T34 l0 ((rd_T34 l0 0).f4)).f1) == t152 && (((rd_T34 l0 ((rd_T34 l0 0).f4)).f2) == t153 && (((rd_T34 l0 ((rd_T34 l0 0).f4)).f3) == t154 && (((rd_T34 l0 ((rd_T34 l0 0).f4)).f4) == t155 && (((rd_T34 l0 ((rd_T34 l0 0).f4)).f5) == t156)))))) = true := by simpa using c10))
    clear c10
    simp only [Option.some.injEq, Prod.mk.injEq] at H
    obtain ⟨rfl, rfl⟩ := H
    go_enter Try.func12, Try.ntmps12
    try go_wp2_with (first | ((with_reducible refine gc 41 rfl ?_); refine gL 9 Try.func41 #[.slice A0 l0.length c0] ?_; (with_reducible refine (table_Check.calls k _ _ l0 t145 _ ?side1 ?side2 A2.out).mono ?_); (case side1 => exact kc HR0.out); (case side2 => exact HC0.out); rintro e w11 ⟨rfl, hb⟩; refine ⟨_, rfl, ?_⟩; replace HB := Am (below_step bq hb); (try clear hb); have p146 : 0 ≤ (0 : Int) := (by omega); have q146 : 0 < (l0.length : Int) := da; obtain ⟨ad146, e146, hx146_0, hx146_1, hx146_2, hx146_3, hx146_4, hx146_5⟩ := t6 HB.out HR0.out 0 p146 q146; cases e146; have qi146 : (0 < l0.length) = True := eq_true (by omega); (try simp only [show ((0 : Int)).toNat = 0 from rfl, show 0 * 6 = 0 from rfl, Addr.add_zero'] at hx146_0 hx146_1 hx146_2 hx146_3 hx146_4 hx146_5); replace p146 := eq_true p146; replace q146 := eq_true q146) | ((with_reducible refine gc 42 rfl ?_); refine gL 17 Try.func42 #[.slice (some ad146) l0.length c0, .agg #[.int .i64 ((rd_T34 l0 0).f0), .int .i64 ((rd_T34 l0 0).f1), .int .i64 ((rd_T34 l0 0).f2), .int .i64 ((rd_T34 l0 0).f3), .int .i64 ((rd_T34 l0 0).f4), .int .i64 ((rd_T34 l0 0).f5)]] ?_; (with_reducible refine (table_crowned.calls _ _ l0 _ _ _ _ _ _ true _ ?side1 ?side2 A5.out).mono ?_); (case side1 => exact kc (Kd.C_below HR0.out HB.out)); (case side2 => exact HC0.out); rintro e w12 ⟨rfl, hb⟩; refine ⟨_, rfl, ?_⟩; replace HB := Am (below_step bq hb); (try clear hb); have p148 : 0 ≤ (0 : Int) := (by omega); have q148 : 0 < (l0.length : Int) := da; obtain ⟨ad148, e148, hx148_0, hx148_1, hx148_2, hx148_3, hx148_4, hx148_5⟩ := t6 HB.out HR0.out 0 p148 q148; obtain rfl : ad146 = ad148 := (by injection e148); have qi148 : (0 < l0.length) = True := eq_true (by omega); (try simp only [show ((0 : Int)).toNat = 0 from rfl, show 0 * 6 = 0 from rfl, Addr.add_zero'] at hx148_0 hx148_1 hx148_2 hx148_3 hx148_4 hx148_5); replace p148 := eq_true p148; replace q148 := eq_true q148; obtain ⟨ad149, e149, hx149_0, hx149_1, hx149_2, hx149_3, hx149_4, hx149_5, p149, q149⟩ := t6d HB.out HR0.out ((rd_T34 l0 0).f4); obtain rfl : ad146 = ad149 := (by injection e149)) | ((with_reducible refine gs 5 rfl ?_); refine bE 5 (cs := #[.int .i64 0, .int .i64 0, .int .i64 0, .int .i64 0, .int .i64 0, .int .i64 0]) (t := 34) ?_; intro gb150 hg w13 hbox hb; obtain ⟨n0_, BK150, GW150, GE150⟩ := bx hg hbox hb; clear HB; have HB := n0_; clear n0_ hb hbox hg; obtain ⟨z14_0, z14_1, z14_2, z14_3, z14_4, z14_5, f14_0, f14_1, f14_2, f14_3, f14_4, f14_5⟩ := cf6 BK150.out))
    have n0_ : Aside0 (((((((w13.setCell ⟨gb150, 0, none⟩ (.int .i64 ((rd_T34 l0 ((rd_T34 l0 0).f4)).f0))).setCell ⟨gb150, 1, none⟩ (.int .i64 ((rd_T34 l0 ((rd_T34 l0 0).f4)).f1))).setCell ⟨gb150, 2, none⟩ (.int .i64 ((rd_T34 l0 ((rd_T34 l0 0).f4)).f2))).setCell ⟨gb150, 3, none⟩ (.int .i64 ((rd_T34 l0 ((rd_T34 l0 0).f4)).f3))).setCell ⟨gb150, 4, none⟩ (.int .i64 ((rd_T34 l0 ((rd_T34 l0 0).f4)).f4))).setCell ⟨gb150, 5, none⟩ (.int .i64 ((rd_T34 l0 ((rd_T34 l0 0).f4)).f5))).heap[gb150]? = some (.cells #[.int .i64 ((rd_T34 l0 ((rd_T34 l0 0).f4)).f0), .int .i64 ((rd_T34 l0 ((rd_T34 l0 0).f4)).f1), .int .i64 ((rd_T34 l0 ((rd_T34 l0 0).f4)).f2), .int .i64 ((rd_T34 l0 ((rd_T34 l0 0).f4)).f3), .int .i64 ((rd_T34 l0 ((rd_T34 l0 0).f4)).f4), .int .i64 ((rd_T34 l0 ((rd_T34 l0 0).f4)).f5)] 34 (0, 0))) := ⟨bp6 BK150.out⟩
    have n1_ : Aside0 (Below w.heap.size w ((((((w13.setCell ⟨gb150, 0, none⟩ (.int .i64 ((rd_T34 l0 ((rd_T34 l0 0).f4)).f0))).setCell ⟨gb150, 1, none⟩ (.int .i64 ((rd_T34 l0 ((rd_T34 l0 0).f4)).f1))).setCell ⟨gb150, 2, none⟩ (.int .i64 ((rd_T34 l0 ((rd_T34 l0 0).f4)).f2))).setCell ⟨gb150, 3, none⟩ (.int .i64 ((rd_T34 l0 ((rd_T34 l0 0).f4)).f3))).setCell ⟨gb150, 4, none⟩ (.int .i64 ((rd_T34 l0 ((rd_T34 l0 0).f4)).f4))).setCell ⟨gb150, 5, none⟩ (.int .i64 ((rd_T34 l0 ((rd_T34 l0 0).f4)).f5)))) := ⟨bs⟩
    (try clear BK150)
    (try clear HB)
    generalize ((((((w13.setCell ⟨gb150, 0, none⟩ (.int .i64 ((rd_T34 l0 ((rd_T34 l0 0).f4)).f0))).setCell ⟨gb150, 1, none⟩ (.int .i64 ((rd_T34 l0 ((rd_T34 l0 0).f4)).f1))).setCell ⟨gb150, 2, none⟩ (.int .i64 ((rd_T34 l0 ((rd_T34 l0 0).f4)).f2))).setCell ⟨gb150, 3, none⟩ (.int .i64 ((rd_T34 l0 ((rd_T34 l0 0).f4)).f3))).setCell ⟨gb150, 4, none⟩ (.int .i64 ((rd_T34 l0 ((rd_T34 l0 0).f4)).f4))).setCell ⟨gb150, 5, none⟩ (.int .i64 ((rd_T34 l0 ((rd_T34 l0 0).f4)).f5))) = w15 at n0_ n1_ ⊢
    have BK150 := n0_
    have HB := n1_
    clear n0_ n1_
    replace BK150 := Am (blk_drew BK150.out)
    replace HB := Am (bd HB.out)
    refine sT 3 [] (S := fun w' => w'.cell? ⟨gb150, 0, none⟩ = some (.int .i64 ((rd_T34 l0 ((rd_T34 l0 0).f4)).f0)) ∧ w'.cell? ⟨gb150, 1, none⟩ = some (.int .i64 ((rd_T34 l0 ((rd_T34 l0 0).f4)).f1)) ∧ w'.cell? ⟨gb150, 2, none⟩ = some (.int .i64 ((rd_T34 l0 ((rd_T34 l0 0).f4)).f2)) ∧ w'.cell? ⟨gb150, 3, none⟩ = some (.int .i64 ((rd_T34 l0 ((rd_T34 l0 0).f4)).f3)) ∧ w'.cell? ⟨gb150, 4, none⟩ = some (.int .i64 ((rd_T34 l0 ((rd_T34 l0 0).f4)).f4)) ∧ w'.cell? ⟨gb150, 5, none⟩ = some (.int .i64 ((rd_T34 l0 ((rd_T34 l0 0).f4)).f5))) (cz6 BK150.out) fun hHeld => ?_
    generalize w15.drew = w16 at BK150 HB hHeld ⊢
    refine ta 0 26 hHeld ?_
    refine on 1 27 fun K hK => ?_
    refine gO Try.func43 #[] ?_
    with_reducible refine (table_sentinel.calls  t151 t152 t153 t154 t155 t156 _ A9.out).mono ?_
    rintro e w17 ⟨rfl, hb⟩
    refine ⟨_, rfl, ?_⟩
    replace BK150 := Am (blk_below (bk BK150.out) hb)
    replace HB := Am (below_step bs hb)
    (try clear hb)
    refine hK.out _ _ (cz6 BK150.out) (fun hHeld => ?_)
    clear hK K
    refine nm 27 ?_
    refine pu 2 28 ?_
    refine done_ (by kernel_rfl) ?_
    try go_wp2
    go_ret2
    exact ⟨er, bs⟩
   ·rw [if_neg c10] at H
    have c10b0 : (((rd_T34 l0 ((rd_T34 l0 0).f4)).f0) == t151 && (((rd_T34 l0 ((rd_T34 l0 0).f4)).f1) == t152 && (((rd_T34 l0 ((rd_T34 l0 0).f4)).f2) == t153 && (((rd_T34 l0 ((rd_T34 l0 0).f4)).f3) == t154 && (((rd_T34 l0 ((rd_T34 l0 0).f4)).f4) == t155 && (((rd_T34 l0 ((rd_T34 l0 0).f4)).f5) == t156)))))) = false := by simpa using c10
    (try (have c10b1 : decide (((rd_T34 l0 ((rd_T34 l0 0).f4)).f0) = t151 && (((rd_T34 l0 ((rd_T34 l0 0).f4)).f1) == t152 && (((rd_T34 l0 ((rd_T34 l0 0).f4)).f2) == t153 && (((rd_T34 l0 ((rd_T34 l0 0).f4)).f3) == t154 && (((rd_T34 l0 ((rd_T34 l0 0).f4)).f4) == t155 && (((rd_T34 l0 ((rd_T34 l0 0).f4)).f5) == t156)))))) = false := by simpa using c10))
    (try (have c10b2 : (((rd_T34 l0 ((rd_T34 l0 0).f4)).f0) == t151 && (((rd_T34 l0 ((rd_T34 l0 0).f4)).f1) == t152 && (((rd_T34 l0 ((rd_T34 l0 0).f4)).f2) == t153 && (((rd_T34 l0 ((rd_T34 l0 0).f4)).f3) == t154 && (((rd_T34 l0 ((rd_T34 l0 0).f4)).f4) == t155 && (((rd_T34 l0 ((rd_T34 l0 0).f4)).f5) == t156)))))) = false := by simpa using c10))
    (try (have c10b3 : ¬ (((rd_T34 l0 ((rd_T34 l0 0).f4)).f0) = t151 && (((rd_T34 l0 ((rd_T34 l0 0).f4)).f1) == t152 && (((rd_T34 l0 ((rd_T34 l0 0).f4)).f2) == t153 && (((rd_T34 l0 ((rd_T34 l0 0).f4)).f3) == t154 && (((rd_T34 l0 ((rd_T34 l0 0).f4)).f4) == t155 && (((rd_T34 l0 ((rd_T34 l0 0).f4)).f5) == t156)))))) := by simpa using c10))
    clear c10
    obtain ⟨t157, A18, H⟩ := bo H
    by_cases c19 : t157 = true
    ·subst c19
     rw [if_pos rfl] at H
     obtain ⟨t158, A20, H⟩ := bo H
     have H' := Am H
     clear H
     go_enter Try.func12, Try.ntmps12
     try go_wp2_with (first | ((with_reducible refine gc 41 rfl ?_); refine gL 9 Try.func41 #[.slice A0 l0.length c0] ?_; (with_reducible refine (table_Check.calls k _ _ l0 t145 _ ?side1 ?side2 A2.out).mono ?_); (case side1 => exact kc HR0.out); (case side2 => exact HC0.out); rintro e w21 ⟨rfl, hb⟩; refine ⟨_, rfl, ?_⟩; replace HB := Am (below_step bq hb); (try clear hb); have p146 : 0 ≤ (0 : Int) := (by omega); have q146 : 0 < (l0.length : Int) := da; obtain ⟨ad146, e146, hx146_0, hx146_1, hx146_2, hx146_3, hx146_4, hx146_5⟩ := t6 HB.out HR0.out 0 p146 q146; cases e146; have qi146 : (0 < l0.length) = True := eq_true (by omega); (try simp only [show ((0 : Int)).toNat = 0 from rfl, show 0 * 6 = 0 from rfl, Addr.add_zero'] at hx146_0 hx146_1 hx146_2 hx146_3 hx146_4 hx146_5); replace p146 := eq_true p146; replace q146 := eq_true q146) | ((with_reducible refine gc 42 rfl ?_); refine gL 17 Try.func42 #[.slice (some ad146) l0.length c0, .agg #[.int .i64 ((rd_T34 l0 0).f0), .int .i64 ((rd_T34 l0 0).f1), .int .i64 ((rd_T34 l0 0).f2), .int .i64 ((rd_T34 l0 0).f3), .int .i64 ((rd_T34 l0 0).f4), .int .i64 ((rd_T34 l0 0).f5)]] ?_; (with_reducible refine (table_crowned.calls _ _ l0 _ _ _ _ _ _ true _ ?side1 ?side2 A5.out).mono ?_); (case side1 => exact kc (Kd.C_below HR0.out HB.out)); (case side2 => exact HC0.out); rintro e w22 ⟨rfl, hb⟩; refine ⟨_, rfl, ?_⟩; replace HB := Am (below_step bq hb); (try clear hb); have p148 : 0 ≤ (0 : Int) := (by omega); have q148 : 0 < (l0.length : Int) := da; obtain ⟨ad148, e148, hx148_0, hx148_1, hx148_2, hx148_3, hx148_4, hx148_5⟩ := t6 HB.out HR0.out 0 p148 q148; obtain rfl : ad146 = ad148 := (by injection e148); have qi148 : (0 < l0.length) = True := eq_true (by omega); (try simp only [show ((0 : Int)).toNat = 0 from rfl, show 0 * 6 = 0 from rfl, Addr.add_zero'] at hx148_0 hx148_1 hx148_2 hx148_3 hx148_4 hx148_5); replace p148 := eq_true p148; replace q148 := eq_true q148; obtain ⟨ad149, e149, hx149_0, hx149_1, hx149_2, hx149_3, hx149_4, hx149_5, p149, q149⟩ := t6d HB.out HR0.out ((rd_T34 l0 0).f4); obtain rfl : ad146 = ad149 := (by injection e149)) | ((with_reducible refine gs 5 rfl ?_); refine bE 5 (cs := #[.int .i64 0, .int .i64 0, .int .i64 0, .int .i64 0, .int .i64 0, .int .i64 0]) (t := 34) ?_; intro gb150 hg w23 hbox hb; obtain ⟨n0_, BK150, GW150, GE150⟩ := bx hg hbox hb; clear HB; have HB := n0_; clear n0_ hb hbox hg; obtain ⟨z24_0, z24_1, z24_2, z24_3, z24_4, z24_5, f24_0, f24_1, f24_2, f24_3, f24_4, f24_5⟩ := cf6 BK150.out))
     have n0_ : Aside0 (((((((w23.setCell ⟨gb150, 0, none⟩ (.int .i64 ((rd_T34 l0 ((rd_T34 l0 0).f4)).f0))).setCell ⟨gb150, 1, none⟩ (.int .i64 ((rd_T34 l0 ((rd_T34 l0 0).f4)).f1))).setCell ⟨gb150, 2, none⟩ (.int .i64 ((rd_T34 l0 ((rd_T34 l0 0).f4)).f2))).setCell ⟨gb150, 3, none⟩ (.int .i64 ((rd_T34 l0 ((rd_T34 l0 0).f4)).f3))).setCell ⟨gb150, 4, none⟩ (.int .i64 ((rd_T34 l0 ((rd_T34 l0 0).f4)).f4))).setCell ⟨gb150, 5, none⟩ (.int .i64 ((rd_T34 l0 ((rd_T34 l0 0).f4)).f5))).heap[gb150]? = some (.cells #[.int .i64 ((rd_T34 l0 ((rd_T34 l0 0).f4)).f0), .int .i64 ((rd_T34 l0 ((rd_T34 l0 0).f4)).f1), .int .i64 ((rd_T34 l0 ((rd_T34 l0 0).f4)).f2), .int .i64 ((rd_T34 l0 ((rd_T34 l0 0).f4)).f3), .int .i64 ((rd_T34 l0 ((rd_T34 l0 0).f4)).f4), .int .i64 ((rd_T34 l0 ((rd_T34 l0 0).f4)).f5)] 34 (0, 0))) := ⟨bp6 BK150.out⟩
     have n1_ : Aside0 (Below w.heap.size w ((((((w23.setCell ⟨gb150, 0, none⟩ (.int .i64 ((rd_T34 l0 ((rd_T34 l0 0).f4)).f0))).setCell ⟨gb150, 1, none⟩ (.int .i64 ((rd_T34 l0 ((rd_T34 l0 0).f4)).f1))).setCell ⟨gb150, 2, none⟩ (.int .i64 ((rd_T34 l0 ((rd_T34 l0 0).f4)).f2))).setCell ⟨gb150, 3, none⟩ (.int .i64 ((rd_T34 l0 ((rd_T34 l0 0).f4)).f3))).setCell ⟨gb150, 4, none⟩ (.int .i64 ((rd_T34 l0 ((rd_T34 l0 0).f4)).f4))).setCell ⟨gb150, 5, none⟩ (.int .i64 ((rd_T34 l0 ((rd_T34 l0 0).f4)).f5)))) := ⟨bs⟩
     (try clear BK150)
     (try clear HB)
     generalize ((((((w23.setCell ⟨gb150, 0, none⟩ (.int .i64 ((rd_T34 l0 ((rd_T34 l0 0).f4)).f0))).setCell ⟨gb150, 1, none⟩ (.int .i64 ((rd_T34 l0 ((rd_T34 l0 0).f4)).f1))).setCell ⟨gb150, 2, none⟩ (.int .i64 ((rd_T34 l0 ((rd_T34 l0 0).f4)).f2))).setCell ⟨gb150, 3, none⟩ (.int .i64 ((rd_T34 l0 ((rd_T34 l0 0).f4)).f3))).setCell ⟨gb150, 4, none⟩ (.int .i64 ((rd_T34 l0 ((rd_T34 l0 0).f4)).f4))).setCell ⟨gb150, 5, none⟩ (.int .i64 ((rd_T34 l0 ((rd_T34 l0 0).f4)).f5))) = w25 at n0_ n1_ ⊢
     have BK150 := n0_
     have HB := n1_
     clear n0_ n1_
     replace BK150 := Am (blk_drew BK150.out)
     replace HB := Am (bd HB.out)
     refine sT 3 [] (S := fun w' => w'.cell? ⟨gb150, 0, none⟩ = some (.int .i64 ((rd_T34 l0 ((rd_T34 l0 0).f4)).f0)) ∧ w'.cell? ⟨gb150, 1, none⟩ = some (.int .i64 ((rd_T34 l0 ((rd_T34 l0 0).f4)).f1)) ∧ w'.cell? ⟨gb150, 2, none⟩ = some (.int .i64 ((rd_T34 l0 ((rd_T34 l0 0).f4)).f2)) ∧ w'.cell? ⟨gb150, 3, none⟩ = some (.int .i64 ((rd_T34 l0 ((rd_T34 l0 0).f4)).f3)) ∧ w'.cell? ⟨gb150, 4, none⟩ = some (.int .i64 ((rd_T34 l0 ((rd_T34 l0 0).f4)).f4)) ∧ w'.cell? ⟨gb150, 5, none⟩ = some (.int .i64 ((rd_T34 l0 ((rd_T34 l0 0).f4)).f5))) (cz6 BK150.out) fun hHeld => ?_
     generalize w25.drew = w26 at BK150 HB hHeld ⊢
     refine ta 0 26 hHeld ?_
     refine on 1 27 fun K hK => ?_
     refine gO Try.func43 #[] ?_
     with_reducible refine (table_sentinel.calls  t151 t152 t153 t154 t155 t156 _ A9.out).mono ?_
     rintro e w27 ⟨rfl, hb⟩
     refine ⟨_, rfl, ?_⟩
     replace BK150 := Am (blk_below (bk BK150.out) hb)
     replace HB := Am (below_step bs hb)
     (try clear hb)
     refine hK.out _ _ (cz6 BK150.out) (fun hHeld => ?_)
     clear hK K
     refine nm 27 ?_
     refine pu 2 28 ?_
     refine done_ (by kernel_rfl) ?_
     obtain ⟨z28_0, z28_1, z28_2, z28_3, z28_4, z28_5, f28_0, f28_1, f28_2, f28_3, f28_4, f28_5⟩ := cf6 BK150.out
     try go_wp2_with (first | ((with_reducible refine gc 42 rfl ?_); refine gL 31 Try.func42 #[.slice (some ad146) l0.length c0, .agg #[.int .i64 ((rd_T34 l0 ((rd_T34 l0 0).f4)).f0), .int .i64 ((rd_T34 l0 ((rd_T34 l0 0).f4)).f1), .int .i64 ((rd_T34 l0 ((rd_T34 l0 0).f4)).f2), .int .i64 ((rd_T34 l0 ((rd_T34 l0 0).f4)).f3), .int .i64 ((rd_T34 l0 ((rd_T34 l0 0).f4)).f4), .int .i64 ((rd_T34 l0 ((rd_T34 l0 0).f4)).f5)]] ?_; (with_reducible refine (table_crowned.calls _ _ l0 _ _ _ _ _ _ true _ ?side1 ?side2 A18.out).mono ?_); (case side1 => exact kc (Kd.C_below HR0.out HB.out)); (case side2 => exact HC0.out); rintro e w29 ⟨rfl, hb⟩; refine ⟨_, rfl, ?_⟩; replace BK150 := Am (blk_below (bk BK150.out) hb); replace HB := Am (below_step bs hb); (try clear hb); obtain ⟨z30_0, z30_1, z30_2, z30_3, z30_4, z30_5, f30_0, f30_1, f30_2, f30_3, f30_4, f30_5⟩ := cf6 BK150.out) | ((with_reducible refine gc 44 rfl ?_); refine gL 36 Try.func44 #[.slice (some ad146) l0.length c0, .int .i64 ((rd_T34 l0 ((rd_T34 l0 0).f4)).f4)] ?_; (with_reducible refine (table_order.calls k _ _ l0 ((rd_T34 l0 ((rd_T34 l0 0).f4)).f4) t158 _ ?side1 ?side2 A20.out).mono ?_); (case side1 => exact kc (Kd.C_below HR0.out HB.out)); (case side2 => exact HC0.out); rintro e w31 ⟨v159, rfl, ho0, hb⟩; refine ⟨_, rfl, ?_⟩; replace HO160 := Am (Kd.R_lower ho0 (below_size bs)); replace BK150 := Am (blk_below (bk BK150.out) hb); replace HB := Am (below_step bs hb); (try clear hb); (try clear hb2); (try clear hk); (try clear hi); (try clear ho0); obtain ⟨Ao32, co32, eo32⟩ := Kd.R_slice HO160.out; subst eo32))
     go_loopg [38] k (fun kq v38 w' => ∃ (x38_1 : Int), v38 = .int .i64 x38_1 ∧ Aside0 (table_Root.l0 kq l0 t158 (t158.length : Int) x38_1 ((rd_T34 l0 ((rd_T34 l0 0).f4)).f0) ((rd_T34 l0 ((rd_T34 l0 0).f4)).f1) ((rd_T34 l0 ((rd_T34 l0 0).f4)).f2) ((rd_T34 l0 ((rd_T34 l0 0).f4)).f3) ((rd_T34 l0 ((rd_T34 l0 0).f4)).f4) ((rd_T34 l0 ((rd_T34 l0 0).f4)).f5) = some (r1, r2)) ∧ Aside0 (kq ≤ k) ∧ Aside0 (Kd.R (Kd.int .i64) 3 w' w.heap.size (fun _ => True) (.slice Ao32 t158.length co32) t158) ∧ Aside0 (w'.heap[gb150]? = some (.cells #[.int .i64 ((rd_T34 l0 ((rd_T34 l0 0).f4)).f0), .int .i64 ((rd_T34 l0 ((rd_T34 l0 0).f4)).f1), .int .i64 ((rd_T34 l0 ((rd_T34 l0 0).f4)).f2), .int .i64 ((rd_T34 l0 ((rd_T34 l0 0).f4)).f3), .int .i64 ((rd_T34 l0 ((rd_T34 l0 0).f4)).f4), .int .i64 ((rd_T34 l0 ((rd_T34 l0 0).f4)).f5)] 34 (0, 0))) ∧ Aside0 (Below w.heap.size w w'))
     case atStart => exact ⟨(0), (by first | rfl | (simp; done) | (simp [*]; done)), H', ⟨Nat.le_refl _⟩, ⟨kr HO160.out⟩, ⟨bk BK150.out⟩, ⟨bs⟩⟩
     case round =>
      clear H'
      clear c3b0 c3b1 c4b0 c4b1 c7b0 c8b0 c10b0 z28_0 z28_1 z28_2 z28_3 z28_4 z28_5 f28_0 f28_1 f28_2 f28_3 f28_4 f28_5
      try clear c1
      try clear p1
      try clear q1
      try clear hx1
      try clear qi1
      try clear p2
      try clear c10b1
      try clear c10b2
      try clear c12
      try clear p14
      try clear q14
      try clear hx14
      try clear qi14
      try clear z14_0
      try clear z14_1
      try clear z14_2
      try clear z14_3
      try clear z14_4
      try clear z14_5
      try clear z24_0
      try clear z24_1
      try clear z24_2
      try clear z24_3
      try clear z24_4
      try clear z24_5
      try clear z30_0
      try clear z30_1
      try clear z30_2
      try clear z30_3
      try clear z30_4
      try clear z30_5
      try clear f14_0
      try clear f14_1
      try clear f14_2
      try clear f14_3
      try clear f14_4
      try clear f14_5
      try clear f24_0
      try clear f24_1
      try clear f24_2
      try clear f24_3
      try clear f24_4
      try clear f24_5
      try clear f30_0
      try clear f30_1
      try clear f30_2
      try clear f30_3
      try clear f30_4
      try clear f30_5
      try clear hx146_0
      try clear hx146_1
      try clear hx146_2
      try clear hx146_3
      try clear hx146_4
      try clear hx146_5
      try clear hx148_0
      try clear hx148_1
      try clear hx148_2
      try clear hx148_3
      try clear hx148_4
      try clear hx148_5
      try clear hx149_0
      try clear hx149_1
      try clear hx149_2
      try clear hx149_3
      try clear hx149_4
      try clear hx149_5
      try clear p146
      try clear p148
      try clear p149
      try clear q146
      try clear q148
      try clear q149
      obtain ⟨x38_1, rfl, HA, HK1, HO_36, BK150, HB⟩ := hrel
      cases gk with
      | zero => exact absurd HA.out (by simp [table_Root.l0])
      | succ k1 =>
       have H := HA.out
       clear HA
       simp only [table_Root.l0] at H
       by_cases c33 : x38_1 < (t158.length : Int)
       ·rw [if_pos c33] at H
        have c33b0 := decide_eq_true c33
        clear c33
        obtain ⟨c34, H⟩ := gd H
        have c34b0 := decide_eq_true c34
        clear c34
        obtain ⟨c35, H⟩ := gd H
        have c35b0 := decide_eq_true c35
        clear c35
        obtain ⟨c36, H⟩ := gd H
        have c36b0 := decide_eq_true c36
        clear c36
        obtain ⟨c37, H⟩ := gd H
        have c37b0 := decide_eq_true c37
        clear c37
        by_cases c38 : ((rd_T34 l0 (rd t158 x38_1)).f1) = 0
        ·rw [if_pos c38] at H
         obtain ⟨c38b0, c38b1⟩ := eq2 c38
         clear c38
         have H' := Am H
         clear H
         have p161 : 0 ≤ (x38_1 : Int) := da
         have q161 : x38_1 < (t158.length : Int) := da
         obtain ⟨ad161, e161, hx161_0⟩ := Kd.at_int (Kd.R_reads' HO_36.out).2.2 x38_1 p161 q161
         cases e161
         replace p161 := eq_true p161
         replace q161 := eq_true q161
         obtain ⟨ad162, e162, hx162_0, hx162_1, hx162_2, hx162_3, hx162_4, hx162_5, p162, q162⟩ := t6d HB.out HR0.out (rd t158 x38_1)
         obtain rfl : ad146 = ad162 := (by injection e162)
         go_wp2
         go_roundg k1
         case measure => have := HK1.out; omega
         case rel => exact ⟨(wrap64 (x38_1 + 1)), (by first | rfl | (simp; done) | (simp [*]; done)), H', ⟨by have := HK1.out; omega⟩, ⟨kr HO_36.out⟩, ⟨bk BK150.out⟩, ⟨bs⟩⟩
        ·rw [if_neg c38] at H
         obtain ⟨c38b0, c38b1⟩ := ne2 c38
         simp only [Option.some.injEq, Prod.mk.injEq] at H
         obtain ⟨rfl, rfl⟩ := H
         have p161 : 0 ≤ (x38_1 : Int) := da
         have q161 : x38_1 < (t158.length : Int) := da
         obtain ⟨ad161, e161, hx161_0⟩ := Kd.at_int (Kd.R_reads' HO_36.out).2.2 x38_1 p161 q161
         cases e161
         replace p161 := eq_true p161
         replace q161 := eq_true q161
         obtain ⟨ad162, e162, hx162_0, hx162_1, hx162_2, hx162_3, hx162_4, hx162_5, p162, q162⟩ := t6d HB.out HR0.out (rd t158 x38_1)
         obtain rfl : ad146 = ad162 := (by injection e162)
         go_wp2
         go_ret2
         exact ⟨er, bs⟩
       ·rw [if_neg c33] at H
        have c33b0 := decide_eq_false c33
        clear c33
        simp only [Option.some.injEq, Prod.mk.injEq] at H
        obtain ⟨rfl, rfl⟩ := H
        obtain ⟨z39_0, z39_1, z39_2, z39_3, z39_4, z39_5, f39_0, f39_1, f39_2, f39_3, f39_4, f39_5⟩ := cf6 BK150.out
        go_wp2
        go_ret2
        exact ⟨er, bs⟩
    ·replace c19 := Bool.eq_false_iff.mpr c19
     subst c19
     rw [if_neg nf] at H
     simp only [Option.some.injEq, Prod.mk.injEq] at H
     obtain ⟨rfl, rfl⟩ := H
     go_enter Try.func12, Try.ntmps12
     try go_wp2_with (first | ((with_reducible refine gc 41 rfl ?_); refine gL 9 Try.func41 #[.slice A0 l0.length c0] ?_; (with_reducible refine (table_Check.calls k _ _ l0 t145 _ ?side1 ?side2 A2.out).mono ?_); (case side1 => exact kc HR0.out); (case side2 => exact HC0.out); rintro e w40 ⟨rfl, hb⟩; refine ⟨_, rfl, ?_⟩; replace HB := Am (below_step bq hb); (try clear hb); have p146 : 0 ≤ (0 : Int) := (by omega); have q146 : 0 < (l0.length : Int) := da; obtain ⟨ad146, e146, hx146_0, hx146_1, hx146_2, hx146_3, hx146_4, hx146_5⟩ := t6 HB.out HR0.out 0 p146 q146; cases e146; have qi146 : (0 < l0.length) = True := eq_true (by omega); (try simp only [show ((0 : Int)).toNat = 0 from rfl, show 0 * 6 = 0 from rfl, Addr.add_zero'] at hx146_0 hx146_1 hx146_2 hx146_3 hx146_4 hx146_5); replace p146 := eq_true p146; replace q146 := eq_true q146) | ((with_reducible refine gc 42 rfl ?_); refine gL 17 Try.func42 #[.slice (some ad146) l0.length c0, .agg #[.int .i64 ((rd_T34 l0 0).f0), .int .i64 ((rd_T34 l0 0).f1), .int .i64 ((rd_T34 l0 0).f2), .int .i64 ((rd_T34 l0 0).f3), .int .i64 ((rd_T34 l0 0).f4), .int .i64 ((rd_T34 l0 0).f5)]] ?_; (with_reducible refine (table_crowned.calls _ _ l0 _ _ _ _ _ _ true _ ?side1 ?side2 A5.out).mono ?_); (case side1 => exact kc (Kd.C_below HR0.out HB.out)); (case side2 => exact HC0.out); rintro e w41 ⟨rfl, hb⟩; refine ⟨_, rfl, ?_⟩; replace HB := Am (below_step bq hb); (try clear hb); have p148 : 0 ≤ (0 : Int) := (by omega); have q148 : 0 < (l0.length : Int) := da; obtain ⟨ad148, e148, hx148_0, hx148_1, hx148_2, hx148_3, hx148_4, hx148_5⟩ := t6 HB.out HR0.out 0 p148 q148; obtain rfl : ad146 = ad148 := (by injection e148); have qi148 : (0 < l0.length) = True := eq_true (by omega); (try simp only [show ((0 : Int)).toNat = 0 from rfl, show 0 * 6 = 0 from rfl, Addr.add_zero'] at hx148_0 hx148_1 hx148_2 hx148_3 hx148_4 hx148_5); replace p148 := eq_true p148; replace q148 := eq_true q148; obtain ⟨ad149, e149, hx149_0, hx149_1, hx149_2, hx149_3, hx149_4, hx149_5, p149, q149⟩ := t6d HB.out HR0.out ((rd_T34 l0 0).f4); obtain rfl : ad146 = ad149 := (by injection e149)) | ((with_reducible refine gs 5 rfl ?_); refine bE 5 (cs := #[.int .i64 0, .int .i64 0, .int .i64 0, .int .i64 0, .int .i64 0, .int .i64 0]) (t := 34) ?_; intro gb150 hg w42 hbox hb; obtain ⟨n0_, BK150, GW150, GE150⟩ := bx hg hbox hb; clear HB; have HB := n0_; clear n0_ hb hbox hg; obtain ⟨z43_0, z43_1, z43_2, z43_3, z43_4, z43_5, f43_0, f43_1, f43_2, f43_3, f43_4, f43_5⟩ := cf6 BK150.out))
     have n0_ : Aside0 (((((((w42.setCell ⟨gb150, 0, none⟩ (.int .i64 ((rd_T34 l0 ((rd_T34 l0 0).f4)).f0))).setCell ⟨gb150, 1, none⟩ (.int .i64 ((rd_T34 l0 ((rd_T34 l0 0).f4)).f1))).setCell ⟨gb150, 2, none⟩ (.int .i64 ((rd_T34 l0 ((rd_T34 l0 0).f4)).f2))).setCell ⟨gb150, 3, none⟩ (.int .i64 ((rd_T34 l0 ((rd_T34 l0 0).f4)).f3))).setCell ⟨gb150, 4, none⟩ (.int .i64 ((rd_T34 l0 ((rd_T34 l0 0).f4)).f4))).setCell ⟨gb150, 5, none⟩ (.int .i64 ((rd_T34 l0 ((rd_T34 l0 0).f4)).f5))).heap[gb150]? = some (.cells #[.int .i64 ((rd_T34 l0 ((rd_T34 l0 0).f4)).f0), .int .i64 ((rd_T34 l0 ((rd_T34 l0 0).f4)).f1), .int .i64 ((rd_T34 l0 ((rd_T34 l0 0).f4)).f2), .int .i64 ((rd_T34 l0 ((rd_T34 l0 0).f4)).f3), .int .i64 ((rd_T34 l0 ((rd_T34 l0 0).f4)).f4), .int .i64 ((rd_T34 l0 ((rd_T34 l0 0).f4)).f5)] 34 (0, 0))) := ⟨bp6 BK150.out⟩
     have n1_ : Aside0 (Below w.heap.size w ((((((w42.setCell ⟨gb150, 0, none⟩ (.int .i64 ((rd_T34 l0 ((rd_T34 l0 0).f4)).f0))).setCell ⟨gb150, 1, none⟩ (.int .i64 ((rd_T34 l0 ((rd_T34 l0 0).f4)).f1))).setCell ⟨gb150, 2, none⟩ (.int .i64 ((rd_T34 l0 ((rd_T34 l0 0).f4)).f2))).setCell ⟨gb150, 3, none⟩ (.int .i64 ((rd_T34 l0 ((rd_T34 l0 0).f4)).f3))).setCell ⟨gb150, 4, none⟩ (.int .i64 ((rd_T34 l0 ((rd_T34 l0 0).f4)).f4))).setCell ⟨gb150, 5, none⟩ (.int .i64 ((rd_T34 l0 ((rd_T34 l0 0).f4)).f5)))) := ⟨bs⟩
     (try clear BK150)
     (try clear HB)
     generalize ((((((w42.setCell ⟨gb150, 0, none⟩ (.int .i64 ((rd_T34 l0 ((rd_T34 l0 0).f4)).f0))).setCell ⟨gb150, 1, none⟩ (.int .i64 ((rd_T34 l0 ((rd_T34 l0 0).f4)).f1))).setCell ⟨gb150, 2, none⟩ (.int .i64 ((rd_T34 l0 ((rd_T34 l0 0).f4)).f2))).setCell ⟨gb150, 3, none⟩ (.int .i64 ((rd_T34 l0 ((rd_T34 l0 0).f4)).f3))).setCell ⟨gb150, 4, none⟩ (.int .i64 ((rd_T34 l0 ((rd_T34 l0 0).f4)).f4))).setCell ⟨gb150, 5, none⟩ (.int .i64 ((rd_T34 l0 ((rd_T34 l0 0).f4)).f5))) = w44 at n0_ n1_ ⊢
     have BK150 := n0_
     have HB := n1_
     clear n0_ n1_
     replace BK150 := Am (blk_drew BK150.out)
     replace HB := Am (bd HB.out)
     refine sT 3 [] (S := fun w' => w'.cell? ⟨gb150, 0, none⟩ = some (.int .i64 ((rd_T34 l0 ((rd_T34 l0 0).f4)).f0)) ∧ w'.cell? ⟨gb150, 1, none⟩ = some (.int .i64 ((rd_T34 l0 ((rd_T34 l0 0).f4)).f1)) ∧ w'.cell? ⟨gb150, 2, none⟩ = some (.int .i64 ((rd_T34 l0 ((rd_T34 l0 0).f4)).f2)) ∧ w'.cell? ⟨gb150, 3, none⟩ = some (.int .i64 ((rd_T34 l0 ((rd_T34 l0 0).f4)).f3)) ∧ w'.cell? ⟨gb150, 4, none⟩ = some (.int .i64 ((rd_T34 l0 ((rd_T34 l0 0).f4)).f4)) ∧ w'.cell? ⟨gb150, 5, none⟩ = some (.int .i64 ((rd_T34 l0 ((rd_T34 l0 0).f4)).f5))) (cz6 BK150.out) fun hHeld => ?_
     generalize w44.drew = w45 at BK150 HB hHeld ⊢
     refine ta 0 26 hHeld ?_
     refine on 1 27 fun K hK => ?_
     refine gO Try.func43 #[] ?_
     with_reducible refine (table_sentinel.calls  t151 t152 t153 t154 t155 t156 _ A9.out).mono ?_
     rintro e w46 ⟨rfl, hb⟩
     refine ⟨_, rfl, ?_⟩
     replace BK150 := Am (blk_below (bk BK150.out) hb)
     replace HB := Am (below_step bs hb)
     (try clear hb)
     refine hK.out _ _ (cz6 BK150.out) (fun hHeld => ?_)
     clear hK K
     refine nm 27 ?_
     refine pu 2 28 ?_
     refine done_ (by kernel_rfl) ?_
     obtain ⟨z47_0, z47_1, z47_2, z47_3, z47_4, z47_5, f47_0, f47_1, f47_2, f47_3, f47_4, f47_5⟩ := cf6 BK150.out
     try go_wp2_with (first | ((with_reducible refine gc 42 rfl ?_); refine gL 31 Try.func42 #[.slice (some ad146) l0.length c0, .agg #[.int .i64 ((rd_T34 l0 ((rd_T34 l0 0).f4)).f0), .int .i64 ((rd_T34 l0 ((rd_T34 l0 0).f4)).f1), .int .i64 ((rd_T34 l0 ((rd_T34 l0 0).f4)).f2), .int .i64 ((rd_T34 l0 ((rd_T34 l0 0).f4)).f3), .int .i64 ((rd_T34 l0 ((rd_T34 l0 0).f4)).f4), .int .i64 ((rd_T34 l0 ((rd_T34 l0 0).f4)).f5)]] ?_; (with_reducible refine (table_crowned.calls _ _ l0 _ _ _ _ _ _ false _ ?side1 ?side2 A18.out).mono ?_); (case side1 => exact kc (Kd.C_below HR0.out HB.out)); (case side2 => exact HC0.out); rintro e w48 ⟨rfl, hb⟩; refine ⟨_, rfl, ?_⟩; replace BK150 := Am (blk_below (bk BK150.out) hb); replace HB := Am (below_step bs hb); (try clear hb)))
     go_ret2
     exact ⟨er, bs⟩
  ·replace c6 := Bool.eq_false_iff.mpr c6
   subst c6
   rw [if_neg nf] at H
   simp only [Option.some.injEq, Prod.mk.injEq] at H
   obtain ⟨rfl, rfl⟩ := H
   go_enter Try.func12, Try.ntmps12
   go_wp2_with (first | ((with_reducible refine gc 41 rfl ?_); refine gL 9 Try.func41 #[.slice A0 l0.length c0] ?_; (with_reducible refine (table_Check.calls k _ _ l0 t145 _ ?side1 ?side2 A2.out).mono ?_); (case side1 => exact kc HR0.out); (case side2 => exact HC0.out); rintro e w49 ⟨rfl, hb⟩; refine ⟨_, rfl, ?_⟩; replace HB := Am (below_step bq hb); (try clear hb); have p146 : 0 ≤ (0 : Int) := (by omega); have q146 : 0 < (l0.length : Int) := da; obtain ⟨ad146, e146, hx146_0, hx146_1, hx146_2, hx146_3, hx146_4, hx146_5⟩ := t6 HB.out HR0.out 0 p146 q146; cases e146; have qi146 : (0 < l0.length) = True := eq_true (by omega); (try simp only [show ((0 : Int)).toNat = 0 from rfl, show 0 * 6 = 0 from rfl, Addr.add_zero'] at hx146_0 hx146_1 hx146_2 hx146_3 hx146_4 hx146_5); replace p146 := eq_true p146; replace q146 := eq_true q146) | ((with_reducible refine gc 42 rfl ?_); refine gL 17 Try.func42 #[.slice (some ad146) l0.length c0, .agg #[.int .i64 ((rd_T34 l0 0).f0), .int .i64 ((rd_T34 l0 0).f1), .int .i64 ((rd_T34 l0 0).f2), .int .i64 ((rd_T34 l0 0).f3), .int .i64 ((rd_T34 l0 0).f4), .int .i64 ((rd_T34 l0 0).f5)]] ?_; (with_reducible refine (table_crowned.calls _ _ l0 _ _ _ _ _ _ false _ ?side1 ?side2 A5.out).mono ?_); (case side1 => exact kc (Kd.C_below HR0.out HB.out)); (case side2 => exact HC0.out); rintro e w50 ⟨rfl, hb⟩; refine ⟨_, rfl, ?_⟩; replace HB := Am (below_step bq hb); (try clear hb)))
   go_ret2
   exact ⟨er, bq⟩
 ·rw [if_neg c3] at H
  obtain ⟨c3b0, c3b1⟩ := ne2 c3
  simp only [Option.some.injEq, Prod.mk.injEq] at H
  obtain ⟨rfl, rfl⟩ := H
  go_enter Try.func12, Try.ntmps12
  go_wp2_with (first | ((with_reducible refine gc 41 rfl ?_); refine gL 9 Try.func41 #[.slice A0 l0.length c0] ?_; (with_reducible refine (table_Check.calls k _ _ l0 t145 _ ?side1 ?side2 A2.out).mono ?_); (case side1 => exact kc HR0.out); (case side2 => exact HC0.out); rintro e w51 ⟨rfl, hb⟩; refine ⟨_, rfl, ?_⟩; replace HB := Am (below_step bq hb); (try clear hb)))
  go_ret2
  exact ⟨er, bq⟩
end
section
attribute [local go_sem] max2_int min2_int max_two min_two max_three min_three max_four min_four
def steps_keys.l0 : Nat → List (S34) → Int → List Bool → List Int → Option (Int × List Bool × Int)
 | 0, _, _, _, _ => none
 | k + 1, x0, x5, x7, x8 => if (x8.length : Int) > 0 then (if 0 ≤ (wrap64 ((x8.length : Int) - 1)) then (if (wrap64 ((x8.length : Int) - 1)) < (x8.length : Int) then (if (wrap64 ((x8.length : Int) - 1)) ≤ (x8.length : Int) then ((some (x8.take ((wrap64 ((x8.length : Int) - 1)) : Int).toNat : List Int)).bind fun y172 => (if 0 ≤ (rd x8 (wrap64 ((x8.length : Int) - 1))) then (if (rd x8 (wrap64 ((x8.length : Int) - 1))) < (x7.length : Int) then ((some (x7.set ((rd x8 (wrap64 ((x8.length : Int) - 1))) : Int).toNat true : List Bool)).bind fun y175 => (if (rd x8 (wrap64 ((x8.length : Int) - 1))) < (x0.length : Int) then (if ((rd_T34 x0 (rd x8 (wrap64 ((x8.length : Int) - 1)))).f4) ≥ 0 then ((some (([(rd_T34 x0 (rd x8 (wrap64 ((x8.length : Int) - 1)))).f4, (rd_T34 x0 (rd x8 (wrap64 ((x8.length : Int) - 1)))).f5] : List Int) : List Int)).bind fun y179 => (if y172.length + y179.length < 17592186044416 then (steps_keys.l0 k x0 x5 y175 (y172 ++ y179)) else (none))) else (steps_keys.l0 k x0 x5 y175 y172)) else (none))) else (none)) else (none))) else (none)) else (none)) else (none)) else (some (x5, x7, 0))
def steps_keys.f (k : Nat) (l0 : List (S34)) : Option (Int × List Bool × Int) := (table_Root.f k l0).bind fun bt163 => (if bt163.2 = 0 then (if 0 ≤ (l0.length : Int) then (if ((l0.length : Int) : Int).toNat ≤ 281474976710656 then (steps_keys.l0 k l0 bt163.1 (List.replicate ((l0.length : Int) : Int).toNat false) (([bt163.1] : List Int))) else (none)) else (none)) else (some (0, ([] : List Bool), bt163.2)))
def steps_keys.T11 : Bool × List (List Nat × List Nat) := (true, [([], []), ([], []), ([], []), ([1, 2], [1, 2]), ([3], [3]), ([4], [4]), ([], []), ([], []), ([6, 7], [6, 7]), ([8], [8]), ([9], [9]), ([5, 10], [5, 10]), ([0, 11], [0, 11]), ([12, 12, 0, 1, 2, 3, 4, 5, 6, 7, 8, 9, 10, 11, 12], [0, 12])])
def steps_keys.B11 : List Nat := [0, 0, 0, 6, 14, 30, 0, 0, 192, 448, 960, 2046, 4095, 8191]
theorem steps_keys.tab11 : rtab .any (opsOf Try.f48 11) = steps_keys.T11 := by kernel_rfl
theorem steps_keys.bits11 : waitsOk steps_keys.T11.2 steps_keys.B11 = true := by kernel_rfl
theorem steps_keys.calls (k : Nat) (A0 : Option Addr) (c0 : Nat) (l0 : List (S34)) (r1 : Int) (r2 : List Bool) (r3 : Int) (w : World) (hr0 : Kd.C k34 w A0 l0.length l0) (hc0 : l0.length ≤ c0) (h : steps_keys.f k l0 = some (r1, r2, r3)) :
  Calls Try.prog 48 #[.slice A0 l0.length c0] w fun e w' => ∃ v1_ : Value, e = .returned (.tuple #[.int .i64 r1, v1_, .int .i64 r3]) ∧ Kd.R Kd.bool 4 w' w.heap.size (fun _ => True) v1_ r2 ∧ Below w.heap.size w w' := by
 have HR0 := Am hr0
 have HC0 := Am hc0
 clear hr0 hc0
 have HB := Am (Below.refl w.heap.size w)
 have H : ((table_Root.f k l0).bind fun bt163 => (if bt163.2 = 0 then (if 0 ≤ (l0.length : Int) then (if ((l0.length : Int) : Int).toNat ≤ 281474976710656 then (steps_keys.l0 k l0 bt163.1 (List.replicate ((l0.length : Int) : Int).toNat false) (([bt163.1] : List Int))) else (none)) else (none)) else (some (0, ([] : List Bool), bt163.2)))) = some (r1, r2, r3) := h
 clear h
 obtain ⟨⟨t163, t164⟩, A2, H⟩ := bo H
 dsimp only at H
 by_cases c3 : t164 = 0
 ·rw [if_pos c3] at H
  obtain ⟨c3b0, c3b1⟩ := eq2 c3
  clear c3
  obtain ⟨c4, H⟩ := gd H
  have c4b0 := eq_true c4
  have c4b1 := decide_eq_true c4
  clear c4
  obtain ⟨c5, H⟩ := gd H
  have c5b0 := eq_true c5
  have c5b1 := decide_eq_true c5
  clear c5
  obtain ⟨y165, hy165⟩ : ∃ y_ : List Bool, y_ = (List.replicate ((l0.length : Int) : Int).toNat false) := ⟨_, rfl⟩
  replace H : (steps_keys.l0 k l0 t163 y165 (([t163] : List Int))) = some (r1, r2, r3) := by first | (rw [hy165]; with_reducible exact H) | (have H2_ := (Option.bind_some _ _).symm.trans H; rw [hy165]; with_reducible exact H2_) | (have H2_ := (Option.bind_some _ _).symm.trans H; with_reducible exact H2_) | with_reducible exact H | (rw [hy165]; exact H) | exact H
  have Ny165 := Am hy165
  clear hy165
  obtain ⟨y168, hy168⟩ : ∃ y_ : List Int, y_ = (([t163] : List Int)) := ⟨_, rfl⟩
  replace H : (steps_keys.l0 k l0 t163 y165 y168) = some (r1, r2, r3) := by first | (rw [hy168]; with_reducible exact H) | (have H2_ := (Option.bind_some _ _).symm.trans H; rw [hy168]; with_reducible exact H2_) | (have H2_ := (Option.bind_some _ _).symm.trans H; with_reducible exact H2_) | with_reducible exact H | (rw [hy168]; exact H) | exact H
  have Ny168 := Am hy168
  clear hy168
  have H' := Am H
  clear H
  go_enter Try.func48, Try.ntmps48
  go_wp2_with (first | ((with_reducible refine gc 12 rfl ?_); refine gL 12 Try.func12 #[.slice A0 l0.length c0] ?_; (with_reducible refine (table_Root.calls k _ _ l0 t163 t164 _ ?side1 ?side2 A2.out).mono ?_); (case side1 => exact kc HR0.out); (case side2 => exact HC0.out); rintro e w6 ⟨rfl, hb⟩; refine ⟨_, rfl, ?_⟩; replace HB := Am (below_step bq hb); (try clear hb)) | ((with_reducible refine gs 20 rfl ?_); refine Kd.R_make Kd.bool _ 4 rfl (N := 20) rfl 87 _ _ rfl (l0.length : Int) rfl rfl Try.underlying87 (.bool false) 1 info4 rfl (by decide) (by omega) false (ok := fun _ => True) (okp := fun _ => True) rfl (fun _ hk => hk) trivial (da) (Nat.le_trans (Nat.mul_le_mul_right _ (da : (l0.length : Int).toNat ≤ 281474976710656)) (by omega)) (Below.refl _ _) (Nat.le_refl _) ?_; intro v166 w7 ho8 hb hg_ hnew_; clear hg_ hnew_; (first | rw [← Ny165.out] at ho8 | (simp only [Int.reduceToNat] at ho8; rw [← Ny165.out] at ho8)); replace HO167 := Am (Kd.R_lower ho8 (below_size bq)); replace HB := Am (below_step bq hb); clear hb ho8) | ((with_reducible refine gs 22 rfl ?_); refine Kd.R_lit (Kd.int .i64) _ 3 ?hg (N := 22) ?hd (xs := ([t163] : List Int)) (inner := [.int .i64 t163]) (ok := fun _ => True) (okp := fun _ => True) ?hr ?hp (fun _ hk => hk) trivial (Below.refl _ _) (Nat.le_refl _) (by simp) ?_; (case hd => rfl); (case hg => rfl); (case hr => first | (go_simp; done) | (go_simp; rfl)); (case hp => exact (Reps.one (show Kd.M (Kd.int .i64) _ _ _ t163 [.int .i64 t163] from rfl) (Reps.none _ _))); intro v169 w9 ho10 hb hg_ hnew_; clear hg_ hnew_; (first | rw [← Ny168.out] at ho10 | (simp only [Int.reduceToNat] at ho10; rw [← Ny168.out] at ho10)); replace HO167 := Am (Kd.R_below (kr HO167.out) hb); replace HO170 := Am (Kd.R_lower ho10 (below_size bq)); replace HB := Am (below_step bq hb); clear hb ho10))
  go_loopg [8] k (fun kq v8 w' => ∃ (x7_1 : List Bool) (x8_1 : List Int), Aside0 (steps_keys.l0 kq l0 t163 x7_1 x8_1 = some (r1, r2, r3)) ∧ Aside0 (kq ≤ k) ∧ Aside0 (Kd.R Kd.bool 4 w' w.heap.size (fun _ => True) v166 x7_1) ∧ Aside0 (Kd.R (Kd.int .i64) 3 w' w.heap.size (fun _ => True) v8 x8_1) ∧ Aside0 (Below w.heap.size w w'))
  case atStart => exact ⟨(y165), (y168), H', ⟨Nat.le_refl _⟩, ⟨kr HO167.out⟩, ⟨kr HO170.out⟩, ⟨bq⟩⟩
  case round =>
   clear H'
   clear c3b0 c3b1 c4b0 c4b1 c5b0 c5b1
   try clear c1
   try clear p2
   obtain ⟨x7_1, x8_1, HA, HK1, HO_7, HO_8, HB⟩ := hrel
   cases gk with
   | zero => exact absurd HA.out (by simp [steps_keys.l0])
   | succ k1 =>
    have H := HA.out
    clear HA
    simp only [steps_keys.l0] at H
    by_cases c11 : (x8_1.length : Int) > 0
    ·rw [if_pos c11] at H
     have c11b0 : decide (0 < (x8_1.length : Int)) = true := decide_eq_true c11
     have c11b1 : decide (0 < x8_1.length) = true := decide_eq_true (by omega)
     clear c11
     obtain ⟨ji12, hji12⟩ : ∃ j_ : Int, (wrap64 ((x8_1.length : Int) - 1)) = j_ := ⟨_, rfl⟩
     replace H : (if 0 ≤ (ji12) then (if (ji12) < (x8_1.length : Int) then (if (ji12) ≤ (x8_1.length : Int) then ((some (x8_1.take ((ji12) : Int).toNat : List Int)).bind fun y172 => (if 0 ≤ (rd x8_1 (ji12)) then (if (rd x8_1 (ji12)) < (x7_1.length : Int) then ((some (x7_1.set ((rd x8_1 (ji12)) : Int).toNat true : List Bool)).bind fun y175 => (if (rd x8_1 (ji12)) < (l0.length : Int) then (if ((rd_T34 l0 (rd x8_1 (ji12))).f4) ≥ 0 then ((some (([(rd_T34 l0 (rd x8_1 (ji12))).f4, (rd_T34 l0 (rd x8_1 (ji12))).f5] : List Int) : List Int)).bind fun y179 => (if y172.length + y179.length < 17592186044416 then (steps_keys.l0 k1 l0 t163 y175 (y172 ++ y179)) else (none))) else (steps_keys.l0 k1 l0 t163 y175 y172)) else (none))) else (none)) else (none))) else (none)) else (none)) else (none)) = some (r1, r2, r3) := by first | (rw [hji12] at H; exact H) | (simp only [hji12] at H ⊢; exact H)
     have hji12w : (IntKind.i64.wrap ((x8_1.length : Int) - 1)) = ji12 := (i64_w _).trans hji12
     obtain ⟨c13, H⟩ := gd H
     have c13b0 := decide_eq_true c13
     clear c13
     obtain ⟨c14, H⟩ := gd H
     have c14b0 := decide_eq_true c14
     clear c14
     obtain ⟨c15, H⟩ := gd H
     have c15b0 := eq_true c15
     have c15b1 := decide_eq_true c15
     clear c15
     obtain ⟨y172, hy172⟩ : ∃ y_ : List Int, y_ = (x8_1.take ((ji12) : Int).toNat) := ⟨_, rfl⟩
     replace H : (if 0 ≤ (rd x8_1 (ji12)) then (if (rd x8_1 (ji12)) < (x7_1.length : Int) then ((some (x7_1.set ((rd x8_1 (ji12)) : Int).toNat true : List Bool)).bind fun y175 => (if (rd x8_1 (ji12)) < (l0.length : Int) then (if ((rd_T34 l0 (rd x8_1 (ji12))).f4) ≥ 0 then ((some (([(rd_T34 l0 (rd x8_1 (ji12))).f4, (rd_T34 l0 (rd x8_1 (ji12))).f5] : List Int) : List Int)).bind fun y179 => (if y172.length + y179.length < 17592186044416 then (steps_keys.l0 k1 l0 t163 y175 (y172 ++ y179)) else (none))) else (steps_keys.l0 k1 l0 t163 y175 y172)) else (none))) else (none)) else (none)) = some (r1, r2, r3) := by first | (rw [hy172]; with_reducible exact H) | (have H2_ := (Option.bind_some _ _).symm.trans H; rw [hy172]; with_reducible exact H2_) | (have H2_ := (Option.bind_some _ _).symm.trans H; with_reducible exact H2_) | with_reducible exact H | (rw [hy172]; exact H) | exact H
     have Ny172 := Am hy172
     clear hy172
     obtain ⟨c16, H⟩ := gd H
     have c16b0 := decide_eq_true c16
     clear c16
     obtain ⟨c17, H⟩ := gd H
     have c17b0 := decide_eq_true c17
     clear c17
     obtain ⟨y175, hy175⟩ : ∃ y_ : List Bool, y_ = (x7_1.set ((rd x8_1 (ji12)) : Int).toNat true) := ⟨_, rfl⟩
     replace H : (if (rd x8_1 (ji12)) < (l0.length : Int) then (if ((rd_T34 l0 (rd x8_1 (ji12))).f4) ≥ 0 then ((some (([(rd_T34 l0 (rd x8_1 (ji12))).f4, (rd_T34 l0 (rd x8_1 (ji12))).f5] : List Int) : List Int)).bind fun y179 => (if y172.length + y179.length < 17592186044416 then (steps_keys.l0 k1 l0 t163 y175 (y172 ++ y179)) else (none))) else (steps_keys.l0 k1 l0 t163 y175 y172)) else (none)) = some (r1, r2, r3) := by first | (rw [hy175]; with_reducible exact H) | (have H2_ := (Option.bind_some _ _).symm.trans H; rw [hy175]; with_reducible exact H2_) | (have H2_ := (Option.bind_some _ _).symm.trans H; with_reducible exact H2_) | with_reducible exact H | (rw [hy175]; exact H) | exact H
     have Ny175 := Am hy175
     clear hy175
     obtain ⟨c19, H⟩ := gd H
     have c19b0 := decide_eq_true c19
     clear c19
     by_cases c20 : ((rd_T34 l0 (rd x8_1 (ji12))).f4) ≥ 0
     ·rw [if_pos c20] at H
      have c20b0 : decide (0 ≤ ((rd_T34 l0 (rd x8_1 (ji12))).f4)) = true := decide_eq_true c20
      clear c20
      obtain ⟨y179, hy179⟩ : ∃ y_ : List Int, y_ = (([(rd_T34 l0 (rd x8_1 (ji12))).f4, (rd_T34 l0 (rd x8_1 (ji12))).f5] : List Int)) := ⟨_, rfl⟩
      replace H : (if y172.length + y179.length < 17592186044416 then (steps_keys.l0 k1 l0 t163 y175 (y172 ++ y179)) else (none)) = some (r1, r2, r3) := by first | (rw [hy179]; with_reducible exact H) | (have H2_ := (Option.bind_some _ _).symm.trans H; rw [hy179]; with_reducible exact H2_) | (have H2_ := (Option.bind_some _ _).symm.trans H; with_reducible exact H2_) | with_reducible exact H | (rw [hy179]; exact H) | exact H
      have Ny179 := Am hy179
      clear hy179
      obtain ⟨c21, H⟩ := gd H
      have LMc21 := Am c21
      clear c21
      obtain ⟨y182, hy182⟩ : ∃ y_ : List Int, y_ = (y172 ++ y179) := ⟨_, rfl⟩
      replace H : (steps_keys.l0 k1 l0 t163 y175 y182) = some (r1, r2, r3) := by first | (rw [hy182]; with_reducible exact H) | (have H2_ := (Option.bind_some _ _).symm.trans H; rw [hy182]; with_reducible exact H2_) | (have H2_ := (Option.bind_some _ _).symm.trans H; with_reducible exact H2_) | with_reducible exact H | (rw [hy182]; exact H) | exact H
      have Ny182 := Am hy182
      clear hy182
      have H' := Am H
      clear H
      obtain ⟨Ao22, co22, eo22⟩ := Kd.R_slice HO_8.out
      subst eo22
      have p171 : 0 ≤ ((ji12) : Int) := da
      have q171 : (ji12) < (x8_1.length : Int) := da
      obtain ⟨ad171, e171, hx171_0⟩ := Kd.at_int (Kd.R_reads' HO_8.out).2.2 (ji12) p171 q171
      cases e171
      replace p171 := eq_true p171
      replace q171 := eq_true q171
      have q23 : ((ji12) : Int) ≤ ((x8_1.length : Int) : Int) := da
      obtain ⟨i023, hi023, _, hsz23, _⟩ := info_parts info3
      have hcut23 := cut_to (P := Try.prog) 31 3 .i64 Try.underlying31 hi023 (some ad171) x8_1.length co22 (ji12) (da) q23 (Kd.R_reads' HO_8.out).2.1
      have hr23 := Kd.R_take (m := ((ji12) : Int).toNat) HO_8.out (by omega)
      have hy23 : y172.length = ((ji12) : Int).toNat := (by rw [Ny172.out, List.length_take]; omega)
      rw [← Ny172.out] at hr23
      rw [← hy23] at hr23 hcut23
      clear hy23 hi023 hsz23 HO_8
      have HO174 := Am hr23
      clear hr23
      replace q23 := eq_true q23
      have p18 : 0 ≤ ((rd x8_1 (ji12)) : Int) := da
      have q18 : ((rd x8_1 (ji12)) : Int) < ((x7_1.length : Int) : Int) := da
      obtain ⟨go18, co18, eo18, gb18, gl18, cl18, HG18⟩ := Kd.R_form HO_7.out (by omega)
      (first | cases eo18 | (injection eo18 with ea_ en_ ec_; (first | subst ea_ | (injection ea_ with ea_; subst ea_)); subst ec_; clear en_))
      have GB18 := Am gb18
      have GG18 := Am HG18
      clear gb18 gl18 HG18
      obtain ⟨hx18_0, hf18_0⟩ := Kd.R_celln false HO_7.out ((rd x8_1 (ji12)) : Int) p18 q18
      replace p18 := eq_true p18
      replace q18 := eq_true q18
      have HP24 := Kd.R_putg HO_7.out ((rd x8_1 (ji12)) : Int) true
      try go_wp2_with (first | ((with_reducible refine gate_store (t := 4) (p := 39) rfl ?_); refine store_event (t := 4) (p := 39) (v := ?vo_w25) (w1 := (wr.setCell ⟨go18, ((rd x8_1 (ji12)) : Int).toNat, none⟩ (.bool true))) ?hg ?ho ?hn ?hr ?_; (case ho => rfl); (case hg => rfl); (case hn => rfl); (case hr => first | (go_simp; done) | (go_simp; rfl)); intro w25 hw; have hg : wr.grownBy w25 (some go18) := (by rw [hw]; exact HP24.2); have hp_ : Kd.R Kd.bool 4 w25 w.heap.size (fun _ => True) (.slice (some ⟨go18, 0, none⟩) x7_1.length co18) y175 := (by rw [hw, Ny175.out]; exact HP24.1); clear HP24; have n0_ := Am (hp_); have n1_ := Am (Kd.R_over' (v := (.slice (some ⟨go18, 0, none⟩) x7_1.length co18)) (kr HO174.out) (Kd.R_typed HO_7.out) (by decide) hg); have n2_ := Am ((by rw [hw]; exact below_set (HB.out) GB18.out : Below w.heap.size w w25)); clear HO_7; clear HO174; clear HB; have HO_7 := n0_; have HO174 := n1_; have HB := n2_; clear n0_ n1_ n2_; clear hg hw hp_; obtain ⟨ad176, e176, hx176_0, hx176_1, hx176_2, hx176_3, hx176_4, hx176_5, p176, q176⟩ := t6d HB.out HR0.out (rd x8_1 (ji12)); cases e176))
      replace HO_7 := Am (Kd.R_drew HO_7.out)
      replace HO174 := Am (Kd.R_drew HO174.out)
      replace HB := Am (bd HB.out)
      have p177 : 0 ≤ ((rd x8_1 (ji12)) : Int) := da
      have q177 : (rd x8_1 (ji12)) < (l0.length : Int) := da
      obtain ⟨ad177, e177, hx177_0, hx177_1, hx177_2, hx177_3, hx177_4, hx177_5⟩ := at_T34 HR0.out (rd x8_1 (ji12)) p177 q177
      have hw177_5 := hx177_5
      have hw177_4 := hx177_4
      have hw177_3 := hx177_3
      have hw177_2 := hx177_2
      have hw177_1 := hx177_1
      have hw177_0 := hx177_0
      obtain rfl : ad176 = ad177 := (by injection e177)
      replace hx177_0 := (HB.out.cell (blt w _ hx177_0)).trans hx177_0
      replace hx177_1 := (HB.out.cell (blt w _ hx177_1)).trans hx177_1
      replace hx177_2 := (HB.out.cell (blt w _ hx177_2)).trans hx177_2
      replace hx177_3 := (HB.out.cell (blt w _ hx177_3)).trans hx177_3
      replace hx177_4 := (HB.out.cell (blt w _ hx177_4)).trans hx177_4
      replace hx177_5 := (HB.out.cell (blt w _ hx177_5)).trans hx177_5
      replace p177 := eq_true p177
      replace q177 := eq_true q177
      have p178 : 0 ≤ ((rd x8_1 (ji12)) : Int) := da
      have q178 : (rd x8_1 (ji12)) < (l0.length : Int) := da
      obtain ⟨ad178, e178, hx178_0, hx178_1, hx178_2, hx178_3, hx178_4, hx178_5⟩ := at_T34 HR0.out (rd x8_1 (ji12)) p178 q178
      have hw178_5 := hx178_5
      have hw178_4 := hx178_4
      have hw178_3 := hx178_3
      have hw178_2 := hx178_2
      have hw178_1 := hx178_1
      have hw178_0 := hx178_0
      obtain rfl : ad176 = ad178 := (by injection e178)
      replace hx178_0 := (HB.out.cell (blt w _ hx178_0)).trans hx178_0
      replace hx178_1 := (HB.out.cell (blt w _ hx178_1)).trans hx178_1
      replace hx178_2 := (HB.out.cell (blt w _ hx178_2)).trans hx178_2
      replace hx178_3 := (HB.out.cell (blt w _ hx178_3)).trans hx178_3
      replace hx178_4 := (HB.out.cell (blt w _ hx178_4)).trans hx178_4
      replace hx178_5 := (HB.out.cell (blt w _ hx178_5)).trans hx178_5
      replace p178 := eq_true p178
      replace q178 := eq_true q178
      refine sT 14 [] (S := fun w' => w'.cell? (ad176.add (((rd x8_1 (ji12))).toNat * 6)) = some (.int .i64 ((rd_T34 l0 (rd x8_1 (ji12))).f0)) ∧ w'.cell? ⟨(ad176.add (((rd x8_1 (ji12))).toNat * 6)).block, (ad176.add (((rd x8_1 (ji12))).toNat * 6)).off + 1, none⟩ = some (.int .i64 ((rd_T34 l0 (rd x8_1 (ji12))).f1)) ∧ w'.cell? ⟨(ad176.add (((rd x8_1 (ji12))).toNat * 6)).block, (ad176.add (((rd x8_1 (ji12))).toNat * 6)).off + 2, none⟩ = some (.int .i64 ((rd_T34 l0 (rd x8_1 (ji12))).f2)) ∧ w'.cell? ⟨(ad176.add (((rd x8_1 (ji12))).toNat * 6)).block, (ad176.add (((rd x8_1 (ji12))).toNat * 6)).off + 3, none⟩ = some (.int .i64 ((rd_T34 l0 (rd x8_1 (ji12))).f3)) ∧ w'.cell? ⟨(ad176.add (((rd x8_1 (ji12))).toNat * 6)).block, (ad176.add (((rd x8_1 (ji12))).toNat * 6)).off + 4, none⟩ = some (.int .i64 ((rd_T34 l0 (rd x8_1 (ji12))).f4)) ∧ w'.cell? ⟨(ad176.add (((rd x8_1 (ji12))).toNat * 6)).block, (ad176.add (((rd x8_1 (ji12))).toNat * 6)).off + 5, none⟩ = some (.int .i64 ((rd_T34 l0 (rd x8_1 (ji12))).f5)) ∧ w'.cell? (ad176.add (((rd x8_1 (ji12))).toNat * 6)) = some (.int .i64 ((rd_T34 l0 (rd x8_1 (ji12))).f0)) ∧ w'.cell? ⟨(ad176.add (((rd x8_1 (ji12))).toNat * 6)).block, (ad176.add (((rd x8_1 (ji12))).toNat * 6)).off + 1, none⟩ = some (.int .i64 ((rd_T34 l0 (rd x8_1 (ji12))).f1)) ∧ w'.cell? ⟨(ad176.add (((rd x8_1 (ji12))).toNat * 6)).block, (ad176.add (((rd x8_1 (ji12))).toNat * 6)).off + 2, none⟩ = some (.int .i64 ((rd_T34 l0 (rd x8_1 (ji12))).f2)) ∧ w'.cell? ⟨(ad176.add (((rd x8_1 (ji12))).toNat * 6)).block, (ad176.add (((rd x8_1 (ji12))).toNat * 6)).off + 3, none⟩ = some (.int .i64 ((rd_T34 l0 (rd x8_1 (ji12))).f3)) ∧ w'.cell? ⟨(ad176.add (((rd x8_1 (ji12))).toNat * 6)).block, (ad176.add (((rd x8_1 (ji12))).toNat * 6)).off + 4, none⟩ = some (.int .i64 ((rd_T34 l0 (rd x8_1 (ji12))).f4)) ∧ w'.cell? ⟨(ad176.add (((rd x8_1 (ji12))).toNat * 6)).block, (ad176.add (((rd x8_1 (ji12))).toNat * 6)).off + 5, none⟩ = some (.int .i64 ((rd_T34 l0 (rd x8_1 (ji12))).f5))) ⟨((HB.out.cell (blt w _ hw177_0)).trans hw177_0), ((HB.out.cell (blt w _ hw177_1)).trans hw177_1), ((HB.out.cell (blt w _ hw177_2)).trans hw177_2), ((HB.out.cell (blt w _ hw177_3)).trans hw177_3), ((HB.out.cell (blt w _ hw177_4)).trans hw177_4), ((HB.out.cell (blt w _ hw177_5)).trans hw177_5), ((HB.out.cell (blt w _ hw178_0)).trans hw178_0), ((HB.out.cell (blt w _ hw178_1)).trans hw178_1), ((HB.out.cell (blt w _ hw178_2)).trans hw178_2), ((HB.out.cell (blt w _ hw178_3)).trans hw178_3), ((HB.out.cell (blt w _ hw178_4)).trans hw178_4), ((HB.out.cell (blt w _ hw178_5)).trans hw178_5)⟩ fun hHeld => ?_; refine with_tabW steps_keys.tab11 steps_keys.bits11 (fun HT_ HW_ => ?_)
      generalize w25.drew = w26 at HO_7 HO174 HB hx177_0 hx177_1 hx177_2 hx177_3 hx177_4 hx177_5 hx178_0 hx178_1 hx178_2 hx178_3 hx178_4 hx178_5 hHeld ⊢
      refine puT HT_.out 0 46 ?_
      refine puT HT_.out 1 47 ?_
      refine puT HT_.out 2 48 ?_
      refine puT HT_.out 3 49 ?_
      refine puT HT_.out 4 50 ?_
      refine puT HT_.out 6 52 ?_
      refine puT HT_.out 7 53 ?_
      refine puT HT_.out 8 54 ?_
      refine puT HT_.out 9 55 ?_
      refine taT HT_.out HW_.out 5 51 hHeld ?_
      refine taT HT_.out HW_.out 10 56 hHeld ?_
      refine onT HT_.out 11 57 fun K hK => ?_
      refine Kd.R_lit_step (Kd.int .i64) _ 3 ?hg (N := 57) ?hd (xs := ([(rd_T34 l0 (rd x8_1 (ji12))).f4, (rd_T34 l0 (rd x8_1 (ji12))).f5] : List Int)) (inner := [.int .i64 ((rd_T34 l0 (rd x8_1 (ji12))).f4), .int .i64 ((rd_T34 l0 (rd x8_1 (ji12))).f5)]) (ok := fun _ => True) (okp := fun _ => True) ?hr ?hp (fun _ hk => hk) trivial (Below.refl _ _) (Nat.le_refl _) (by simp) ?_; (case hd => rfl); (case hg => rfl); (case hr => first | (go_simp; done) | (go_simp; rfl)); (case hp => exact (Reps.one (show Kd.M (Kd.int .i64) _ _ _ ((rd_T34 l0 (rd x8_1 (ji12))).f4) [.int .i64 ((rd_T34 l0 (rd x8_1 (ji12))).f4)] from rfl) (Reps.one (show Kd.M (Kd.int .i64) _ _ _ ((rd_T34 l0 (rd x8_1 (ji12))).f5) [.int .i64 ((rd_T34 l0 (rd x8_1 (ji12))).f5)] from rfl) (Reps.none _ _))))
      intro v180 w27 ho28 hb hg_ hnew_
      clear hg_ hnew_
      (first | rw [← Ny179.out] at ho28 | (simp only [Int.reduceToNat] at ho28; rw [← Ny179.out] at ho28))
      have n0_ := Am (Kd.R_below (kr HO_7.out) hb)
      have n1_ := Am (Kd.R_elder' (kr HO174.out) (Kd.R_base ho28) hb)
      have n2_ := Am (Kd.R_lower (Kd.R_new' ho28 (Kd.R_lt (kr HO174.out))) (below_size bq))
      have n3_ := Am (below_step bq hb)
      clear HO_7
      clear HO174
      clear HB
      have HO_7 := n0_
      have HO174 := n1_
      have HO181 := n2_
      have HB := n3_
      clear n0_ n1_ n2_ n3_
      clear hb ho28
      obtain ⟨Ao30, co30, eo30⟩ := Kd.R_slice HO181.out
      (first | subst eo30 | (injection eo30 with f1_ f2_ f3_; have f4_ := f1_.symm; have f5_ := f3_.symm; clear f1_ f2_ f3_; subst f4_; subst f5_))
      refine hK.out _ _ ⟨((HB.out.cell (blt w _ hw177_0)).trans hw177_0), ((HB.out.cell (blt w _ hw177_1)).trans hw177_1), ((HB.out.cell (blt w _ hw177_2)).trans hw177_2), ((HB.out.cell (blt w _ hw177_3)).trans hw177_3), ((HB.out.cell (blt w _ hw177_4)).trans hw177_4), ((HB.out.cell (blt w _ hw177_5)).trans hw177_5), ((HB.out.cell (blt w _ hw178_0)).trans hw178_0), ((HB.out.cell (blt w _ hw178_1)).trans hw178_1), ((HB.out.cell (blt w _ hw178_2)).trans hw178_2), ((HB.out.cell (blt w _ hw178_3)).trans hw178_3), ((HB.out.cell (blt w _ hw178_4)).trans hw178_4), ((HB.out.cell (blt w _ hw178_5)).trans hw178_5)⟩ (fun hHeld => ?_)
      clear hK K
      refine nm 57 ?_
      refine onT HT_.out 12 58 fun K hK => ?_
      refine Kd.R_append_rows_step (Kd.int .i64) (w0 := w) w.heap.size (by rfl) (.tmp 46) (.tmp 57) 31 3 (.int .i64 0) 8 rfl Try.underlying31 info3 rfl (by decide) (by omega) (.slice (some ad171) y172.length co22) y172 y179 _ _ _ (fun k_ => some k_ ≠ (.slice Ao30 y179.length co30 : Value).ownBlock) (fun _ => False) rfl rfl ?aO ?aR (fun _ _ h => h) (fun _ h => h.elim) ?aF ?aB ?aS ?aL ?_
      (case aR => repeat (first | exact (Kd.R_reads' HO181.out).2.2 | (with_reducible refine Kd.C_alloc ?_ _) | (with_reducible refine Kd.C_drewN ?_ _) | (with_reducible refine Kd.C_drew ?_)))
      (case aB => exact bq)
      (case aF => exact (fun k_ hk => Kd.fresh' (Kd.R_lt (kr HO181.out)) k_ hk))
      (case aO => exact (by (with_reducible repeat (first | apply Kd.R_alloc | apply Kd.R_drewN | apply Kd.R_drew)); exact Kd.R_mono HO174.out (fun _ hk => hk.2)))
      (case aS => exact (below_size bq))
      (case aL => have := LMc21.out; omega)
      intro v183 w29 ho hb hg hat
      rw [← Ny182.out] at ho
      have n0_ := Am (Kd.R_over' (kr HO_7.out) (Kd.R_typed (kr HO174.out)) (by decide) hg)
      have n1_ := Am (Kd.R_after (ok := (fun _ => True)) (kr HO181.out) hg hat)
      have n2_ := Am (hb)
      have n3_ := Am (ho)
      clear HO_7
      clear HO181
      clear HB
      clear HO174
      have HO_7 := n0_
      have HO181 := n1_
      have HB := n2_
      have HO184 := n3_
      clear n0_ n1_ n2_ n3_
      clear ho hb hg hat
      refine hK.out _ _ ⟨((HB.out.cell (blt w _ hw177_0)).trans hw177_0), ((HB.out.cell (blt w _ hw177_1)).trans hw177_1), ((HB.out.cell (blt w _ hw177_2)).trans hw177_2), ((HB.out.cell (blt w _ hw177_3)).trans hw177_3), ((HB.out.cell (blt w _ hw177_4)).trans hw177_4), ((HB.out.cell (blt w _ hw177_5)).trans hw177_5), ((HB.out.cell (blt w _ hw178_0)).trans hw178_0), ((HB.out.cell (blt w _ hw178_1)).trans hw178_1), ((HB.out.cell (blt w _ hw178_2)).trans hw178_2), ((HB.out.cell (blt w _ hw178_3)).trans hw178_3), ((HB.out.cell (blt w _ hw178_4)).trans hw178_4), ((HB.out.cell (blt w _ hw178_5)).trans hw178_5)⟩ (fun hHeld => ?_)
      clear hK K
      refine nm 58 ?_
      refine puT HT_.out 13 8 ?_
      refine done_ (done_of HT_.out (by kernel_rfl)) ?_
      try go_wp2
      go_roundg k1
      case measure => have := HK1.out; omega
      case rel => exact ⟨(y175), (y182), H', ⟨by have := HK1.out; omega⟩, ⟨kr HO_7.out⟩, ⟨by (with_reducible repeat (first | apply Kd.R_alloc | apply Kd.R_drewN | apply Kd.R_drew)); exact Kd.R_mono HO184.out (fun _ hk => trivial)⟩, ⟨bq⟩⟩
     ·rw [if_neg c20] at H
      have c20b0 : decide (0 ≤ ((rd_T34 l0 (rd x8_1 (ji12))).f4)) = false := decide_eq_false c20
      clear c20
      have H' := Am H
      clear H
      obtain ⟨Ao31, co31, eo31⟩ := Kd.R_slice HO_8.out
      subst eo31
      have p171 : 0 ≤ ((ji12) : Int) := da
      have q171 : (ji12) < (x8_1.length : Int) := da
      obtain ⟨ad171, e171, hx171_0⟩ := Kd.at_int (Kd.R_reads' HO_8.out).2.2 (ji12) p171 q171
      cases e171
      replace p171 := eq_true p171
      replace q171 := eq_true q171
      have q32 : ((ji12) : Int) ≤ ((x8_1.length : Int) : Int) := da
      obtain ⟨i032, hi032, _, hsz32, _⟩ := info_parts info3
      have hcut32 := cut_to (P := Try.prog) 31 3 .i64 Try.underlying31 hi032 (some ad171) x8_1.length co31 (ji12) (da) q32 (Kd.R_reads' HO_8.out).2.1
      have hr32 := Kd.R_take (m := ((ji12) : Int).toNat) HO_8.out (by omega)
      have hy32 : y172.length = ((ji12) : Int).toNat := (by rw [Ny172.out, List.length_take]; omega)
      rw [← Ny172.out] at hr32
      rw [← hy32] at hr32 hcut32
      clear hy32 hi032 hsz32 HO_8
      have HO174 := Am hr32
      clear hr32
      replace q32 := eq_true q32
      have p18 : 0 ≤ ((rd x8_1 (ji12)) : Int) := da
      have q18 : ((rd x8_1 (ji12)) : Int) < ((x7_1.length : Int) : Int) := da
      obtain ⟨go18, co18, eo18, gb18, gl18, cl18, HG18⟩ := Kd.R_form HO_7.out (by omega)
      (first | cases eo18 | (injection eo18 with ea_ en_ ec_; (first | subst ea_ | (injection ea_ with ea_; subst ea_)); subst ec_; clear en_))
      have GB18 := Am gb18
      have GG18 := Am HG18
      clear gb18 gl18 HG18
      obtain ⟨hx18_0, hf18_0⟩ := Kd.R_celln false HO_7.out ((rd x8_1 (ji12)) : Int) p18 q18
      replace p18 := eq_true p18
      replace q18 := eq_true q18
      have HP33 := Kd.R_putg HO_7.out ((rd x8_1 (ji12)) : Int) true
      go_wp2_with (first | ((with_reducible refine gate_store (t := 4) (p := 39) rfl ?_); refine store_event (t := 4) (p := 39) (v := ?vo_w34) (w1 := (wr.setCell ⟨go18, ((rd x8_1 (ji12)) : Int).toNat, none⟩ (.bool true))) ?hg ?ho ?hn ?hr ?_; (case ho => rfl); (case hg => rfl); (case hn => rfl); (case hr => first | (go_simp; done) | (go_simp; rfl)); intro w34 hw; have hg : wr.grownBy w34 (some go18) := (by rw [hw]; exact HP33.2); have hp_ : Kd.R Kd.bool 4 w34 w.heap.size (fun _ => True) (.slice (some ⟨go18, 0, none⟩) x7_1.length co18) y175 := (by rw [hw, Ny175.out]; exact HP33.1); clear HP33; have n0_ := Am (hp_); have n1_ := Am (Kd.R_over' (v := (.slice (some ⟨go18, 0, none⟩) x7_1.length co18)) (kr HO174.out) (Kd.R_typed HO_7.out) (by decide) hg); have n2_ := Am ((by rw [hw]; exact below_set (HB.out) GB18.out : Below w.heap.size w w34)); clear HO_7; clear HO174; clear HB; have HO_7 := n0_; have HO174 := n1_; have HB := n2_; clear n0_ n1_ n2_; clear hg hw hp_; obtain ⟨ad176, e176, hx176_0, hx176_1, hx176_2, hx176_3, hx176_4, hx176_5, p176, q176⟩ := t6d HB.out HR0.out (rd x8_1 (ji12)); cases e176))
      go_roundg k1
      case measure => have := HK1.out; omega
      case rel => exact ⟨(y175), (y172), H', ⟨by have := HK1.out; omega⟩, ⟨kr HO_7.out⟩, ⟨kr HO174.out⟩, ⟨bq⟩⟩
    ·rw [if_neg c11] at H
     have c11b0 : decide (0 < (x8_1.length : Int)) = false := decide_eq_false c11
     have c11b1 : decide (0 < x8_1.length) = false := decide_eq_false (by omega)
     clear c11
     simp only [Option.some.injEq, Prod.mk.injEq] at H
     obtain ⟨rfl, rfl, rfl⟩ := H
     obtain ⟨Ao35, co35, eo35⟩ := Kd.R_slice HO_8.out
     subst eo35
     go_wp2
     go_ret3
     exact ⟨_, er, kr HO_7.out, bq⟩
 ·rw [if_neg c3] at H
  obtain ⟨c3b0, c3b1⟩ := ne2 c3
  simp only [Option.some.injEq, Prod.mk.injEq] at H
  obtain ⟨rfl, rfl, rfl⟩ := H
  go_enter Try.func48, Try.ntmps48
  go_wp2_with (first | ((with_reducible refine gc 12 rfl ?_); refine gL 12 Try.func12 #[.slice A0 l0.length c0] ?_; (with_reducible refine (table_Root.calls k _ _ l0 t163 t164 _ ?side1 ?side2 A2.out).mono ?_); (case side1 => exact kc HR0.out); (case side2 => exact HC0.out); rintro e w36 ⟨rfl, hb⟩; refine ⟨_, rfl, ?_⟩; replace HB := Am (below_step bq hb); (try clear hb)))
  go_ret3
  exact ⟨_, er, by first | exact Kd.R_nil _ _ _ _ _ | exact Kd.N_nil _ _ _ _ _ | exact Kd.V_nil _ _ _ _ _ | exact Kd.Q_nil _ _ _ _ _ | exact Kd.S_nil _ _ _ _ _, bq⟩
def steps_alone.f (a0 : Int) : Option (Bool) := if a0 = 1 then (some true) else (if a0 = 11 then (some true) else (some (a0 == 12)))
theorem steps_alone.calls (a0 : Int) (r : Bool) (w : World) (h : steps_alone.f a0 = some r) :
  Calls Try.prog 68 #[.int .i64 a0] w fun e w' => e = .returned (.bool r) ∧ Drawn0 w w' := by
 have H : (if a0 = 1 then (some true) else (if a0 = 11 then (some true) else (some (a0 == 12)))) = some r := h
 clear h
 by_cases c2 : a0 = 1
 ·rw [if_pos c2] at H
  obtain ⟨c2b0, c2b1⟩ := eq2 c2
  clear c2
  obtain rfl := Option.some.inj H
  go_enter Try.func68, Try.ntmps68
  go_wp2
  go_ret
  exact ⟨by first | rfl | (simp; done) | (simp [*]; done), by repeat (first | exact Drawn0.refl _ | apply Drawn0.step)⟩
 ·rw [if_neg c2] at H
  obtain ⟨c2b0, c2b1⟩ := ne2 c2
  by_cases c3 : a0 = 11
  ·rw [if_pos c3] at H
   obtain ⟨c3b0, c3b1⟩ := eq2 c3
   clear c3
   obtain rfl := Option.some.inj H
   go_enter Try.func68, Try.ntmps68
   go_wp2
   go_ret
   exact ⟨by first | rfl | (simp; done) | (simp [*]; done), by repeat (first | exact Drawn0.refl _ | apply Drawn0.step)⟩
  ·rw [if_neg c3] at H
   obtain ⟨c3b0, c3b1⟩ := ne2 c3
   obtain rfl := Option.some.inj H
   go_enter Try.func68, Try.ntmps68
   go_wp2
   go_ret
   exact ⟨by first | rfl | (simp; done) | (simp [*]; done), by repeat (first | exact Drawn0.refl _ | apply Drawn0.step)⟩
def steps_Move_is.f (a0_0 : Int) (a0_1 : Bool) : Option (Bool) := if a0_0 ≥ 1 then (if a0_0 ≤ 12 then (if a0_1 = true then ((steps_alone.f a0_0).bind fun t186 => (some (!t186))) else (some (!false))) else (some false)) else (some false)
theorem steps_Move_is.calls (a0_0 : Int) (a0_1 : Bool) (r : Bool) (w : World) (h : steps_Move_is.f a0_0 a0_1 = some r) :
  Calls Try.prog 84 #[.agg #[.int .i64 a0_0, .bool a0_1]] w (RB w (.bool r)) := by
 have H := Am h
 clear h
 cases a0_1
 ·go_enter Try.func84, Try.ntmps84
  go_wp2
  all_goals
   go_ret
   refine ⟨?_, ba (Below.refl _ _) _⟩
   have h := H.out
   clear H
   unfold steps_Move_is.f at h
   repeat' split at h
   all_goals first | omega | (simp_all; done) | (simp_all; omega)
 ·go_enter Try.func84, Try.ntmps84
  by_cases h1 : 1 ≤ a0_0
  ·by_cases h2 : a0_0 ≤ 12
   ·have h := H.out
    unfold steps_Move_is.f at h
    rw [if_pos h1, if_pos h2, if_pos rfl] at h
    obtain ⟨b, hb, h⟩ := Option.bind_eq_some_iff.1 h
    obtain rfl := Option.some.inj h
    have HB := Am hb
    clear h hb H
    go_wp2_with (refine (steps_alone.calls a0_0 b _ HB.out).mono ?_; rintro _ w' ⟨rfl, hw⟩)
    go_ret
    exact ⟨rfl, (ba (Below.refl _ _) _).trans (hw.below.mono (by simp))⟩
   ·go_wp2
    go_ret
    refine ⟨?_, ba (Below.refl _ _) _⟩
    have h := H.out
    unfold steps_Move_is.f at h
    rw [if_pos h1, if_neg (by omega)] at h
    obtain rfl := Option.some.inj h
    rfl
  ·go_wp2
   go_ret
   refine ⟨?_, ba (Below.refl _ _) _⟩
   have h := H.out
   unfold steps_Move_is.f at h
   rw [if_neg (by omega)] at h
   obtain rfl := Option.some.inj h
   rfl
end
def AtPost (w : World) (t : List S34) (root : Int) (e : Ending) (w' : World) : Prop :=
 ∃ wg : World, e = .returned (.tuple #[.slice (some ⟨wg.heap.size, 0, none⟩) t.length t.length, .int .i64 root, .int .i64 0]) ∧ Below w.heap.size w wg ∧ Forest wg w' t t.length t.length
theorem at_fin (w : World) (t : List S34) (root : Int) : ∀ wg w', Below w.heap.size w wg → Forest wg w' t t.length t.length → AtPost w t root (.returned (.tuple #[.slice (some ⟨wg.heap.size, 0, none⟩) t.length t.length, .int .i64 root, .int .i64 0])) w' := fun wg _ h1 h2 => ⟨wg, rfl, h1, h2⟩
theorem at_err1 (k : Nat) (A0 : Option Addr) (c0 : Nat) (l0 : List S34) (a1 kind : Int) (mir asked : Bool) (r1 : Int) (r2 : List Bool) (r3 : Int) (w : World) (hr0 : Kd.C k34 w A0 l0.length l0) (hc0 : l0.length ≤ c0)
  (h : steps_keys.f k l0 = some (r1, r2, r3)) (h3 : r3 ≠ 0) :
  Calls Try.prog 62 #[.slice A0 l0.length c0, .int .i64 a1, .agg #[.int .i64 kind, .bool mir], .bool asked] w (RB w (.tuple #[.slice none 0 0, .int .i64 0, .int .i64 r3])) := by
 have HR := Am hr0
 have HC := Am hc0
 have H := Am h
 have d3 : (r3 != 0) = true := bne_iff_ne.mpr h3
 clear hr0 hc0 h h3
 go_enter Try.func62, Try.ntmps62
 go_wp2_with (fail)
 refine (steps_keys.calls k A0 c0 l0 r1 r2 r3 _ (Kd.C_below HR.out ((Below.refl _ _).alloc (Nat.le_refl _) _)) HC.out H.out).mono ?_
 rintro e w' ⟨v1, rfl, h1, h2⟩
 obtain ⟨Av, cv, rfl⟩ := Kd.R_slice h1
 have hb : Below w.heap.size w w' := ((Below.refl _ _).alloc (Nat.le_refl _) _).trans (h2.mono (by simp))
 have HB := Am hb
 clear h1 h2 hb
 go_wp2
 go_ret3
 exact ⟨rfl, HB.out⟩
theorem at_err2 (k : Nat) (A0 : Option Addr) (c0 : Nat) (l0 : List S34) (a1 kind : Int) (mir : Bool) (r1 : Int) (r2 : List Bool) (w : World) (hr0 : Kd.C k34 w A0 l0.length l0) (hc0 : l0.length ≤ c0)
  (h : steps_keys.f k l0 = some (r1, r2, 0)) (hm : steps_Move_is.f kind mir = some false) :
  Calls Try.prog 62 #[.slice A0 l0.length c0, .int .i64 a1, .agg #[.int .i64 kind, .bool mir], .bool true] w (RB w (.tuple #[.slice none 0 0, .int .i64 0, .int .i64 5])) := by
 have HR := Am hr0
 have HC := Am hc0
 have H := Am h
 have HM := Am hm
 clear hr0 hc0 h hm
 go_enter Try.func62, Try.ntmps62
 go_wp2_with (fail)
 refine (steps_keys.calls k A0 c0 l0 r1 r2 0 _ (Kd.C_below HR.out ((Below.refl _ _).alloc (Nat.le_refl _) _)) HC.out H.out).mono ?_
 rintro e w' ⟨v1, rfl, h1, h2⟩
 obtain ⟨Av, cv, rfl⟩ := Kd.R_slice h1
 have hc6 : w'.cell? ⟨w.heap.size, 0, none⟩ = some (.int .i64 kind) := (h2.cell (p := ⟨w.heap.size, 0, none⟩) (by simp)).trans (World.cell?_alloc_at _ _ _ _ rfl)
 have hc7 : w'.cell? ⟨w.heap.size, 1, none⟩ = some (.bool mir) := (h2.cell (p := ⟨w.heap.size, 1, none⟩) (by simp)).trans (World.cell?_alloc_at _ _ _ _ rfl)
 have hb : Below w.heap.size w w' := ((Below.refl _ _).alloc (Nat.le_refl _) _).trans (h2.mono (by simp))
 have HB := Am hb
 clear h1 h2 hb
 go_wp2_with (fail)
 refine (steps_Move_is.calls kind mir false _ HM.out).mono ?_
 rintro e w2 ⟨rfl, h2⟩
 have HB2 := Am (HB.out.trans (h2.mono HB.out.size))
 clear h2
 go_wp2
 go_ret3
 exact ⟨rfl, HB2.out⟩
theorem at_err3t (k : Nat) (A0 : Option Addr) (c0 : Nat) (l0 : List S34) (a1 kind : Int) (mir : Bool) (r1 : Int) (r2 : List Bool) (w : World) (hr0 : Kd.C k34 w A0 l0.length l0) (hc0 : l0.length ≤ c0)
  (h : steps_keys.f k l0 = some (r1, r2, 0)) (hm : true = true → steps_Move_is.f kind mir = some true) (hp : a1 < 0 ∨ (l0.length : Int) ≤ a1) :
  Calls Try.prog 62 #[.slice A0 l0.length c0, .int .i64 a1, .agg #[.int .i64 kind, .bool mir], .bool true] w (RB w (.tuple #[.slice none 0 0, .int .i64 0, .int .i64 1])) := by
 have HR := Am hr0
 have HC := Am hc0
 have H := Am h
 have HM := Am hm
 clear hr0 hc0 h hm
 by_cases hneg : a1 < 0
 ·have d0 : decide (a1 < 0) = true := decide_eq_true hneg
  clear hp hneg
  go_enter Try.func62, Try.ntmps62
  go_wp2_with (fail)
  refine (steps_keys.calls k A0 c0 l0 r1 r2 0 _ (Kd.C_below HR.out ((Below.refl _ _).alloc (Nat.le_refl _) _)) HC.out H.out).mono ?_
  rintro e w1 ⟨v1, rfl, h1, h2⟩
  obtain ⟨Av, cv, rfl⟩ := Kd.R_slice h1
  have hb : Below w.heap.size w w1 := ((Below.refl _ _).alloc (Nat.le_refl _) _).trans (h2.mono (by simp))
  have HB := Am hb
  have HV := Am h1
  have hc6 : w1.cell? ⟨w.heap.size, 0, none⟩ = some (.int .i64 kind) := (h2.cell (p := ⟨w.heap.size, 0, none⟩) (by simp)).trans (World.cell?_alloc_at _ _ _ _ rfl)
  have hc7 : w1.cell? ⟨w.heap.size, 1, none⟩ = some (.bool mir) := (h2.cell (p := ⟨w.heap.size, 1, none⟩) (by simp)).trans (World.cell?_alloc_at _ _ _ _ rfl)
  clear h1 h2 hb
  go_wp2_with (fail)
  refine (steps_Move_is.calls kind mir true _ (HM.out (by first | trivial | rfl))).mono ?_
  rintro e w2 ⟨rfl, h2⟩
  have HV2 := Am (Kd.R_below HV.out h2)
  have HB2 := Am (HB.out.trans (h2.mono HB.out.size))
  clear h2 HV HB
  go_wp2
  go_ret3
  exact ⟨rfl, HB2.out⟩
 ·have d0 : decide (a1 < 0) = false := decide_eq_false hneg
  have d1 : decide ((l0.length : Int) ≤ a1) = true := decide_eq_true (by omega)
  clear hp hneg
  go_enter Try.func62, Try.ntmps62
  go_wp2_with (fail)
  refine (steps_keys.calls k A0 c0 l0 r1 r2 0 _ (Kd.C_below HR.out ((Below.refl _ _).alloc (Nat.le_refl _) _)) HC.out H.out).mono ?_
  rintro e w1 ⟨v1, rfl, h1, h2⟩
  obtain ⟨Av, cv, rfl⟩ := Kd.R_slice h1
  have hb : Below w.heap.size w w1 := ((Below.refl _ _).alloc (Nat.le_refl _) _).trans (h2.mono (by simp))
  have HB := Am hb
  have HV := Am h1
  have hc6 : w1.cell? ⟨w.heap.size, 0, none⟩ = some (.int .i64 kind) := (h2.cell (p := ⟨w.heap.size, 0, none⟩) (by simp)).trans (World.cell?_alloc_at _ _ _ _ rfl)
  have hc7 : w1.cell? ⟨w.heap.size, 1, none⟩ = some (.bool mir) := (h2.cell (p := ⟨w.heap.size, 1, none⟩) (by simp)).trans (World.cell?_alloc_at _ _ _ _ rfl)
  clear h1 h2 hb
  go_wp2_with (fail)
  refine (steps_Move_is.calls kind mir true _ (HM.out (by first | trivial | rfl))).mono ?_
  rintro e w2 ⟨rfl, h2⟩
  have HV2 := Am (Kd.R_below HV.out h2)
  have HB2 := Am (HB.out.trans (h2.mono HB.out.size))
  clear h2 HV HB
  go_wp2
  go_ret3
  exact ⟨rfl, HB2.out⟩
theorem at_err4t (k : Nat) (A0 : Option Addr) (c0 : Nat) (l0 : List S34) (a1 kind : Int) (mir : Bool) (r1 : Int) (r2 : List Bool) (w : World) (hr0 : Kd.C k34 w A0 l0.length l0) (hc0 : l0.length ≤ c0)
  (h : steps_keys.f k l0 = some (r1, r2, 0)) (hm : true = true → steps_Move_is.f kind mir = some true) (hp0 : 0 ≤ a1) (hp1 : a1 < l0.length) (hp2 : a1 < r2.length) (hbel : rdOf false r2 a1 = false) :
  Calls Try.prog 62 #[.slice A0 l0.length c0, .int .i64 a1, .agg #[.int .i64 kind, .bool mir], .bool true] w (RB w (.tuple #[.slice none 0 0, .int .i64 0, .int .i64 1])) := by
 have HR := Am hr0
 have HC := Am hc0
 have H := Am h
 have HM := Am hm
 clear hr0 hc0 h hm
 have d0 : decide (a1 < 0) = false := decide_eq_false (by omega)
 have d1 : decide ((l0.length : Int) ≤ a1) = false := decide_eq_false (by omega)
 go_enter Try.func62, Try.ntmps62
 go_wp2_with (fail)
 refine (steps_keys.calls k A0 c0 l0 r1 r2 0 _ (Kd.C_below HR.out ((Below.refl _ _).alloc (Nat.le_refl _) _)) HC.out H.out).mono ?_
 rintro e w1 ⟨v1, rfl, h1, h2⟩
 obtain ⟨Av, cv, rfl⟩ := Kd.R_slice h1
 have hb : Below w.heap.size w w1 := ((Below.refl _ _).alloc (Nat.le_refl _) _).trans (h2.mono (by simp))
 have HB := Am hb
 have HV := Am h1
 have hc6 : w1.cell? ⟨w.heap.size, 0, none⟩ = some (.int .i64 kind) := (h2.cell (p := ⟨w.heap.size, 0, none⟩) (by simp)).trans (World.cell?_alloc_at _ _ _ _ rfl)
 have hc7 : w1.cell? ⟨w.heap.size, 1, none⟩ = some (.bool mir) := (h2.cell (p := ⟨w.heap.size, 1, none⟩) (by simp)).trans (World.cell?_alloc_at _ _ _ _ rfl)
 clear h1 h2 hb
 go_wp2_with (fail)
 refine (steps_Move_is.calls kind mir true _ (HM.out (by first | trivial | rfl))).mono ?_
 rintro e w2 ⟨rfl, h2⟩
 have HV2 := Am (Kd.R_below HV.out h2)
 have HB2 := Am (HB.out.trans (h2.mono HB.out.size))
 clear h2 HV HB
 obtain ⟨adB, eB, hxB⟩ := Kd.at_bool (Kd.R_reads' HV2.out).2.2 a1 hp0 hp2
 cases eB
 rw [hbel] at hxB
 go_wp2
 go_ret3
 exact ⟨rfl, HB2.out⟩
theorem at_okt (k : Nat) (A0 : Option Addr) (c0 : Nat) (l0 : List S34) (a1 kind : Int) (mir : Bool) (r1 : Int) (r2 : List Bool) (w : World) (hr0 : Kd.C k34 w A0 l0.length l0) (hc0 : l0.length ≤ c0)
  (h : steps_keys.f k l0 = some (r1, r2, 0)) (hm : true = true → steps_Move_is.f kind mir = some true) (hp0 : 0 ≤ a1) (hp1 : a1 < l0.length) (hp2 : a1 < r2.length) (hbel : rdOf false r2 a1 = true) (hn : l0.length ≤ 1000000)
  (hc : ∀ i, i < l0.length → 0 ≤ (l0.getD i z34).f4 → (l0.getD i z34).f4 < l0.length ∧ 0 ≤ (l0.getD i z34).f5 ∧ (l0.getD i z34).f5 < l0.length) :
  Calls Try.prog 62 #[.slice A0 l0.length c0, .int .i64 a1, .agg #[.int .i64 kind, .bool mir], .bool true] w fun e w' => AtPost w l0 r1 e w' := by
 have HR := Am hr0
 have HC := Am hc0
 have H := Am h
 have HM := Am hm
 clear hr0 hc0 h hm
 have HG := Am hc
 clear hc
 have d0 : decide (a1 < 0) = false := decide_eq_false (by omega)
 have d1 : decide ((l0.length : Int) ≤ a1) = false := decide_eq_false (by omega)
 have hfin := at_fin w l0 r1
 have HF := Am hfin
 clear hfin
 go_enter Try.func62, Try.ntmps62
 go_wp2_with (fail)
 refine (steps_keys.calls k A0 c0 l0 r1 r2 0 _ (Kd.C_below HR.out ((Below.refl _ _).alloc (Nat.le_refl _) _)) HC.out H.out).mono ?_
 rintro e w1 ⟨v1, rfl, h1, h2⟩
 obtain ⟨Av, cv, rfl⟩ := Kd.R_slice h1
 have hb : Below w.heap.size w w1 := ((Below.refl _ _).alloc (Nat.le_refl _) _).trans (h2.mono (by simp))
 have HB := Am hb
 have HV := Am h1
 have hc6 : w1.cell? ⟨w.heap.size, 0, none⟩ = some (.int .i64 kind) := (h2.cell (p := ⟨w.heap.size, 0, none⟩) (by simp)).trans (World.cell?_alloc_at _ _ _ _ rfl)
 have hc7 : w1.cell? ⟨w.heap.size, 1, none⟩ = some (.bool mir) := (h2.cell (p := ⟨w.heap.size, 1, none⟩) (by simp)).trans (World.cell?_alloc_at _ _ _ _ rfl)
 clear h1 h2 hb
 go_wp2_with (fail)
 refine (steps_Move_is.calls kind mir true _ (HM.out (by first | trivial | rfl))).mono ?_
 rintro e w2 ⟨rfl, h2⟩
 have HV2 := Am (Kd.R_below HV.out h2)
 have HB2 := Am (HB.out.trans (h2.mono HB.out.size))
 clear h2 HV HB
 obtain ⟨adB, eB, hxB⟩ := Kd.at_bool (Kd.R_reads' HV2.out).2.2 a1 hp0 hp2
 cases eB
 rw [hbel] at hxB
 go_wp2_with (fail)
 refine (grow_any A0 c0 l0 _ (Kd.C_below (Kd.C_below HR.out (Below.refl _ _)) HB2.out) hn HG.out).mono ?_
 rintro e w3 ⟨rfl, hfo⟩
 have HFO := Am hfo
 clear hfo
 go_wp2
 go_ret3
 exact HF.out _ _ HB2.out HFO.out
theorem at_err3f (k : Nat) (A0 : Option Addr) (c0 : Nat) (l0 : List S34) (a1 kind : Int) (mir : Bool) (r1 : Int) (r2 : List Bool) (w : World) (hr0 : Kd.C k34 w A0 l0.length l0) (hc0 : l0.length ≤ c0)
  (h : steps_keys.f k l0 = some (r1, r2, 0)) (hm : false = true → steps_Move_is.f kind mir = some true) (hp : a1 < 0 ∨ (l0.length : Int) ≤ a1) :
  Calls Try.prog 62 #[.slice A0 l0.length c0, .int .i64 a1, .agg #[.int .i64 kind, .bool mir], .bool false] w (RB w (.tuple #[.slice none 0 0, .int .i64 0, .int .i64 1])) := by
 have HR := Am hr0
 have HC := Am hc0
 have H := Am h
 have HM := Am hm
 clear hr0 hc0 h hm
 by_cases hneg : a1 < 0
 ·have d0 : decide (a1 < 0) = true := decide_eq_true hneg
  clear hp hneg
  go_enter Try.func62, Try.ntmps62
  go_wp2_with (fail)
  refine (steps_keys.calls k A0 c0 l0 r1 r2 0 _ (Kd.C_below HR.out ((Below.refl _ _).alloc (Nat.le_refl _) _)) HC.out H.out).mono ?_
  rintro e w1 ⟨v1, rfl, h1, h2⟩
  obtain ⟨Av, cv, rfl⟩ := Kd.R_slice h1
  have hb : Below w.heap.size w w1 := ((Below.refl _ _).alloc (Nat.le_refl _) _).trans (h2.mono (by simp))
  have HB := Am hb
  have HV := Am h1
  have HV2 := HV
  have HB2 := HB
  clear h1 h2 hb HV HB
  go_wp2
  go_ret3
  exact ⟨rfl, HB2.out⟩
 ·have d0 : decide (a1 < 0) = false := decide_eq_false hneg
  have d1 : decide ((l0.length : Int) ≤ a1) = true := decide_eq_true (by omega)
  clear hp hneg
  go_enter Try.func62, Try.ntmps62
  go_wp2_with (fail)
  refine (steps_keys.calls k A0 c0 l0 r1 r2 0 _ (Kd.C_below HR.out ((Below.refl _ _).alloc (Nat.le_refl _) _)) HC.out H.out).mono ?_
  rintro e w1 ⟨v1, rfl, h1, h2⟩
  obtain ⟨Av, cv, rfl⟩ := Kd.R_slice h1
  have hb : Below w.heap.size w w1 := ((Below.refl _ _).alloc (Nat.le_refl _) _).trans (h2.mono (by simp))
  have HB := Am hb
  have HV := Am h1
  have HV2 := HV
  have HB2 := HB
  clear h1 h2 hb HV HB
  go_wp2
  go_ret3
  exact ⟨rfl, HB2.out⟩
theorem at_err4f (k : Nat) (A0 : Option Addr) (c0 : Nat) (l0 : List S34) (a1 kind : Int) (mir : Bool) (r1 : Int) (r2 : List Bool) (w : World) (hr0 : Kd.C k34 w A0 l0.length l0) (hc0 : l0.length ≤ c0)
  (h : steps_keys.f k l0 = some (r1, r2, 0)) (hm : false = true → steps_Move_is.f kind mir = some true) (hp0 : 0 ≤ a1) (hp1 : a1 < l0.length) (hp2 : a1 < r2.length) (hbel : rdOf false r2 a1 = false) :
  Calls Try.prog 62 #[.slice A0 l0.length c0, .int .i64 a1, .agg #[.int .i64 kind, .bool mir], .bool false] w (RB w (.tuple #[.slice none 0 0, .int .i64 0, .int .i64 1])) := by
 have HR := Am hr0
 have HC := Am hc0
 have H := Am h
 have HM := Am hm
 clear hr0 hc0 h hm
 have d0 : decide (a1 < 0) = false := decide_eq_false (by omega)
 have d1 : decide ((l0.length : Int) ≤ a1) = false := decide_eq_false (by omega)
 go_enter Try.func62, Try.ntmps62
 go_wp2_with (fail)
 refine (steps_keys.calls k A0 c0 l0 r1 r2 0 _ (Kd.C_below HR.out ((Below.refl _ _).alloc (Nat.le_refl _) _)) HC.out H.out).mono ?_
 rintro e w1 ⟨v1, rfl, h1, h2⟩
 obtain ⟨Av, cv, rfl⟩ := Kd.R_slice h1
 have hb : Below w.heap.size w w1 := ((Below.refl _ _).alloc (Nat.le_refl _) _).trans (h2.mono (by simp))
 have HB := Am hb
 have HV := Am h1
 have HV2 := HV
 have HB2 := HB
 clear h1 h2 hb HV HB
 obtain ⟨adB, eB, hxB⟩ := Kd.at_bool (Kd.R_reads' HV2.out).2.2 a1 hp0 hp2
 cases eB
 rw [hbel] at hxB
 go_wp2
 go_ret3
 exact ⟨rfl, HB2.out⟩
theorem at_okf (k : Nat) (A0 : Option Addr) (c0 : Nat) (l0 : List S34) (a1 kind : Int) (mir : Bool) (r1 : Int) (r2 : List Bool) (w : World) (hr0 : Kd.C k34 w A0 l0.length l0) (hc0 : l0.length ≤ c0)
  (h : steps_keys.f k l0 = some (r1, r2, 0)) (hm : false = true → steps_Move_is.f kind mir = some true) (hp0 : 0 ≤ a1) (hp1 : a1 < l0.length) (hp2 : a1 < r2.length) (hbel : rdOf false r2 a1 = true) (hn : l0.length ≤ 1000000)
  (hc : ∀ i, i < l0.length → 0 ≤ (l0.getD i z34).f4 → (l0.getD i z34).f4 < l0.length ∧ 0 ≤ (l0.getD i z34).f5 ∧ (l0.getD i z34).f5 < l0.length) :
  Calls Try.prog 62 #[.slice A0 l0.length c0, .int .i64 a1, .agg #[.int .i64 kind, .bool mir], .bool false] w fun e w' => AtPost w l0 r1 e w' := by
 have HR := Am hr0
 have HC := Am hc0
 have H := Am h
 have HM := Am hm
 clear hr0 hc0 h hm
 have HG := Am hc
 clear hc
 have d0 : decide (a1 < 0) = false := decide_eq_false (by omega)
 have d1 : decide ((l0.length : Int) ≤ a1) = false := decide_eq_false (by omega)
 have hfin := at_fin w l0 r1
 have HF := Am hfin
 clear hfin
 go_enter Try.func62, Try.ntmps62
 go_wp2_with (fail)
 refine (steps_keys.calls k A0 c0 l0 r1 r2 0 _ (Kd.C_below HR.out ((Below.refl _ _).alloc (Nat.le_refl _) _)) HC.out H.out).mono ?_
 rintro e w1 ⟨v1, rfl, h1, h2⟩
 obtain ⟨Av, cv, rfl⟩ := Kd.R_slice h1
 have hb : Below w.heap.size w w1 := ((Below.refl _ _).alloc (Nat.le_refl _) _).trans (h2.mono (by simp))
 have HB := Am hb
 have HV := Am h1
 have HV2 := HV
 have HB2 := HB
 clear h1 h2 hb HV HB
 obtain ⟨adB, eB, hxB⟩ := Kd.at_bool (Kd.R_reads' HV2.out).2.2 a1 hp0 hp2
 cases eB
 rw [hbel] at hxB
 go_wp2_with (fail)
 refine (grow_any A0 c0 l0 _ (Kd.C_below (Kd.C_below HR.out (Below.refl _ _)) HB2.out) hn HG.out).mono ?_
 rintro e w3 ⟨rfl, hfo⟩
 have HFO := Am hfo
 clear hfo
 go_wp2
 go_ret3
 exact HF.out _ _ HB2.out HFO.out
section
variable {S : Nat → Prop}
theorem ch2 (a b : Bool) : (a = false) ∨ (a = true ∧ b = false) ∨ (a = true ∧ b = true) := by
 cases a <;> cases b <;> simp
theorem ch3 (a b c : Bool) : (a = false) ∨ (a = true ∧ b = false) ∨ (a = true ∧ b = true ∧ c = false) ∨ (a = true ∧ b = true ∧ c = true) := by
 cases a <;> cases b <;> cases c <;> simp
theorem ch4 (a b c d : Bool) : (a = false) ∨ (a = true ∧ b = false) ∨ (a = true ∧ b = true ∧ c = false) ∨ (a = true ∧ b = true ∧ c = true ∧ d = false) ∨ (a = true ∧ b = true ∧ c = true ∧ d = true) := by
 cases a <;> cases b <;> cases c <;> cases d <;> simp
theorem ch5 (a b c d e : Bool) : (a = false) ∨ (a = true ∧ b = false) ∨ (a = true ∧ b = true ∧ c = false) ∨ (a = true ∧ b = true ∧ c = true ∧ d = false) ∨ (a = true ∧ b = true ∧ c = true ∧ d = true ∧ e = false) ∨ (a = true ∧ b = true ∧ c = true ∧ d = true ∧ e = true) := by
 cases a <;> cases b <;> cases c <;> cases d <;> cases e <;> simp
theorem ch6 (a b c d e f : Bool) : (a = false) ∨ (a = true ∧ b = false) ∨ (a = true ∧ b = true ∧ c = false) ∨ (a = true ∧ b = true ∧ c = true ∧ d = false) ∨ (a = true ∧ b = true ∧ c = true ∧ d = true ∧ e = false) ∨ (a = true ∧ b = true ∧ c = true ∧ d = true ∧ e = true ∧ f = false) ∨ (a = true ∧ b = true ∧ c = true ∧ d = true ∧ e = true ∧ f = true) := by
 cases a <;> cases b <;> cases c <;> cases d <;> cases e <;> cases f <;> simp
theorem ch4' (a b c d : Bool) : a = true ∨ (a = false ∧ b = true) ∨ (a = false ∧ b = false ∧ c = true) ∨ (a = false ∧ b = false ∧ c = false ∧ d = true) ∨ (a = false ∧ b = false ∧ c = false ∧ d = false) := by
 revert a b c d
 decide
def can1 (m : Bool) (T : Tr) : Bool := (wt (lT m T) == 0) && (wt (rT m T) == 0) && (decide (0 < wt T)) && ((wt (lT m (lT m T)) == 0) || (wt (rT m (lT m T)) == 0) || (wt (lT m (rT m T)) == 0) || (wt (rT m (rT m T)) == 0))
theorem can1_any (m rt : Bool) (p pl pr pll plr prl prr pa pb : Option Addr) (T : Tr) (w : World) (Hl : Aside0 (Rep S w (.pointer pl) (lT m T))) (Hll : Aside0 (Rep S w (.pointer pll) (lT m (lT m T)))) (Hlr : Aside0 (Rep S w (.pointer plr) (rT m (lT m T)))) (Hr : Aside0 (Rep S w (.pointer pr) (rT m T))) (Hrl : Aside0 (Rep S w (.pointer prl) (lT m (rT m T)))) (Hrr : Aside0 (Rep S w (.pointer prr) (rT m (rT m T)))) (Hx : Aside0 (Rep S w (.pointer p) T)) :
  Calls Try.prog 64 #[.agg #[.bool m, .pointer p, .pointer pl, .pointer pr, .pointer pll, .pointer plr, .pointer prl, .pointer prr, .pointer pa, .pointer pb, .bool rt], .int .i64 1] w (RB w (.bool (can1 m T))) := by
 obtain ⟨r, hr⟩ : ∃ r, can1 m T = r := ⟨_, rfl⟩
 rw [hr]
 have HR := Am hr
 clear hr
 rcases ch3 (wt (lT m T) == 0) (wt (rT m T) == 0) (decide (0 < wt T)) with h0 | ⟨h0, h1⟩ | ⟨h0, h1, h2⟩ | ⟨h0, h1, h2⟩
 rotate_left 3
 rcases ch4' (wt (lT m (lT m T)) == 0) (wt (rT m (lT m T)) == 0) (wt (lT m (rT m T)) == 0) (wt (rT m (rT m T)) == 0) with g0 | ⟨g0, g1⟩ | ⟨g0, g1, g2⟩ | ⟨g0, g1, g2, g3⟩ | ⟨g0, g1, g2, g3⟩
 all_goals
  go_enter Try.func64, Try.ntmps64
  go_wp2_with (first | (go_at_call 87; refine (red_any (S := S) _ _ _ (Rep.below (by first | exact Hl.out | exact Hll.out | exact Hlr.out | exact Hr.out | exact Hrl.out | exact Hrr.out | exact Hx.out) ((Below.refl _ _).alloc (Nat.le_refl _) _))).mono ?_; rintro e w' ⟨rfl, rfl⟩) | (go_at_call 88; refine (black_any (S := S) _ _ _ (Rep.below (by first | exact Hl.out | exact Hll.out | exact Hlr.out | exact Hr.out | exact Hrl.out | exact Hrr.out | exact Hx.out) ((Below.refl _ _).alloc (Nat.le_refl _) _))).mono ?_; rintro e w' ⟨rfl, rfl⟩))
  go_ret
  exact ⟨by rw [← HR.out]; simp only [can1]; simp [*], (Below.refl _ _).alloc (Nat.le_refl _) _⟩
def can2 (m : Bool) (T : Tr) : Bool := (decide (0 < wt T)) && (wt (lT m T) == 0) && (wt (lT m (lT m T)) == 0) && (decide (0 < wt (rT m T)))
theorem can2_any (m rt : Bool) (p pl pr pll plr prl prr pa pb : Option Addr) (T : Tr) (w : World) (Hl : Aside0 (Rep S w (.pointer pl) (lT m T))) (Hll : Aside0 (Rep S w (.pointer pll) (lT m (lT m T)))) (Hr : Aside0 (Rep S w (.pointer pr) (rT m T))) (Hx : Aside0 (Rep S w (.pointer p) T)) :
  Calls Try.prog 64 #[.agg #[.bool m, .pointer p, .pointer pl, .pointer pr, .pointer pll, .pointer plr, .pointer prl, .pointer prr, .pointer pa, .pointer pb, .bool rt], .int .i64 2] w (RB w (.bool (can2 m T))) := by
 obtain ⟨r, hr⟩ : ∃ r, can2 m T = r := ⟨_, rfl⟩
 rw [hr]
 have HR := Am hr
 clear hr
 rcases ch4 (decide (0 < wt T)) (wt (lT m T) == 0) (wt (lT m (lT m T)) == 0) (decide (0 < wt (rT m T))) with h0 | ⟨h0, h1⟩ | ⟨h0, h1, h2⟩ | ⟨h0, h1, h2, h3⟩ | ⟨h0, h1, h2, h3⟩
 all_goals
  go_enter Try.func64, Try.ntmps64
  go_wp2_with (first | (go_at_call 88; refine (black_any (S := S) _ _ _ (Rep.below (by first | exact Hl.out | exact Hll.out | exact Hr.out | exact Hx.out) ((Below.refl _ _).alloc (Nat.le_refl _) _))).mono ?_; rintro e w' ⟨rfl, rfl⟩) | (go_at_call 87; refine (red_any (S := S) _ _ _ (Rep.below (by first | exact Hl.out | exact Hll.out | exact Hr.out | exact Hx.out) ((Below.refl _ _).alloc (Nat.le_refl _) _))).mono ?_; rintro e w' ⟨rfl, rfl⟩))
  go_ret
  exact ⟨by rw [← HR.out]; simp only [can2]; simp [*], (Below.refl _ _).alloc (Nat.le_refl _) _⟩
end
section
variable {S : Nat → Prop}
def can3 (m : Bool) (T : Tr) : Bool := (decide (0 < wt T)) && (wt (lT m T) == 0) && (wt (rT m (lT m T)) == 0) && (innerB (rT m (lT m T))) && (decide (0 < wt (lT m (lT m T)))) && (decide (0 < wt (rT m T)))
theorem can3_any (m rt : Bool) (p pl pr pll plr prl prr pa pb : Option Addr) (T : Tr) (w : World) (Hl : Aside0 (Rep S w (.pointer pl) (lT m T))) (Hll : Aside0 (Rep S w (.pointer pll) (lT m (lT m T)))) (Hlr : Aside0 (Rep S w (.pointer plr) (rT m (lT m T)))) (Hr : Aside0 (Rep S w (.pointer pr) (rT m T))) (Hx : Aside0 (Rep S w (.pointer p) T)) :
  Calls Try.prog 64 #[.agg #[.bool m, .pointer p, .pointer pl, .pointer pr, .pointer pll, .pointer plr, .pointer prl, .pointer prr, .pointer pa, .pointer pb, .bool rt], .int .i64 3] w (RB w (.bool (can3 m T))) := by
 obtain ⟨r, hr⟩ : ∃ r, can3 m T = r := ⟨_, rfl⟩
 rw [hr]
 have HR := Am hr
 clear hr
 rcases ch6 (decide (0 < wt T)) (wt (lT m T) == 0) (wt (rT m (lT m T)) == 0) (innerB (rT m (lT m T))) (decide (0 < wt (lT m (lT m T)))) (decide (0 < wt (rT m T))) with h0 | ⟨h0, h1⟩ | ⟨h0, h1, h2⟩ | ⟨h0, h1, h2, h3⟩ | ⟨h0, h1, h2, h3, h4⟩ | ⟨h0, h1, h2, h3, h4, h5⟩ | ⟨h0, h1, h2, h3, h4, h5⟩
 all_goals
  go_enter Try.func64, Try.ntmps64
  go_wp2_with (first | (go_at_call 88; refine (black_any (S := S) _ _ _ (Rep.below (by first | exact Hl.out | exact Hll.out | exact Hlr.out | exact Hr.out | exact Hx.out) ((Below.refl _ _).alloc (Nat.le_refl _) _))).mono ?_; rintro e w' ⟨rfl, rfl⟩) | (go_at_call 87; refine (red_any (S := S) _ _ _ (Rep.below (by first | exact Hl.out | exact Hll.out | exact Hlr.out | exact Hr.out | exact Hx.out) ((Below.refl _ _).alloc (Nat.le_refl _) _))).mono ?_; rintro e w' ⟨rfl, rfl⟩) | (go_at_call 89; refine (inner_any (S := S) _ _ _ (Rep.below (by first | exact Hl.out | exact Hll.out | exact Hlr.out | exact Hr.out | exact Hx.out) ((Below.refl _ _).alloc (Nat.le_refl _) _))).mono ?_; rintro e w' ⟨rfl, rfl⟩))
  go_ret
  exact ⟨by rw [← HR.out]; simp only [can3]; simp [*], (Below.refl _ _).alloc (Nat.le_refl _) _⟩
def can4 (m : Bool) (T : Tr) : Bool := (decide (1 < wt (lT m T))) && (wt (rT m T) == 1) && (decide (0 < wt (lT m (rT m T)))) && (decide (0 < wt (rT m (rT m T))))
theorem can4_any (m rt : Bool) (p pl pr pll plr prl prr pa pb : Option Addr) (T : Tr) (w : World) (Hl : Aside0 (Rep S w (.pointer pl) (lT m T))) (Hr : Aside0 (Rep S w (.pointer pr) (rT m T))) (Hrl : Aside0 (Rep S w (.pointer prl) (lT m (rT m T)))) (Hrr : Aside0 (Rep S w (.pointer prr) (rT m (rT m T)))) :
  Calls Try.prog 64 #[.agg #[.bool m, .pointer p, .pointer pl, .pointer pr, .pointer pll, .pointer plr, .pointer prl, .pointer prr, .pointer pa, .pointer pb, .bool rt], .int .i64 4] w (RB w (.bool (can4 m T))) := by
 obtain ⟨r, hr⟩ : ∃ r, can4 m T = r := ⟨_, rfl⟩
 rw [hr]
 have HR := Am hr
 clear hr
 rcases ch4 (decide (1 < wt (lT m T))) (wt (rT m T) == 1) (decide (0 < wt (lT m (rT m T)))) (decide (0 < wt (rT m (rT m T)))) with h0 | ⟨h0, h1⟩ | ⟨h0, h1, h2⟩ | ⟨h0, h1, h2, h3⟩ | ⟨h0, h1, h2, h3⟩
 all_goals
  go_enter Try.func64, Try.ntmps64
  go_wp2_with (first | (go_at_call 90; refine (over_any (S := S) _ _ _ (Rep.below (by first | exact Hl.out | exact Hr.out | exact Hrl.out | exact Hrr.out) ((Below.refl _ _).alloc (Nat.le_refl _) _))).mono ?_; rintro e w' ⟨rfl, rfl⟩) | (go_at_call 91; refine (one_any (S := S) _ _ _ (Rep.below (by first | exact Hl.out | exact Hr.out | exact Hrl.out | exact Hrr.out) ((Below.refl _ _).alloc (Nat.le_refl _) _))).mono ?_; rintro e w' ⟨rfl, rfl⟩) | (go_at_call 88; refine (black_any (S := S) _ _ _ (Rep.below (by first | exact Hl.out | exact Hr.out | exact Hrl.out | exact Hrr.out) ((Below.refl _ _).alloc (Nat.le_refl _) _))).mono ?_; rintro e w' ⟨rfl, rfl⟩))
  go_ret
  exact ⟨by rw [← HR.out]; simp only [can4]; simp [*], (Below.refl _ _).alloc (Nat.le_refl _) _⟩
def can11 (m : Bool) (T : Tr) : Bool := (decide (1 < wt (lT m T))) && (decide (1 < wt (rT m T)))
theorem can11_any (m rt : Bool) (p pl pr pll plr prl prr pa pb : Option Addr) (T : Tr) (w : World) (Hl : Aside0 (Rep S w (.pointer pl) (lT m T))) (Hr : Aside0 (Rep S w (.pointer pr) (rT m T))) :
  Calls Try.prog 64 #[.agg #[.bool m, .pointer p, .pointer pl, .pointer pr, .pointer pll, .pointer plr, .pointer prl, .pointer prr, .pointer pa, .pointer pb, .bool rt], .int .i64 11] w (RB w (.bool (can11 m T))) := by
 obtain ⟨r, hr⟩ : ∃ r, can11 m T = r := ⟨_, rfl⟩
 rw [hr]
 have HR := Am hr
 clear hr
 rcases ch2 (decide (1 < wt (lT m T))) (decide (1 < wt (rT m T))) with h0 | ⟨h0, h1⟩ | ⟨h0, h1⟩
 all_goals
  go_enter Try.func64, Try.ntmps64
  go_wp2_with (first | (go_at_call 90; refine (over_any (S := S) _ _ _ (Rep.below (by first | exact Hl.out | exact Hr.out) ((Below.refl _ _).alloc (Nat.le_refl _) _))).mono ?_; rintro e w' ⟨rfl, rfl⟩))
  go_ret
  exact ⟨by rw [← HR.out]; simp only [can11]; simp [*], (Below.refl _ _).alloc (Nat.le_refl _) _⟩
end
section
variable {S : Nat → Prop}
def can9 (m : Bool) (T : Tr) : Bool := (decide (1 < wt (lT m T))) && (wt (rT m T) == 1) && (wt (rT m (rT m T)) == 0)
theorem can9_any (m rt : Bool) (p pl pr pll plr prl prr pa pb : Option Addr) (T : Tr) (w : World) (Hl : Aside0 (Rep S w (.pointer pl) (lT m T))) (Hr : Aside0 (Rep S w (.pointer pr) (rT m T))) (Hrr : Aside0 (Rep S w (.pointer prr) (rT m (rT m T)))) :
  Calls Try.prog 64 #[.agg #[.bool m, .pointer p, .pointer pl, .pointer pr, .pointer pll, .pointer plr, .pointer prl, .pointer prr, .pointer pa, .pointer pb, .bool rt], .int .i64 9] w (RB w (.bool (can9 m T))) := by
 obtain ⟨r, hr⟩ : ∃ r, can9 m T = r := ⟨_, rfl⟩
 rw [hr]
 have HR := Am hr
 clear hr
 rcases ch3 (decide (1 < wt (lT m T))) (wt (rT m T) == 1) (wt (rT m (rT m T)) == 0) with h0 | ⟨h0, h1⟩ | ⟨h0, h1, h2⟩ | ⟨h0, h1, h2⟩
 all_goals
  go_enter Try.func64, Try.ntmps64
  go_wp2_with (first | (go_at_call 90; refine (over_any (S := S) _ _ _ (Rep.below (by first | exact Hl.out | exact Hr.out | exact Hrr.out) ((Below.refl _ _).alloc (Nat.le_refl _) _))).mono ?_; rintro e w' ⟨rfl, rfl⟩) | (go_at_call 91; refine (one_any (S := S) _ _ _ (Rep.below (by first | exact Hl.out | exact Hr.out | exact Hrr.out) ((Below.refl _ _).alloc (Nat.le_refl _) _))).mono ?_; rintro e w' ⟨rfl, rfl⟩) | (go_at_call 87; refine (red_any (S := S) _ _ _ (Rep.below (by first | exact Hl.out | exact Hr.out | exact Hrr.out) ((Below.refl _ _).alloc (Nat.le_refl _) _))).mono ?_; rintro e w' ⟨rfl, rfl⟩))
  go_ret
  exact ⟨by rw [← HR.out]; simp only [can9]; simp [*], (Below.refl _ _).alloc (Nat.le_refl _) _⟩
def can10 (m : Bool) (T : Tr) : Bool := (decide (1 < wt (lT m T))) && (wt (rT m T) == 1) && (wt (lT m (rT m T)) == 0) && (innerB (lT m (rT m T))) && (decide (0 < wt (rT m (rT m T))))
theorem can10_any (m rt : Bool) (p pl pr pll plr prl prr pa pb : Option Addr) (T : Tr) (w : World) (Hl : Aside0 (Rep S w (.pointer pl) (lT m T))) (Hr : Aside0 (Rep S w (.pointer pr) (rT m T))) (Hrl : Aside0 (Rep S w (.pointer prl) (lT m (rT m T)))) (Hrr : Aside0 (Rep S w (.pointer prr) (rT m (rT m T)))) :
  Calls Try.prog 64 #[.agg #[.bool m, .pointer p, .pointer pl, .pointer pr, .pointer pll, .pointer plr, .pointer prl, .pointer prr, .pointer pa, .pointer pb, .bool rt], .int .i64 10] w (RB w (.bool (can10 m T))) := by
 obtain ⟨r, hr⟩ : ∃ r, can10 m T = r := ⟨_, rfl⟩
 rw [hr]
 have HR := Am hr
 clear hr
 rcases ch5 (decide (1 < wt (lT m T))) (wt (rT m T) == 1) (wt (lT m (rT m T)) == 0) (innerB (lT m (rT m T))) (decide (0 < wt (rT m (rT m T)))) with h0 | ⟨h0, h1⟩ | ⟨h0, h1, h2⟩ | ⟨h0, h1, h2, h3⟩ | ⟨h0, h1, h2, h3, h4⟩ | ⟨h0, h1, h2, h3, h4⟩
 all_goals
  go_enter Try.func64, Try.ntmps64
  go_wp2_with (first | (go_at_call 90; refine (over_any (S := S) _ _ _ (Rep.below (by first | exact Hl.out | exact Hr.out | exact Hrl.out | exact Hrr.out) ((Below.refl _ _).alloc (Nat.le_refl _) _))).mono ?_; rintro e w' ⟨rfl, rfl⟩) | (go_at_call 91; refine (one_any (S := S) _ _ _ (Rep.below (by first | exact Hl.out | exact Hr.out | exact Hrl.out | exact Hrr.out) ((Below.refl _ _).alloc (Nat.le_refl _) _))).mono ?_; rintro e w' ⟨rfl, rfl⟩) | (go_at_call 87; refine (red_any (S := S) _ _ _ (Rep.below (by first | exact Hl.out | exact Hr.out | exact Hrl.out | exact Hrr.out) ((Below.refl _ _).alloc (Nat.le_refl _) _))).mono ?_; rintro e w' ⟨rfl, rfl⟩) | (go_at_call 89; refine (inner_any (S := S) _ _ _ (Rep.below (by first | exact Hl.out | exact Hr.out | exact Hrl.out | exact Hrr.out) ((Below.refl _ _).alloc (Nat.le_refl _) _))).mono ?_; rintro e w' ⟨rfl, rfl⟩) | (go_at_call 88; refine (black_any (S := S) _ _ _ (Rep.below (by first | exact Hl.out | exact Hr.out | exact Hrl.out | exact Hrr.out) ((Below.refl _ _).alloc (Nat.le_refl _) _))).mono ?_; rintro e w' ⟨rfl, rfl⟩))
  go_ret
  exact ⟨by rw [← HR.out]; simp only [can10]; simp [*], (Below.refl _ _).alloc (Nat.le_refl _) _⟩
def can5 (m : Bool) (T : Tr) : Bool := (decide (1 < wt (lT m T))) && (wt (rT m T) == 0) && (decide (1 < wt (lT m (rT m T))))
theorem can5_any (m rt : Bool) (p pl pr pll plr prl prr pa pb : Option Addr) (T : Tr) (w : World) (Hl : Aside0 (Rep S w (.pointer pl) (lT m T))) (Hr : Aside0 (Rep S w (.pointer pr) (rT m T))) (Hrl : Aside0 (Rep S w (.pointer prl) (lT m (rT m T)))) :
  Calls Try.prog 64 #[.agg #[.bool m, .pointer p, .pointer pl, .pointer pr, .pointer pll, .pointer plr, .pointer prl, .pointer prr, .pointer pa, .pointer pb, .bool rt], .int .i64 5] w (RB w (.bool (can5 m T))) := by
 obtain ⟨r, hr⟩ : ∃ r, can5 m T = r := ⟨_, rfl⟩
 rw [hr]
 have HR := Am hr
 clear hr
 rcases ch3 (decide (1 < wt (lT m T))) (wt (rT m T) == 0) (decide (1 < wt (lT m (rT m T)))) with h0 | ⟨h0, h1⟩ | ⟨h0, h1, h2⟩ | ⟨h0, h1, h2⟩
 all_goals
  go_enter Try.func64, Try.ntmps64
  go_wp2_with (first | (go_at_call 90; refine (over_any (S := S) _ _ _ (Rep.below (by first | exact Hl.out | exact Hr.out | exact Hrl.out) ((Below.refl _ _).alloc (Nat.le_refl _) _))).mono ?_; rintro e w' ⟨rfl, rfl⟩) | (go_at_call 87; refine (red_any (S := S) _ _ _ (Rep.below (by first | exact Hl.out | exact Hr.out | exact Hrl.out) ((Below.refl _ _).alloc (Nat.le_refl _) _))).mono ?_; rintro e w' ⟨rfl, rfl⟩))
  go_ret
  exact ⟨by rw [← HR.out]; simp only [can5]; simp [*], (Below.refl _ _).alloc (Nat.le_refl _) _⟩
end
section
variable {S : Nat → Prop}
def can6 (m : Bool) (T : Tr) : Bool := (decide (1 < wt (lT m T))) && (wt (rT m T) == 0) && (wt (lT m (rT m T)) == 1) && (decide (0 < wt (lT m (lT m (rT m T))))) && (decide (0 < wt (rT m (lT m (rT m T)))))
theorem can6_any (m rt : Bool) (p pl pr pll plr prl prr pa pb : Option Addr) (T : Tr) (w : World) (Ha : Aside0 (Rep S w (.pointer pa) (lT m (lT m (rT m T))))) (Hb : Aside0 (Rep S w (.pointer pb) (rT m (lT m (rT m T))))) (Hl : Aside0 (Rep S w (.pointer pl) (lT m T))) (Hr : Aside0 (Rep S w (.pointer pr) (rT m T))) (Hrl : Aside0 (Rep S w (.pointer prl) (lT m (rT m T)))) :
  Calls Try.prog 64 #[.agg #[.bool m, .pointer p, .pointer pl, .pointer pr, .pointer pll, .pointer plr, .pointer prl, .pointer prr, .pointer pa, .pointer pb, .bool rt], .int .i64 6] w (RB w (.bool (can6 m T))) := by
 obtain ⟨r, hr⟩ : ∃ r, can6 m T = r := ⟨_, rfl⟩
 rw [hr]
 have HR := Am hr
 clear hr
 rcases ch5 (decide (1 < wt (lT m T))) (wt (rT m T) == 0) (wt (lT m (rT m T)) == 1) (decide (0 < wt (lT m (lT m (rT m T))))) (decide (0 < wt (rT m (lT m (rT m T))))) with h0 | ⟨h0, h1⟩ | ⟨h0, h1, h2⟩ | ⟨h0, h1, h2, h3⟩ | ⟨h0, h1, h2, h3, h4⟩ | ⟨h0, h1, h2, h3, h4⟩
 all_goals
  go_enter Try.func64, Try.ntmps64
  go_wp2_with (first | (go_at_call 90; refine (over_any (S := S) _ _ _ (Rep.below (by first | exact Ha.out | exact Hb.out | exact Hl.out | exact Hr.out | exact Hrl.out) ((Below.refl _ _).alloc (Nat.le_refl _) _))).mono ?_; rintro e w' ⟨rfl, rfl⟩) | (go_at_call 87; refine (red_any (S := S) _ _ _ (Rep.below (by first | exact Ha.out | exact Hb.out | exact Hl.out | exact Hr.out | exact Hrl.out) ((Below.refl _ _).alloc (Nat.le_refl _) _))).mono ?_; rintro e w' ⟨rfl, rfl⟩) | (go_at_call 91; refine (one_any (S := S) _ _ _ (Rep.below (by first | exact Ha.out | exact Hb.out | exact Hl.out | exact Hr.out | exact Hrl.out) ((Below.refl _ _).alloc (Nat.le_refl _) _))).mono ?_; rintro e w' ⟨rfl, rfl⟩) | (go_at_call 88; refine (black_any (S := S) _ _ _ (Rep.below (by first | exact Ha.out | exact Hb.out | exact Hl.out | exact Hr.out | exact Hrl.out) ((Below.refl _ _).alloc (Nat.le_refl _) _))).mono ?_; rintro e w' ⟨rfl, rfl⟩))
  go_ret
  exact ⟨by rw [← HR.out]; simp only [can6]; simp [*], (Below.refl _ _).alloc (Nat.le_refl _) _⟩
def can7 (m : Bool) (T : Tr) : Bool := (decide (1 < wt (lT m T))) && (wt (rT m T) == 0) && (wt (lT m (rT m T)) == 1) && (wt (lT m (lT m (rT m T))) == 0) && (innerB (lT m (lT m (rT m T)))) && (decide (0 < wt (rT m (lT m (rT m T)))))
theorem can7_any (m rt : Bool) (p pl pr pll plr prl prr pa pb : Option Addr) (T : Tr) (w : World) (Ha : Aside0 (Rep S w (.pointer pa) (lT m (lT m (rT m T))))) (Hb : Aside0 (Rep S w (.pointer pb) (rT m (lT m (rT m T))))) (Hl : Aside0 (Rep S w (.pointer pl) (lT m T))) (Hr : Aside0 (Rep S w (.pointer pr) (rT m T))) (Hrl : Aside0 (Rep S w (.pointer prl) (lT m (rT m T)))) :
  Calls Try.prog 64 #[.agg #[.bool m, .pointer p, .pointer pl, .pointer pr, .pointer pll, .pointer plr, .pointer prl, .pointer prr, .pointer pa, .pointer pb, .bool rt], .int .i64 7] w (RB w (.bool (can7 m T))) := by
 obtain ⟨r, hr⟩ : ∃ r, can7 m T = r := ⟨_, rfl⟩
 rw [hr]
 have HR := Am hr
 clear hr
 rcases ch6 (decide (1 < wt (lT m T))) (wt (rT m T) == 0) (wt (lT m (rT m T)) == 1) (wt (lT m (lT m (rT m T))) == 0) (innerB (lT m (lT m (rT m T)))) (decide (0 < wt (rT m (lT m (rT m T))))) with h0 | ⟨h0, h1⟩ | ⟨h0, h1, h2⟩ | ⟨h0, h1, h2, h3⟩ | ⟨h0, h1, h2, h3, h4⟩ | ⟨h0, h1, h2, h3, h4, h5⟩ | ⟨h0, h1, h2, h3, h4, h5⟩
 all_goals
  go_enter Try.func64, Try.ntmps64
  go_wp2_with (first | (go_at_call 90; refine (over_any (S := S) _ _ _ (Rep.below (by first | exact Ha.out | exact Hb.out | exact Hl.out | exact Hr.out | exact Hrl.out) ((Below.refl _ _).alloc (Nat.le_refl _) _))).mono ?_; rintro e w' ⟨rfl, rfl⟩) | (go_at_call 87; refine (red_any (S := S) _ _ _ (Rep.below (by first | exact Ha.out | exact Hb.out | exact Hl.out | exact Hr.out | exact Hrl.out) ((Below.refl _ _).alloc (Nat.le_refl _) _))).mono ?_; rintro e w' ⟨rfl, rfl⟩) | (go_at_call 91; refine (one_any (S := S) _ _ _ (Rep.below (by first | exact Ha.out | exact Hb.out | exact Hl.out | exact Hr.out | exact Hrl.out) ((Below.refl _ _).alloc (Nat.le_refl _) _))).mono ?_; rintro e w' ⟨rfl, rfl⟩) | (go_at_call 89; refine (inner_any (S := S) _ _ _ (Rep.below (by first | exact Ha.out | exact Hb.out | exact Hl.out | exact Hr.out | exact Hrl.out) ((Below.refl _ _).alloc (Nat.le_refl _) _))).mono ?_; rintro e w' ⟨rfl, rfl⟩) | (go_at_call 88; refine (black_any (S := S) _ _ _ (Rep.below (by first | exact Ha.out | exact Hb.out | exact Hl.out | exact Hr.out | exact Hrl.out) ((Below.refl _ _).alloc (Nat.le_refl _) _))).mono ?_; rintro e w' ⟨rfl, rfl⟩))
  go_ret
  exact ⟨by rw [← HR.out]; simp only [can7]; simp [*], (Below.refl _ _).alloc (Nat.le_refl _) _⟩
def can8 (m : Bool) (T : Tr) : Bool := (decide (1 < wt (lT m T))) && (wt (rT m T) == 0) && (wt (lT m (rT m T)) == 1) && (wt (rT m (lT m (rT m T))) == 0)
theorem can8_any (m rt : Bool) (p pl pr pll plr prl prr pa pb : Option Addr) (T : Tr) (w : World) (Hb : Aside0 (Rep S w (.pointer pb) (rT m (lT m (rT m T))))) (Hl : Aside0 (Rep S w (.pointer pl) (lT m T))) (Hr : Aside0 (Rep S w (.pointer pr) (rT m T))) (Hrl : Aside0 (Rep S w (.pointer prl) (lT m (rT m T)))) :
  Calls Try.prog 64 #[.agg #[.bool m, .pointer p, .pointer pl, .pointer pr, .pointer pll, .pointer plr, .pointer prl, .pointer prr, .pointer pa, .pointer pb, .bool rt], .int .i64 8] w (RB w (.bool (can8 m T))) := by
 obtain ⟨r, hr⟩ : ∃ r, can8 m T = r := ⟨_, rfl⟩
 rw [hr]
 have HR := Am hr
 clear hr
 rcases ch4 (decide (1 < wt (lT m T))) (wt (rT m T) == 0) (wt (lT m (rT m T)) == 1) (wt (rT m (lT m (rT m T))) == 0) with h0 | ⟨h0, h1⟩ | ⟨h0, h1, h2⟩ | ⟨h0, h1, h2, h3⟩ | ⟨h0, h1, h2, h3⟩
 all_goals
  go_enter Try.func64, Try.ntmps64
  go_wp2_with (first | (go_at_call 90; refine (over_any (S := S) _ _ _ (Rep.below (by first | exact Hb.out | exact Hl.out | exact Hr.out | exact Hrl.out) ((Below.refl _ _).alloc (Nat.le_refl _) _))).mono ?_; rintro e w' ⟨rfl, rfl⟩) | (go_at_call 87; refine (red_any (S := S) _ _ _ (Rep.below (by first | exact Hb.out | exact Hl.out | exact Hr.out | exact Hrl.out) ((Below.refl _ _).alloc (Nat.le_refl _) _))).mono ?_; rintro e w' ⟨rfl, rfl⟩) | (go_at_call 91; refine (one_any (S := S) _ _ _ (Rep.below (by first | exact Hb.out | exact Hl.out | exact Hr.out | exact Hrl.out) ((Below.refl _ _).alloc (Nat.le_refl _) _))).mono ?_; rintro e w' ⟨rfl, rfl⟩))
  go_ret
  exact ⟨by rw [← HR.out]; simp only [can8]; simp [*], (Below.refl _ _).alloc (Nat.le_refl _) _⟩
end
section
variable {S : Nat → Prop}
def keyT : Tr → Int
 | .nil => 0
 | .node n _ _ _ => n.f0
def DoPost (S : Nat → Prop) (w : World) (R : Tr) (e : Ending) (w' : World) : Prop := ∃ q W, e = .returned (.pointer q) ∧ Below w.heap.size w W ∧ Below W.heap.size W w' ∧ TopRep S W w' (.pointer q) R
theorem do_fin (w : World) (R : Tr) : ∀ (q : Option Addr) (W w' : World), Below w.heap.size w W → Below W.heap.size W w' → TopRep S W w' (.pointer q) R → DoPost S w R (.returned (.pointer q)) w' := fun q W _ h1 h2 h3 => ⟨q, W, rfl, h1, h2, h3⟩
end
section
variable {S : Nat → Prop}
theorem do1_any (m rt : Bool) (p pl pr pll plr prl prr pa pb : Option Addr) {nx : S34} {qx : Int} {lx rx : Tr} {nl : S34} {ql : Int} {ll rl : Tr} {nr : S34} {qr : Int} {lr rr : Tr} {X : Tr} {L : Tr} {R : Tr} (w : World) (hS : ∀ k, w.heap.size ≤ k → S k) (ex : X = .node nx qx lx rx) (el : L = .node nl ql ll rl) (er : R = .node nr qr lr rr) (Hx : Aside0 (Rep S w (.pointer p) X)) (Hl : Aside0 (Rep S w (.pointer pl) L)) (Hr : Aside0 (Rep S w (.pointer pr) R)) :
  Calls Try.prog 65 #[.agg #[.bool m, .pointer p, .pointer pl, .pointer pr, .pointer pll, .pointer plr, .pointer prl, .pointer prr, .pointer pa, .pointer pb, .bool rt], .int .i64 1] w fun e w' => DoPost S w (putT m (keyT X) (wrap64 (wt X - 1)) (asT 1 L) (asT 1 R)) e w' := by
 have Ex := Am ex
 clear ex
 have El := Am el
 clear el
 have Er := Am er
 clear er
 have HSS := Am hS
 clear hS
 have hfin := do_fin (S := S) w (putT m (keyT X) (wrap64 (wt X - 1)) (asT 1 L) (asT 1 R))
 have HF := Am hfin
 clear hfin
 go_enter Try.func65, Try.ntmps65
 go_wp2_with (fail)
 refine (weight_any _ _ _ (Hx.out.below ((Below.refl _ _).alloc (Nat.le_refl _) _))).mono ?_
 rintro e w' ⟨rfl, rfl⟩
 go_wp2
 have HB0 : Aside0 (Below w.heap.size w (w.alloc (.cells #[.bool m, .pointer p, .pointer pl, .pointer pr, .pointer pll, .pointer plr, .pointer prl, .pointer prr, .pointer pa, .pointer pb, .bool rt] 111))) := ⟨(Below.refl _ _).alloc (Nat.le_refl _) _⟩
 have HV0 : Aside0 ((w.alloc (.cells #[.bool m, .pointer p, .pointer pl, .pointer pr, .pointer pll, .pointer plr, .pointer prl, .pointer prr, .pointer pa, .pointer pb, .bool rt] 111)).heap[w.heap.size]? = some (.cells #[.bool m, .pointer p, .pointer pl, .pointer pr, .pointer pll, .pointer plr, .pointer prl, .pointer prr, .pointer pa, .pointer pb, .bool rt] 111 (0, 0))) := ⟨heap_alloc_new w _⟩
 generalize w.alloc (.cells #[.bool m, .pointer p, .pointer pl, .pointer pr, .pointer pll, .pointer plr, .pointer prl, .pointer prr, .pointer pa, .pointer pb, .bool rt] 111) = w1 at HB0 HV0 ⊢
 obtain ⟨g, hg⟩ : ∃ g, g = w.heap.size := ⟨_, rfl⟩
 rw [← hg] at HV0 ⊢
 clear hg
 have HB0_ := Am (bd HB0.out)
 have HV0_ : Aside0 (w1.drew.heap[g]? = some (.cells #[.bool m, .pointer p, .pointer pl, .pointer pr, .pointer pll, .pointer plr, .pointer prl, .pointer prr, .pointer pa, .pointer pb, .bool rt] 111 (0, 0))) := ⟨HV0.out⟩
 clear HB0 HV0 
 have HB0 := HB0_
 have HV0 := HV0_
 clear HB0_ HV0_
 refine sT 13 [] (S := fun w' => w'.cell? ⟨g, 0, none⟩ = some (.bool m) ∧ w'.cell? ⟨g, 1, none⟩ = some (.pointer p) ∧ w'.cell? ⟨g, 2, none⟩ = some (.pointer pl) ∧ w'.cell? ⟨g, 3, none⟩ = some (.pointer pr) ∧ w'.cell? ⟨g, 4, none⟩ = some (.pointer pll) ∧ w'.cell? ⟨g, 5, none⟩ = some (.pointer plr) ∧ w'.cell? ⟨g, 6, none⟩ = some (.pointer prl) ∧ w'.cell? ⟨g, 7, none⟩ = some (.pointer prr) ∧ w'.cell? ⟨g, 8, none⟩ = some (.pointer pa) ∧ w'.cell? ⟨g, 9, none⟩ = some (.pointer pb) ∧ w'.cell? ⟨g, 10, none⟩ = some (.bool rt)) (vc11 HV0.out) fun hHeld => ?_
 refine pu 1 15 ?_
 refine pu 3 17 ?_
 refine pu 4 18 ?_
 refine pu 5 19 ?_
 refine pu 8 22 ?_
 refine ta 0 14 hHeld ?_
 refine ta 2 16 hHeld ?_
 refine ta 6 20 hHeld ?_
 refine ta 9 23 hHeld ?_
 refine on 7 21 fun K hK => ?_
 refine gO Try.func94 #[.pointer pl, .int .i64 1] ?_
 with_reducible refine (as_any _ _ _ _ _ _ _ (fun k hk => HSS.out k (Nat.le_trans HB0.out.size hk)) (by rw [← El.out]; exact (Hl.out.below HB0.out))).mono ?_
 rw [← El.out]
 rintro e w1_ ⟨v', rfl, h1, h2⟩
 obtain ⟨q1, rfl⟩ := h1.ptr
 have HB1 := Am (HB0.out.trans (h2.mono HB0.out.size))
 have HNq1 := Am (TopRep.rep h1 h2)
 have HV1 := Am ((h2.block _ (Array.getElem?_eq_some_iff.1 HV0.out).1).trans HV0.out)
 clear h1 h2 HB0 HV0
 refine ⟨_, rfl, ?_⟩
 refine hK.out _ _ (vc11 HV1.out) (fun hHeld => ?_)
 clear hK K
 refine nm 21 ?_
 refine on 10 24 fun K hK => ?_
 refine gO Try.func94 #[.pointer pr, .int .i64 1] ?_
 with_reducible refine (as_any _ _ _ _ _ _ _ (fun k hk => HSS.out k (Nat.le_trans HB1.out.size hk)) (by rw [← Er.out]; exact (Hr.out.below HB1.out))).mono ?_
 rw [← Er.out]
 rintro e w2_ ⟨v', rfl, h1, h2⟩
 obtain ⟨q2, rfl⟩ := h1.ptr
 have HB2 := Am (HB1.out.trans (h2.mono HB1.out.size))
 have HNq2 := Am (TopRep.rep h1 h2)
 have HV2 := Am ((h2.block _ (Array.getElem?_eq_some_iff.1 HV1.out).1).trans HV1.out)
 replace HNq1 := Am (Rep.below HNq1.out h2)
 clear h1 h2 HB1 HV1
 refine ⟨_, rfl, ?_⟩
 refine hK.out _ _ (vc11 HV2.out) (fun hHeld => ?_)
 clear hK K
 refine nm 24 ?_
 refine on 11 25 fun K hK => ?_
 refine gO Try.func93 #[.agg #[.bool m, .pointer p, .pointer pl, .pointer pr, .pointer pll, .pointer plr, .pointer prl, .pointer prr, .pointer pa, .pointer pb, .bool rt], .pointer p, .int .i64 (wrap64 (wt X - 1)), .pointer q1, .pointer q2] ?_
 with_reducible refine (put_any _ _ _ _ _ _ _ _ _ _ _ _ _ _ _ _ _ _ _ _ _ _ (fun k hk => HSS.out k (Nat.le_trans HB2.out.size hk)) (by rw [← Ex.out]; exact (Hx.out.below HB2.out)) HNq1.out HNq2.out).mono ?_
 rw [show nx.f0 = keyT X from by rw [Ex.out]; rfl]
 rintro e w3_ ⟨v', rfl, h1, h2⟩
 obtain ⟨q3, rfl⟩ := h1.ptr
 have HB3 := Am (HB2.out.trans (h2.mono HB2.out.size))
 have HNq3 := Am (TopRep.rep h1 h2)
 have HTOP := Am h1
 have HTB := Am h2
 have HTW := HB2
 have HV3 := Am ((h2.block _ (Array.getElem?_eq_some_iff.1 HV2.out).1).trans HV2.out)
 replace HNq1 := Am (Rep.below HNq1.out h2)
 replace HNq2 := Am (Rep.below HNq2.out h2)
 clear h1 h2 HB2 HV2
 refine ⟨_, rfl, ?_⟩
 refine hK.out _ _ (vc11 HV3.out) (fun hHeld => ?_)
 clear hK K
 refine nm 25 ?_
 refine pu 12 4 ?_
 refine done_ (by kernel_rfl) ?_
 try clear hHeld
 go_wp2
 go_ret
 exact HF.out _ _ _ HTW.out HTB.out HTOP.out
theorem do12_any (m rt : Bool) (p pl pr pll plr prl prr pa pb : Option Addr) {nx : S34} {qx : Int} {lx rx : Tr} {X : Tr} (w : World) (hS : ∀ k, w.heap.size ≤ k → S k) (ex : X = .node nx qx lx rx) (Hx : Aside0 (Rep S w (.pointer p) X)) :
  Calls Try.prog 65 #[.agg #[.bool m, .pointer p, .pointer pl, .pointer pr, .pointer pll, .pointer plr, .pointer prl, .pointer prr, .pointer pa, .pointer pb, .bool rt], .int .i64 12] w fun e w' => DoPost S w (asT 1 X) e w' := by
 have Ex := Am ex
 clear ex
 have HSS := Am hS
 clear hS
 have hfin := do_fin (S := S) w (asT 1 X)
 have HF := Am hfin
 clear hfin
 go_enter Try.func65, Try.ntmps65
 go_wp2_with (fail)
 refine (weight_any _ _ _ (Hx.out.below ((Below.refl _ _).alloc (Nat.le_refl _) _))).mono ?_
 rintro e w' ⟨rfl, rfl⟩
 go_wp2_with (fail)
 refine (as_any _ _ _ _ _ _ _ (fun k hk => HSS.out k (Nat.le_trans (by simp) hk)) (by rw [← Ex.out]; exact (Hx.out.below ((Below.refl _ _).alloc (Nat.le_refl _) _)))).mono ?_
 rw [← Ex.out]
 rintro e w2 ⟨v', rfl, h1, h2⟩
 obtain ⟨qr, rfl⟩ := h1.ptr
 have HN := Am h1
 have HB9 := Am h2
 clear h1 h2
 go_wp2
 go_ret
 exact HF.out _ _ _ ((Below.refl _ _).alloc (Nat.le_refl _) _) HB9.out HN.out
end
section
variable {S : Nat → Prop}
theorem do2_any (m rt : Bool) (p pl pr pll plr prl prr pa pb : Option Addr) {nx : S34} {qx : Int} {lx rx : Tr} {nl : S34} {ql : Int} {ll rl : Tr} {X : Tr} {L : Tr} {R : Tr} {LL : Tr} {LR : Tr} (w : World) (hS : ∀ k, w.heap.size ≤ k → S k) (ex : X = .node nx qx lx rx) (el : L = .node nl ql ll rl) (Hx : Aside0 (Rep S w (.pointer p) X)) (Hl : Aside0 (Rep S w (.pointer pl) L)) (Hr : Aside0 (Rep S w (.pointer pr) R)) (Hll : Aside0 (Rep S w (.pointer pll) LL)) (Hlr : Aside0 (Rep S w (.pointer plr) LR)) :
  Calls Try.prog 65 #[.agg #[.bool m, .pointer p, .pointer pl, .pointer pr, .pointer pll, .pointer plr, .pointer prl, .pointer prr, .pointer pa, .pointer pb, .bool rt], .int .i64 2] w fun e w' => DoPost S w (putT m (keyT L) (wt X) LL (putT m (keyT X) 0 LR R)) e w' := by
 have Ex := Am ex
 clear ex
 have El := Am el
 clear el
 have HSS := Am hS
 clear hS
 have hfin := do_fin (S := S) w (putT m (keyT L) (wt X) LL (putT m (keyT X) 0 LR R))
 have HF := Am hfin
 clear hfin
 go_enter Try.func65, Try.ntmps65
 go_wp2_with (fail)
 refine (weight_any _ _ _ (Hx.out.below ((Below.refl _ _).alloc (Nat.le_refl _) _))).mono ?_
 rintro e w' ⟨rfl, rfl⟩
 go_wp2
 have HB0 : Aside0 (Below w.heap.size w (w.alloc (.cells #[.bool m, .pointer p, .pointer pl, .pointer pr, .pointer pll, .pointer plr, .pointer prl, .pointer prr, .pointer pa, .pointer pb, .bool rt] 111))) := ⟨(Below.refl _ _).alloc (Nat.le_refl _) _⟩
 have HV0 : Aside0 ((w.alloc (.cells #[.bool m, .pointer p, .pointer pl, .pointer pr, .pointer pll, .pointer plr, .pointer prl, .pointer prr, .pointer pa, .pointer pb, .bool rt] 111)).heap[w.heap.size]? = some (.cells #[.bool m, .pointer p, .pointer pl, .pointer pr, .pointer pll, .pointer plr, .pointer prl, .pointer prr, .pointer pa, .pointer pb, .bool rt] 111 (0, 0))) := ⟨heap_alloc_new w _⟩
 generalize w.alloc (.cells #[.bool m, .pointer p, .pointer pl, .pointer pr, .pointer pll, .pointer plr, .pointer prl, .pointer prr, .pointer pa, .pointer pb, .bool rt] 111) = w1 at HB0 HV0 ⊢
 obtain ⟨g, hg⟩ : ∃ g, g = w.heap.size := ⟨_, rfl⟩
 rw [← hg] at HV0 ⊢
 clear hg
 have HB0_ := Am (bd HB0.out)
 have HV0_ : Aside0 (w1.drew.heap[g]? = some (.cells #[.bool m, .pointer p, .pointer pl, .pointer pr, .pointer pll, .pointer plr, .pointer prl, .pointer prr, .pointer pa, .pointer pb, .bool rt] 111 (0, 0))) := ⟨HV0.out⟩
 clear HB0 HV0 
 have HB0 := HB0_
 have HV0 := HV0_
 clear HB0_ HV0_
 refine sT 16 [] (S := fun w' => w'.cell? ⟨g, 0, none⟩ = some (.bool m) ∧ w'.cell? ⟨g, 1, none⟩ = some (.pointer p) ∧ w'.cell? ⟨g, 2, none⟩ = some (.pointer pl) ∧ w'.cell? ⟨g, 3, none⟩ = some (.pointer pr) ∧ w'.cell? ⟨g, 4, none⟩ = some (.pointer pll) ∧ w'.cell? ⟨g, 5, none⟩ = some (.pointer plr) ∧ w'.cell? ⟨g, 6, none⟩ = some (.pointer prl) ∧ w'.cell? ⟨g, 7, none⟩ = some (.pointer prr) ∧ w'.cell? ⟨g, 8, none⟩ = some (.pointer pa) ∧ w'.cell? ⟨g, 9, none⟩ = some (.pointer pb) ∧ w'.cell? ⟨g, 10, none⟩ = some (.bool rt)) (vc11 HV0.out) fun hHeld => ?_
 refine pu 1 29 ?_
 refine pu 3 31 ?_
 refine pu 4 32 ?_
 refine pu 7 35 ?_
 refine pu 9 37 ?_
 refine pu 11 39 ?_
 refine ta 0 28 hHeld ?_
 refine ta 2 30 hHeld ?_
 refine ta 5 33 hHeld ?_
 refine ta 6 34 hHeld ?_
 refine ta 8 36 hHeld ?_
 refine ta 10 38 hHeld ?_
 refine ta 12 40 hHeld ?_
 refine on 13 41 fun K hK => ?_
 refine gO Try.func93 #[.agg #[.bool m, .pointer p, .pointer pl, .pointer pr, .pointer pll, .pointer plr, .pointer prl, .pointer prr, .pointer pa, .pointer pb, .bool rt], .pointer p, .int .i64 0, .pointer plr, .pointer pr] ?_
 with_reducible refine (put_any _ _ _ _ _ _ _ _ _ _ _ _ _ _ _ _ _ _ _ _ _ _ (fun k hk => HSS.out k (Nat.le_trans HB0.out.size hk)) (by rw [← Ex.out]; exact (Hx.out.below HB0.out)) (Hlr.out.below HB0.out) (Hr.out.below HB0.out)).mono ?_
 rw [show nx.f0 = keyT X from by rw [Ex.out]; rfl]
 rintro e w1_ ⟨v', rfl, h1, h2⟩
 obtain ⟨q1, rfl⟩ := h1.ptr
 have HB1 := Am (HB0.out.trans (h2.mono HB0.out.size))
 have HNq1 := Am (TopRep.rep h1 h2)
 have HV1 := Am ((h2.block _ (Array.getElem?_eq_some_iff.1 HV0.out).1).trans HV0.out)
 clear h1 h2 HB0 HV0
 refine ⟨_, rfl, ?_⟩
 refine hK.out _ _ (vc11 HV1.out) (fun hHeld => ?_)
 clear hK K
 refine nm 41 ?_
 refine on 14 42 fun K hK => ?_
 refine gO Try.func93 #[.agg #[.bool m, .pointer p, .pointer pl, .pointer pr, .pointer pll, .pointer plr, .pointer prl, .pointer prr, .pointer pa, .pointer pb, .bool rt], .pointer pl, .int .i64 (wt X), .pointer pll, .pointer q1] ?_
 with_reducible refine (put_any _ _ _ _ _ _ _ _ _ _ _ _ _ _ _ _ _ _ _ _ _ _ (fun k hk => HSS.out k (Nat.le_trans HB1.out.size hk)) (by rw [← El.out]; exact (Hl.out.below HB1.out)) (Hll.out.below HB1.out) HNq1.out).mono ?_
 rw [show nl.f0 = keyT L from by rw [El.out]; rfl]
 rintro e w2_ ⟨v', rfl, h1, h2⟩
 obtain ⟨q2, rfl⟩ := h1.ptr
 have HB2 := Am (HB1.out.trans (h2.mono HB1.out.size))
 have HNq2 := Am (TopRep.rep h1 h2)
 have HTOP := Am h1
 have HTB := Am h2
 have HTW := HB1
 have HV2 := Am ((h2.block _ (Array.getElem?_eq_some_iff.1 HV1.out).1).trans HV1.out)
 replace HNq1 := Am (Rep.below HNq1.out h2)
 clear h1 h2 HB1 HV1
 refine ⟨_, rfl, ?_⟩
 refine hK.out _ _ (vc11 HV2.out) (fun hHeld => ?_)
 clear hK K
 refine nm 42 ?_
 refine pu 15 4 ?_
 refine done_ (by kernel_rfl) ?_
 try clear hHeld
 go_wp2
 go_ret
 exact HF.out _ _ _ HTW.out HTB.out HTOP.out
theorem do4_any (m rt : Bool) (p pl pr pll plr prl prr pa pb : Option Addr) {nx : S34} {qx : Int} {lx rx : Tr} {nl : S34} {ql : Int} {ll rl : Tr} {nr : S34} {qr : Int} {lr rr : Tr} {X : Tr} {L : Tr} {R : Tr} (w : World) (hS : ∀ k, w.heap.size ≤ k → S k) (ex : X = .node nx qx lx rx) (el : L = .node nl ql ll rl) (er : R = .node nr qr lr rr) (Hx : Aside0 (Rep S w (.pointer p) X)) (Hl : Aside0 (Rep S w (.pointer pl) L)) (Hr : Aside0 (Rep S w (.pointer pr) R)) :
  Calls Try.prog 65 #[.agg #[.bool m, .pointer p, .pointer pl, .pointer pr, .pointer pll, .pointer plr, .pointer prl, .pointer prr, .pointer pa, .pointer pb, .bool rt], .int .i64 4] w fun e w' => DoPost S w (putT m (keyT X) (wrap64 (wt X + 1)) (lessT L) (asT 0 R)) e w' := by
 have Ex := Am ex
 clear ex
 have El := Am el
 clear el
 have Er := Am er
 clear er
 have HSS := Am hS
 clear hS
 have hfin := do_fin (S := S) w (putT m (keyT X) (wrap64 (wt X + 1)) (lessT L) (asT 0 R))
 have HF := Am hfin
 clear hfin
 go_enter Try.func65, Try.ntmps65
 go_wp2_with (fail)
 refine (weight_any _ _ _ (Hx.out.below ((Below.refl _ _).alloc (Nat.le_refl _) _))).mono ?_
 rintro e w' ⟨rfl, rfl⟩
 go_wp2
 have HB0 : Aside0 (Below w.heap.size w (w.alloc (.cells #[.bool m, .pointer p, .pointer pl, .pointer pr, .pointer pll, .pointer plr, .pointer prl, .pointer prr, .pointer pa, .pointer pb, .bool rt] 111))) := ⟨(Below.refl _ _).alloc (Nat.le_refl _) _⟩
 have HV0 : Aside0 ((w.alloc (.cells #[.bool m, .pointer p, .pointer pl, .pointer pr, .pointer pll, .pointer plr, .pointer prl, .pointer prr, .pointer pa, .pointer pb, .bool rt] 111)).heap[w.heap.size]? = some (.cells #[.bool m, .pointer p, .pointer pl, .pointer pr, .pointer pll, .pointer plr, .pointer prl, .pointer prr, .pointer pa, .pointer pb, .bool rt] 111 (0, 0))) := ⟨heap_alloc_new w _⟩
 generalize w.alloc (.cells #[.bool m, .pointer p, .pointer pl, .pointer pr, .pointer pll, .pointer plr, .pointer prl, .pointer prr, .pointer pa, .pointer pb, .bool rt] 111) = w1 at HB0 HV0 ⊢
 obtain ⟨g, hg⟩ : ∃ g, g = w.heap.size := ⟨_, rfl⟩
 rw [← hg] at HV0 ⊢
 clear hg
 have HB0_ := Am (bd HB0.out)
 have HV0_ : Aside0 (w1.drew.heap[g]? = some (.cells #[.bool m, .pointer p, .pointer pl, .pointer pr, .pointer pll, .pointer plr, .pointer prl, .pointer prr, .pointer pa, .pointer pb, .bool rt] 111 (0, 0))) := ⟨HV0.out⟩
 clear HB0 HV0 
 have HB0 := HB0_
 have HV0 := HV0_
 clear HB0_ HV0_
 refine sT 13 [] (S := fun w' => w'.cell? ⟨g, 0, none⟩ = some (.bool m) ∧ w'.cell? ⟨g, 1, none⟩ = some (.pointer p) ∧ w'.cell? ⟨g, 2, none⟩ = some (.pointer pl) ∧ w'.cell? ⟨g, 3, none⟩ = some (.pointer pr) ∧ w'.cell? ⟨g, 4, none⟩ = some (.pointer pll) ∧ w'.cell? ⟨g, 5, none⟩ = some (.pointer plr) ∧ w'.cell? ⟨g, 6, none⟩ = some (.pointer prl) ∧ w'.cell? ⟨g, 7, none⟩ = some (.pointer prr) ∧ w'.cell? ⟨g, 8, none⟩ = some (.pointer pa) ∧ w'.cell? ⟨g, 9, none⟩ = some (.pointer pb) ∧ w'.cell? ⟨g, 10, none⟩ = some (.bool rt)) (vc11 HV0.out) fun hHeld => ?_
 refine pu 1 73 ?_
 refine pu 3 75 ?_
 refine pu 4 76 ?_
 refine pu 5 77 ?_
 refine pu 8 80 ?_
 refine ta 0 72 hHeld ?_
 refine ta 2 74 hHeld ?_
 refine ta 6 78 hHeld ?_
 refine ta 9 81 hHeld ?_
 refine on 7 79 fun K hK => ?_
 refine gO Try.func95 #[.pointer pl] ?_
 with_reducible refine (less_any _ _ _ _ _ _ (fun k hk => HSS.out k (Nat.le_trans HB0.out.size hk)) (by rw [← El.out]; exact (Hl.out.below HB0.out))).mono ?_
 rw [← El.out]
 rintro e w1_ ⟨v', rfl, h1, h2⟩
 obtain ⟨q1, rfl⟩ := h1.ptr
 have HB1 := Am (HB0.out.trans (h2.mono HB0.out.size))
 have HNq1 := Am (TopRep.rep h1 h2)
 have HV1 := Am ((h2.block _ (Array.getElem?_eq_some_iff.1 HV0.out).1).trans HV0.out)
 clear h1 h2 HB0 HV0
 refine ⟨_, rfl, ?_⟩
 refine hK.out _ _ (vc11 HV1.out) (fun hHeld => ?_)
 clear hK K
 refine nm 79 ?_
 refine on 10 82 fun K hK => ?_
 refine gO Try.func94 #[.pointer pr, .int .i64 0] ?_
 with_reducible refine (as_any _ _ _ _ _ _ _ (fun k hk => HSS.out k (Nat.le_trans HB1.out.size hk)) (by rw [← Er.out]; exact (Hr.out.below HB1.out))).mono ?_
 rw [← Er.out]
 rintro e w2_ ⟨v', rfl, h1, h2⟩
 obtain ⟨q2, rfl⟩ := h1.ptr
 have HB2 := Am (HB1.out.trans (h2.mono HB1.out.size))
 have HNq2 := Am (TopRep.rep h1 h2)
 have HV2 := Am ((h2.block _ (Array.getElem?_eq_some_iff.1 HV1.out).1).trans HV1.out)
 replace HNq1 := Am (Rep.below HNq1.out h2)
 clear h1 h2 HB1 HV1
 refine ⟨_, rfl, ?_⟩
 refine hK.out _ _ (vc11 HV2.out) (fun hHeld => ?_)
 clear hK K
 refine nm 82 ?_
 refine on 11 83 fun K hK => ?_
 refine gO Try.func93 #[.agg #[.bool m, .pointer p, .pointer pl, .pointer pr, .pointer pll, .pointer plr, .pointer prl, .pointer prr, .pointer pa, .pointer pb, .bool rt], .pointer p, .int .i64 (wrap64 (wt X + 1)), .pointer q1, .pointer q2] ?_
 with_reducible refine (put_any _ _ _ _ _ _ _ _ _ _ _ _ _ _ _ _ _ _ _ _ _ _ (fun k hk => HSS.out k (Nat.le_trans HB2.out.size hk)) (by rw [← Ex.out]; exact (Hx.out.below HB2.out)) HNq1.out HNq2.out).mono ?_
 rw [show nx.f0 = keyT X from by rw [Ex.out]; rfl]
 rintro e w3_ ⟨v', rfl, h1, h2⟩
 obtain ⟨q3, rfl⟩ := h1.ptr
 have HB3 := Am (HB2.out.trans (h2.mono HB2.out.size))
 have HNq3 := Am (TopRep.rep h1 h2)
 have HTOP := Am h1
 have HTB := Am h2
 have HTW := HB2
 have HV3 := Am ((h2.block _ (Array.getElem?_eq_some_iff.1 HV2.out).1).trans HV2.out)
 replace HNq1 := Am (Rep.below HNq1.out h2)
 replace HNq2 := Am (Rep.below HNq2.out h2)
 clear h1 h2 HB2 HV2
 refine ⟨_, rfl, ?_⟩
 refine hK.out _ _ (vc11 HV3.out) (fun hHeld => ?_)
 clear hK K
 refine nm 83 ?_
 refine pu 12 4 ?_
 refine done_ (by kernel_rfl) ?_
 try clear hHeld
 go_wp2
 go_ret
 exact HF.out _ _ _ HTW.out HTB.out HTOP.out
end
section
variable {S : Nat → Prop}
theorem do3_any (m rt : Bool) (p pl pr pll plr prl prr pa pb : Option Addr) {nx : S34} {qx : Int} {lx rx : Tr} {nl : S34} {ql : Int} {ll rl : Tr} {nlr : S34} {qlr : Int} {llr rlr : Tr} {X : Tr} {L : Tr} {R : Tr} {LL : Tr} {LR : Tr} (w : World) (hS : ∀ k, w.heap.size ≤ k → S k) (ex : X = .node nx qx lx rx) (el : L = .node nl ql ll rl) (elr : LR = .node nlr qlr llr rlr) (Hx : Aside0 (Rep S w (.pointer p) X)) (Hl : Aside0 (Rep S w (.pointer pl) L)) (Hr : Aside0 (Rep S w (.pointer pr) R)) (Hll : Aside0 (Rep S w (.pointer pll) LL)) (Hlr : Aside0 (Rep S w (.pointer plr) LR)) :
  Calls Try.prog 65 #[.agg #[.bool m, .pointer p, .pointer pl, .pointer pr, .pointer pll, .pointer plr, .pointer prl, .pointer prr, .pointer pa, .pointer pb, .bool rt], .int .i64 3] w fun e w' => DoPost S w (putT m (keyT LR) (wt X) (putT m (keyT L) 0 LL (lT m LR)) (putT m (keyT X) 0 (rT m LR) R)) e w' := by
 have Ex := Am ex
 clear ex
 have El := Am el
 clear el
 have Elr := Am elr
 clear elr
 have HSS := Am hS
 clear hS
 have hfin := do_fin (S := S) w (putT m (keyT LR) (wt X) (putT m (keyT L) 0 LL (lT m LR)) (putT m (keyT X) 0 (rT m LR) R))
 have HF := Am hfin
 clear hfin
 go_enter Try.func65, Try.ntmps65
 go_wp2_with (fail)
 refine (weight_any _ _ _ (Hx.out.below ((Below.refl _ _).alloc (Nat.le_refl _) _))).mono ?_
 rintro e w' ⟨rfl, rfl⟩
 go_wp2
 have HB0 : Aside0 (Below w.heap.size w (w.alloc (.cells #[.bool m, .pointer p, .pointer pl, .pointer pr, .pointer pll, .pointer plr, .pointer prl, .pointer prr, .pointer pa, .pointer pb, .bool rt] 111))) := ⟨(Below.refl _ _).alloc (Nat.le_refl _) _⟩
 have HV0 : Aside0 ((w.alloc (.cells #[.bool m, .pointer p, .pointer pl, .pointer pr, .pointer pll, .pointer plr, .pointer prl, .pointer prr, .pointer pa, .pointer pb, .bool rt] 111)).heap[w.heap.size]? = some (.cells #[.bool m, .pointer p, .pointer pl, .pointer pr, .pointer pll, .pointer plr, .pointer prl, .pointer prr, .pointer pa, .pointer pb, .bool rt] 111 (0, 0))) := ⟨heap_alloc_new w _⟩
 generalize w.alloc (.cells #[.bool m, .pointer p, .pointer pl, .pointer pr, .pointer pll, .pointer plr, .pointer prl, .pointer prr, .pointer pa, .pointer pb, .bool rt] 111) = w1 at HB0 HV0 ⊢
 obtain ⟨g, hg⟩ : ∃ g, g = w.heap.size := ⟨_, rfl⟩
 rw [← hg] at HV0 ⊢
 clear hg
 have HB0_ := Am (bd HB0.out)
 have HV0_ : Aside0 (w1.drew.heap[g]? = some (.cells #[.bool m, .pointer p, .pointer pl, .pointer pr, .pointer pll, .pointer plr, .pointer prl, .pointer prr, .pointer pa, .pointer pb, .bool rt] 111 (0, 0))) := ⟨HV0.out⟩
 clear HB0 HV0 
 have HB0 := HB0_
 have HV0 := HV0_
 clear HB0_ HV0_
 refine sT 26 [] (S := fun w' => w'.cell? ⟨g, 0, none⟩ = some (.bool m) ∧ w'.cell? ⟨g, 1, none⟩ = some (.pointer p) ∧ w'.cell? ⟨g, 2, none⟩ = some (.pointer pl) ∧ w'.cell? ⟨g, 3, none⟩ = some (.pointer pr) ∧ w'.cell? ⟨g, 4, none⟩ = some (.pointer pll) ∧ w'.cell? ⟨g, 5, none⟩ = some (.pointer plr) ∧ w'.cell? ⟨g, 6, none⟩ = some (.pointer prl) ∧ w'.cell? ⟨g, 7, none⟩ = some (.pointer prr) ∧ w'.cell? ⟨g, 8, none⟩ = some (.pointer pa) ∧ w'.cell? ⟨g, 9, none⟩ = some (.pointer pb) ∧ w'.cell? ⟨g, 10, none⟩ = some (.bool rt)) (vc11 HV0.out) fun hHeld => ?_
 refine pu 1 46 ?_
 refine pu 3 48 ?_
 refine pu 5 50 ?_
 refine pu 7 52 ?_
 refine pu 10 55 ?_
 refine pu 15 60 ?_
 refine pu 18 63 ?_
 refine pu 21 66 ?_
 refine ta 0 45 hHeld ?_
 refine ta 2 47 hHeld ?_
 refine ta 4 49 hHeld ?_
 refine ta 6 51 hHeld ?_
 refine ta 8 53 hHeld ?_
 refine ta 9 54 hHeld ?_
 refine ta 11 56 hHeld ?_
 refine ta 14 59 hHeld ?_
 refine ta 16 61 hHeld ?_
 refine ta 17 62 hHeld ?_
 refine ta 19 64 hHeld ?_
 refine ta 22 67 hHeld ?_
 refine on 12 57 fun K hK => ?_
 refine gO Try.func85 #[.agg #[.bool m, .pointer p, .pointer pl, .pointer pr, .pointer pll, .pointer plr, .pointer prl, .pointer prr, .pointer pa, .pointer pb, .bool rt], .pointer plr] ?_
 with_reducible refine (left_any _ _ _ _ _ _ _ _ _ _ _ _ _ w _ Hlr.out HB0.out).mono ?_
 rintro e w1_ ⟨v', rfl, h1, h2⟩
 obtain ⟨q1, rfl⟩ := h1.ptr
 have HB1 := Am (HB0.out.trans (h2.mono HB0.out.size))
 have HNq1 := Am (Rep.below h1 HB1.out)
 have HV1 := Am ((h2.block _ (Array.getElem?_eq_some_iff.1 HV0.out).1).trans HV0.out)
 clear h1 h2 HB0 HV0
 refine ⟨_, rfl, ?_⟩
 refine hK.out _ _ (vc11 HV1.out) (fun hHeld => ?_)
 clear hK K
 refine nm 57 ?_
 refine on 13 58 fun K hK => ?_
 refine gO Try.func93 #[.agg #[.bool m, .pointer p, .pointer pl, .pointer pr, .pointer pll, .pointer plr, .pointer prl, .pointer prr, .pointer pa, .pointer pb, .bool rt], .pointer pl, .int .i64 0, .pointer pll, .pointer q1] ?_
 with_reducible refine (put_any _ _ _ _ _ _ _ _ _ _ _ _ _ _ _ _ _ _ _ _ _ _ (fun k hk => HSS.out k (Nat.le_trans HB1.out.size hk)) (by rw [← El.out]; exact (Hl.out.below HB1.out)) (Hll.out.below HB1.out) HNq1.out).mono ?_
 rw [show nl.f0 = keyT L from by rw [El.out]; rfl]
 rintro e w2_ ⟨v', rfl, h1, h2⟩
 obtain ⟨q2, rfl⟩ := h1.ptr
 have HB2 := Am (HB1.out.trans (h2.mono HB1.out.size))
 have HNq2 := Am (TopRep.rep h1 h2)
 have HV2 := Am ((h2.block _ (Array.getElem?_eq_some_iff.1 HV1.out).1).trans HV1.out)
 replace HNq1 := Am (Rep.below HNq1.out h2)
 clear h1 h2 HB1 HV1
 refine ⟨_, rfl, ?_⟩
 refine hK.out _ _ (vc11 HV2.out) (fun hHeld => ?_)
 clear hK K
 refine nm 58 ?_
 refine on 20 65 fun K hK => ?_
 refine gO Try.func86 #[.agg #[.bool m, .pointer p, .pointer pl, .pointer pr, .pointer pll, .pointer plr, .pointer prl, .pointer prr, .pointer pa, .pointer pb, .bool rt], .pointer plr] ?_
 with_reducible refine (right_any _ _ _ _ _ _ _ _ _ _ _ _ _ w _ Hlr.out HB2.out).mono ?_
 rintro e w3_ ⟨v', rfl, h1, h2⟩
 obtain ⟨q3, rfl⟩ := h1.ptr
 have HB3 := Am (HB2.out.trans (h2.mono HB2.out.size))
 have HNq3 := Am (Rep.below h1 HB3.out)
 have HV3 := Am ((h2.block _ (Array.getElem?_eq_some_iff.1 HV2.out).1).trans HV2.out)
 replace HNq1 := Am (Rep.below HNq1.out h2)
 replace HNq2 := Am (Rep.below HNq2.out h2)
 clear h1 h2 HB2 HV2
 refine ⟨_, rfl, ?_⟩
 refine hK.out _ _ (vc11 HV3.out) (fun hHeld => ?_)
 clear hK K
 refine nm 65 ?_
 refine on 23 68 fun K hK => ?_
 refine gO Try.func93 #[.agg #[.bool m, .pointer p, .pointer pl, .pointer pr, .pointer pll, .pointer plr, .pointer prl, .pointer prr, .pointer pa, .pointer pb, .bool rt], .pointer p, .int .i64 0, .pointer q3, .pointer pr] ?_
 with_reducible refine (put_any _ _ _ _ _ _ _ _ _ _ _ _ _ _ _ _ _ _ _ _ _ _ (fun k hk => HSS.out k (Nat.le_trans HB3.out.size hk)) (by rw [← Ex.out]; exact (Hx.out.below HB3.out)) HNq3.out (Hr.out.below HB3.out)).mono ?_
 rw [show nx.f0 = keyT X from by rw [Ex.out]; rfl]
 rintro e w4_ ⟨v', rfl, h1, h2⟩
 obtain ⟨q4, rfl⟩ := h1.ptr
 have HB4 := Am (HB3.out.trans (h2.mono HB3.out.size))
 have HNq4 := Am (TopRep.rep h1 h2)
 have HV4 := Am ((h2.block _ (Array.getElem?_eq_some_iff.1 HV3.out).1).trans HV3.out)
 replace HNq1 := Am (Rep.below HNq1.out h2)
 replace HNq2 := Am (Rep.below HNq2.out h2)
 replace HNq3 := Am (Rep.below HNq3.out h2)
 clear h1 h2 HB3 HV3
 refine ⟨_, rfl, ?_⟩
 refine hK.out _ _ (vc11 HV4.out) (fun hHeld => ?_)
 clear hK K
 refine nm 68 ?_
 refine on 24 69 fun K hK => ?_
 refine gO Try.func93 #[.agg #[.bool m, .pointer p, .pointer pl, .pointer pr, .pointer pll, .pointer plr, .pointer prl, .pointer prr, .pointer pa, .pointer pb, .bool rt], .pointer plr, .int .i64 (wt X), .pointer q2, .pointer q4] ?_
 with_reducible refine (put_any _ _ _ _ _ _ _ _ _ _ _ _ _ _ _ _ _ _ _ _ _ _ (fun k hk => HSS.out k (Nat.le_trans HB4.out.size hk)) (by rw [← Elr.out]; exact (Hlr.out.below HB4.out)) HNq2.out HNq4.out).mono ?_
 rw [show nlr.f0 = keyT LR from by rw [Elr.out]; rfl]
 rintro e w5_ ⟨v', rfl, h1, h2⟩
 obtain ⟨q5, rfl⟩ := h1.ptr
 have HB5 := Am (HB4.out.trans (h2.mono HB4.out.size))
 have HNq5 := Am (TopRep.rep h1 h2)
 have HTOP := Am h1
 have HTB := Am h2
 have HTW := HB4
 have HV5 := Am ((h2.block _ (Array.getElem?_eq_some_iff.1 HV4.out).1).trans HV4.out)
 replace HNq1 := Am (Rep.below HNq1.out h2)
 replace HNq2 := Am (Rep.below HNq2.out h2)
 replace HNq3 := Am (Rep.below HNq3.out h2)
 replace HNq4 := Am (Rep.below HNq4.out h2)
 clear h1 h2 HB4 HV4
 refine ⟨_, rfl, ?_⟩
 refine hK.out _ _ (vc11 HV5.out) (fun hHeld => ?_)
 clear hK K
 refine nm 69 ?_
 refine pu 25 4 ?_
 refine done_ (by kernel_rfl) ?_
 try clear hHeld
 go_wp2
 go_ret
 exact HF.out _ _ _ HTW.out HTB.out HTOP.out
theorem do11_any (m rt : Bool) (p pl pr pll plr prl prr pa pb : Option Addr) {nx : S34} {qx : Int} {lx rx : Tr} {nl : S34} {ql : Int} {ll rl : Tr} {nr : S34} {qr : Int} {lr rr : Tr} {X : Tr} {L : Tr} {R : Tr} (w : World) (hS : ∀ k, w.heap.size ≤ k → S k) (ex : X = .node nx qx lx rx) (el : L = .node nl ql ll rl) (er : R = .node nr qr lr rr) (Hx : Aside0 (Rep S w (.pointer p) X)) (Hl : Aside0 (Rep S w (.pointer pl) L)) (Hr : Aside0 (Rep S w (.pointer pr) R)) :
  Calls Try.prog 65 #[.agg #[.bool m, .pointer p, .pointer pl, .pointer pr, .pointer pll, .pointer plr, .pointer prl, .pointer prr, .pointer pa, .pointer pb, .bool rt], .int .i64 11] w fun e w' => DoPost S w (putT m (keyT X) (wrap64 (wt X + 1)) (lessT L) (lessT R)) e w' := by
 have Ex := Am ex
 clear ex
 have El := Am el
 clear el
 have Er := Am er
 clear er
 have HSS := Am hS
 clear hS
 have hfin := do_fin (S := S) w (putT m (keyT X) (wrap64 (wt X + 1)) (lessT L) (lessT R))
 have HF := Am hfin
 clear hfin
 go_enter Try.func65, Try.ntmps65
 go_wp2_with (fail)
 refine (weight_any _ _ _ (Hx.out.below ((Below.refl _ _).alloc (Nat.le_refl _) _))).mono ?_
 rintro e w' ⟨rfl, rfl⟩
 go_wp2
 have HB0 : Aside0 (Below w.heap.size w (w.alloc (.cells #[.bool m, .pointer p, .pointer pl, .pointer pr, .pointer pll, .pointer plr, .pointer prl, .pointer prr, .pointer pa, .pointer pb, .bool rt] 111))) := ⟨(Below.refl _ _).alloc (Nat.le_refl _) _⟩
 have HV0 : Aside0 ((w.alloc (.cells #[.bool m, .pointer p, .pointer pl, .pointer pr, .pointer pll, .pointer plr, .pointer prl, .pointer prr, .pointer pa, .pointer pb, .bool rt] 111)).heap[w.heap.size]? = some (.cells #[.bool m, .pointer p, .pointer pl, .pointer pr, .pointer pll, .pointer plr, .pointer prl, .pointer prr, .pointer pa, .pointer pb, .bool rt] 111 (0, 0))) := ⟨heap_alloc_new w _⟩
 generalize w.alloc (.cells #[.bool m, .pointer p, .pointer pl, .pointer pr, .pointer pll, .pointer plr, .pointer prl, .pointer prr, .pointer pa, .pointer pb, .bool rt] 111) = w1 at HB0 HV0 ⊢
 obtain ⟨g, hg⟩ : ∃ g, g = w.heap.size := ⟨_, rfl⟩
 rw [← hg] at HV0 ⊢
 clear hg
 have HB0_ := Am (bd HB0.out)
 have HV0_ : Aside0 (w1.drew.heap[g]? = some (.cells #[.bool m, .pointer p, .pointer pl, .pointer pr, .pointer pll, .pointer plr, .pointer prl, .pointer prr, .pointer pa, .pointer pb, .bool rt] 111 (0, 0))) := ⟨HV0.out⟩
 clear HB0 HV0 
 have HB0 := HB0_
 have HV0 := HV0_
 clear HB0_ HV0_
 refine sT 13 [] (S := fun w' => w'.cell? ⟨g, 0, none⟩ = some (.bool m) ∧ w'.cell? ⟨g, 1, none⟩ = some (.pointer p) ∧ w'.cell? ⟨g, 2, none⟩ = some (.pointer pl) ∧ w'.cell? ⟨g, 3, none⟩ = some (.pointer pr) ∧ w'.cell? ⟨g, 4, none⟩ = some (.pointer pll) ∧ w'.cell? ⟨g, 5, none⟩ = some (.pointer plr) ∧ w'.cell? ⟨g, 6, none⟩ = some (.pointer prl) ∧ w'.cell? ⟨g, 7, none⟩ = some (.pointer prr) ∧ w'.cell? ⟨g, 8, none⟩ = some (.pointer pa) ∧ w'.cell? ⟨g, 9, none⟩ = some (.pointer pb) ∧ w'.cell? ⟨g, 10, none⟩ = some (.bool rt)) (vc11 HV0.out) fun hHeld => ?_
 refine pu 1 87 ?_
 refine pu 3 89 ?_
 refine pu 4 90 ?_
 refine pu 5 91 ?_
 refine pu 8 94 ?_
 refine ta 0 86 hHeld ?_
 refine ta 2 88 hHeld ?_
 refine ta 6 92 hHeld ?_
 refine ta 9 95 hHeld ?_
 refine on 7 93 fun K hK => ?_
 refine gO Try.func95 #[.pointer pl] ?_
 with_reducible refine (less_any _ _ _ _ _ _ (fun k hk => HSS.out k (Nat.le_trans HB0.out.size hk)) (by rw [← El.out]; exact (Hl.out.below HB0.out))).mono ?_
 rw [← El.out]
 rintro e w1_ ⟨v', rfl, h1, h2⟩
 obtain ⟨q1, rfl⟩ := h1.ptr
 have HB1 := Am (HB0.out.trans (h2.mono HB0.out.size))
 have HNq1 := Am (TopRep.rep h1 h2)
 have HV1 := Am ((h2.block _ (Array.getElem?_eq_some_iff.1 HV0.out).1).trans HV0.out)
 clear h1 h2 HB0 HV0
 refine ⟨_, rfl, ?_⟩
 refine hK.out _ _ (vc11 HV1.out) (fun hHeld => ?_)
 clear hK K
 refine nm 93 ?_
 refine on 10 96 fun K hK => ?_
 refine gO Try.func95 #[.pointer pr] ?_
 with_reducible refine (less_any _ _ _ _ _ _ (fun k hk => HSS.out k (Nat.le_trans HB1.out.size hk)) (by rw [← Er.out]; exact (Hr.out.below HB1.out))).mono ?_
 rw [← Er.out]
 rintro e w2_ ⟨v', rfl, h1, h2⟩
 obtain ⟨q2, rfl⟩ := h1.ptr
 have HB2 := Am (HB1.out.trans (h2.mono HB1.out.size))
 have HNq2 := Am (TopRep.rep h1 h2)
 have HV2 := Am ((h2.block _ (Array.getElem?_eq_some_iff.1 HV1.out).1).trans HV1.out)
 replace HNq1 := Am (Rep.below HNq1.out h2)
 clear h1 h2 HB1 HV1
 refine ⟨_, rfl, ?_⟩
 refine hK.out _ _ (vc11 HV2.out) (fun hHeld => ?_)
 clear hK K
 refine nm 96 ?_
 refine on 11 97 fun K hK => ?_
 refine gO Try.func93 #[.agg #[.bool m, .pointer p, .pointer pl, .pointer pr, .pointer pll, .pointer plr, .pointer prl, .pointer prr, .pointer pa, .pointer pb, .bool rt], .pointer p, .int .i64 (wrap64 (wt X + 1)), .pointer q1, .pointer q2] ?_
 with_reducible refine (put_any _ _ _ _ _ _ _ _ _ _ _ _ _ _ _ _ _ _ _ _ _ _ (fun k hk => HSS.out k (Nat.le_trans HB2.out.size hk)) (by rw [← Ex.out]; exact (Hx.out.below HB2.out)) HNq1.out HNq2.out).mono ?_
 rw [show nx.f0 = keyT X from by rw [Ex.out]; rfl]
 rintro e w3_ ⟨v', rfl, h1, h2⟩
 obtain ⟨q3, rfl⟩ := h1.ptr
 have HB3 := Am (HB2.out.trans (h2.mono HB2.out.size))
 have HNq3 := Am (TopRep.rep h1 h2)
 have HTOP := Am h1
 have HTB := Am h2
 have HTW := HB2
 have HV3 := Am ((h2.block _ (Array.getElem?_eq_some_iff.1 HV2.out).1).trans HV2.out)
 replace HNq1 := Am (Rep.below HNq1.out h2)
 replace HNq2 := Am (Rep.below HNq2.out h2)
 clear h1 h2 HB2 HV2
 refine ⟨_, rfl, ?_⟩
 refine hK.out _ _ (vc11 HV3.out) (fun hHeld => ?_)
 clear hK K
 refine nm 97 ?_
 refine pu 12 4 ?_
 refine done_ (by kernel_rfl) ?_
 try clear hHeld
 go_wp2
 go_ret
 exact HF.out _ _ _ HTW.out HTB.out HTOP.out
end
section
variable {S : Nat → Prop}
theorem do9_any (m rt : Bool) (p pl pr pll plr prl prr pa pb : Option Addr) {nx : S34} {qx : Int} {lx rx : Tr} {nl : S34} {ql : Int} {ll rl : Tr} {nr : S34} {qr : Int} {lr rr : Tr} {nrr : S34} {qrr : Int} {lrr rrr : Tr} {X : Tr} {L : Tr} {R : Tr} {RL : Tr} {RR : Tr} (w : World) (hS : ∀ k, w.heap.size ≤ k → S k) (ex : X = .node nx qx lx rx) (el : L = .node nl ql ll rl) (er : R = .node nr qr lr rr) (err : RR = .node nrr qrr lrr rrr) (Hx : Aside0 (Rep S w (.pointer p) X)) (Hl : Aside0 (Rep S w (.pointer pl) L)) (Hr : Aside0 (Rep S w (.pointer pr) R)) (Hrl : Aside0 (Rep S w (.pointer prl) RL)) (Hrr : Aside0 (Rep S w (.pointer prr) RR)) :
  Calls Try.prog 65 #[.agg #[.bool m, .pointer p, .pointer pl, .pointer pr, .pointer pll, .pointer plr, .pointer prl, .pointer prr, .pointer pa, .pointer pb, .bool rt], .int .i64 9] w fun e w' => DoPost S w (putT m (keyT R) (wt X) (putT m (keyT X) 1 (lessT L) RL) (asT 1 RR)) e w' := by
 have Ex := Am ex
 clear ex
 have El := Am el
 clear el
 have Er := Am er
 clear er
 have Err := Am err
 clear err
 have HSS := Am hS
 clear hS
 have hfin := do_fin (S := S) w (putT m (keyT R) (wt X) (putT m (keyT X) 1 (lessT L) RL) (asT 1 RR))
 have HF := Am hfin
 clear hfin
 go_enter Try.func65, Try.ntmps65
 go_wp2_with (fail)
 refine (weight_any _ _ _ (Hx.out.below ((Below.refl _ _).alloc (Nat.le_refl _) _))).mono ?_
 rintro e w' ⟨rfl, rfl⟩
 go_wp2
 have HB0 : Aside0 (Below w.heap.size w (w.alloc (.cells #[.bool m, .pointer p, .pointer pl, .pointer pr, .pointer pll, .pointer plr, .pointer prl, .pointer prr, .pointer pa, .pointer pb, .bool rt] 111))) := ⟨(Below.refl _ _).alloc (Nat.le_refl _) _⟩
 have HV0 : Aside0 ((w.alloc (.cells #[.bool m, .pointer p, .pointer pl, .pointer pr, .pointer pll, .pointer plr, .pointer prl, .pointer prr, .pointer pa, .pointer pb, .bool rt] 111)).heap[w.heap.size]? = some (.cells #[.bool m, .pointer p, .pointer pl, .pointer pr, .pointer pll, .pointer plr, .pointer prl, .pointer prr, .pointer pa, .pointer pb, .bool rt] 111 (0, 0))) := ⟨heap_alloc_new w _⟩
 generalize w.alloc (.cells #[.bool m, .pointer p, .pointer pl, .pointer pr, .pointer pll, .pointer plr, .pointer prl, .pointer prr, .pointer pa, .pointer pb, .bool rt] 111) = w1 at HB0 HV0 ⊢
 obtain ⟨g, hg⟩ : ∃ g, g = w.heap.size := ⟨_, rfl⟩
 rw [← hg] at HV0 ⊢
 clear hg
 have HB0_ := Am (bd HB0.out)
 have HV0_ : Aside0 (w1.drew.heap[g]? = some (.cells #[.bool m, .pointer p, .pointer pl, .pointer pr, .pointer pll, .pointer plr, .pointer prl, .pointer prr, .pointer pa, .pointer pb, .bool rt] 111 (0, 0))) := ⟨HV0.out⟩
 clear HB0 HV0 
 have HB0 := HB0_
 have HV0 := HV0_
 clear HB0_ HV0_
 refine sT 18 [] (S := fun w' => w'.cell? ⟨g, 0, none⟩ = some (.bool m) ∧ w'.cell? ⟨g, 1, none⟩ = some (.pointer p) ∧ w'.cell? ⟨g, 2, none⟩ = some (.pointer pl) ∧ w'.cell? ⟨g, 3, none⟩ = some (.pointer pr) ∧ w'.cell? ⟨g, 4, none⟩ = some (.pointer pll) ∧ w'.cell? ⟨g, 5, none⟩ = some (.pointer plr) ∧ w'.cell? ⟨g, 6, none⟩ = some (.pointer prl) ∧ w'.cell? ⟨g, 7, none⟩ = some (.pointer prr) ∧ w'.cell? ⟨g, 8, none⟩ = some (.pointer pa) ∧ w'.cell? ⟨g, 9, none⟩ = some (.pointer pb) ∧ w'.cell? ⟨g, 10, none⟩ = some (.bool rt)) (vc11 HV0.out) fun hHeld => ?_
 refine pu 1 101 ?_
 refine pu 3 103 ?_
 refine pu 5 105 ?_
 refine pu 7 107 ?_
 refine pu 10 110 ?_
 refine pu 13 113 ?_
 refine ta 0 100 hHeld ?_
 refine ta 2 102 hHeld ?_
 refine ta 4 104 hHeld ?_
 refine ta 6 106 hHeld ?_
 refine ta 8 108 hHeld ?_
 refine ta 11 111 hHeld ?_
 refine ta 14 114 hHeld ?_
 refine on 9 109 fun K hK => ?_
 refine gO Try.func95 #[.pointer pl] ?_
 with_reducible refine (less_any _ _ _ _ _ _ (fun k hk => HSS.out k (Nat.le_trans HB0.out.size hk)) (by rw [← El.out]; exact (Hl.out.below HB0.out))).mono ?_
 rw [← El.out]
 rintro e w1_ ⟨v', rfl, h1, h2⟩
 obtain ⟨q1, rfl⟩ := h1.ptr
 have HB1 := Am (HB0.out.trans (h2.mono HB0.out.size))
 have HNq1 := Am (TopRep.rep h1 h2)
 have HV1 := Am ((h2.block _ (Array.getElem?_eq_some_iff.1 HV0.out).1).trans HV0.out)
 clear h1 h2 HB0 HV0
 refine ⟨_, rfl, ?_⟩
 refine hK.out _ _ (vc11 HV1.out) (fun hHeld => ?_)
 clear hK K
 refine nm 109 ?_
 refine on 12 112 fun K hK => ?_
 refine gO Try.func93 #[.agg #[.bool m, .pointer p, .pointer pl, .pointer pr, .pointer pll, .pointer plr, .pointer prl, .pointer prr, .pointer pa, .pointer pb, .bool rt], .pointer p, .int .i64 1, .pointer q1, .pointer prl] ?_
 with_reducible refine (put_any _ _ _ _ _ _ _ _ _ _ _ _ _ _ _ _ _ _ _ _ _ _ (fun k hk => HSS.out k (Nat.le_trans HB1.out.size hk)) (by rw [← Ex.out]; exact (Hx.out.below HB1.out)) HNq1.out (Hrl.out.below HB1.out)).mono ?_
 rw [show nx.f0 = keyT X from by rw [Ex.out]; rfl]
 rintro e w2_ ⟨v', rfl, h1, h2⟩
 obtain ⟨q2, rfl⟩ := h1.ptr
 have HB2 := Am (HB1.out.trans (h2.mono HB1.out.size))
 have HNq2 := Am (TopRep.rep h1 h2)
 have HV2 := Am ((h2.block _ (Array.getElem?_eq_some_iff.1 HV1.out).1).trans HV1.out)
 replace HNq1 := Am (Rep.below HNq1.out h2)
 clear h1 h2 HB1 HV1
 refine ⟨_, rfl, ?_⟩
 refine hK.out _ _ (vc11 HV2.out) (fun hHeld => ?_)
 clear hK K
 refine nm 112 ?_
 refine on 15 115 fun K hK => ?_
 refine gO Try.func94 #[.pointer prr, .int .i64 1] ?_
 with_reducible refine (as_any _ _ _ _ _ _ _ (fun k hk => HSS.out k (Nat.le_trans HB2.out.size hk)) (by rw [← Err.out]; exact (Hrr.out.below HB2.out))).mono ?_
 rw [← Err.out]
 rintro e w3_ ⟨v', rfl, h1, h2⟩
 obtain ⟨q3, rfl⟩ := h1.ptr
 have HB3 := Am (HB2.out.trans (h2.mono HB2.out.size))
 have HNq3 := Am (TopRep.rep h1 h2)
 have HV3 := Am ((h2.block _ (Array.getElem?_eq_some_iff.1 HV2.out).1).trans HV2.out)
 replace HNq1 := Am (Rep.below HNq1.out h2)
 replace HNq2 := Am (Rep.below HNq2.out h2)
 clear h1 h2 HB2 HV2
 refine ⟨_, rfl, ?_⟩
 refine hK.out _ _ (vc11 HV3.out) (fun hHeld => ?_)
 clear hK K
 refine nm 115 ?_
 refine on 16 116 fun K hK => ?_
 refine gO Try.func93 #[.agg #[.bool m, .pointer p, .pointer pl, .pointer pr, .pointer pll, .pointer plr, .pointer prl, .pointer prr, .pointer pa, .pointer pb, .bool rt], .pointer pr, .int .i64 (wt X), .pointer q2, .pointer q3] ?_
 with_reducible refine (put_any _ _ _ _ _ _ _ _ _ _ _ _ _ _ _ _ _ _ _ _ _ _ (fun k hk => HSS.out k (Nat.le_trans HB3.out.size hk)) (by rw [← Er.out]; exact (Hr.out.below HB3.out)) HNq2.out HNq3.out).mono ?_
 rw [show nr.f0 = keyT R from by rw [Er.out]; rfl]
 rintro e w4_ ⟨v', rfl, h1, h2⟩
 obtain ⟨q4, rfl⟩ := h1.ptr
 have HB4 := Am (HB3.out.trans (h2.mono HB3.out.size))
 have HNq4 := Am (TopRep.rep h1 h2)
 have HTOP := Am h1
 have HTB := Am h2
 have HTW := HB3
 have HV4 := Am ((h2.block _ (Array.getElem?_eq_some_iff.1 HV3.out).1).trans HV3.out)
 replace HNq1 := Am (Rep.below HNq1.out h2)
 replace HNq2 := Am (Rep.below HNq2.out h2)
 replace HNq3 := Am (Rep.below HNq3.out h2)
 clear h1 h2 HB3 HV3
 refine ⟨_, rfl, ?_⟩
 refine hK.out _ _ (vc11 HV4.out) (fun hHeld => ?_)
 clear hK K
 refine nm 116 ?_
 refine pu 17 4 ?_
 refine done_ (by kernel_rfl) ?_
 try clear hHeld
 go_wp2
 go_ret
 exact HF.out _ _ _ HTW.out HTB.out HTOP.out
theorem do10_any (m rt : Bool) (p pl pr pll plr prl prr pa pb : Option Addr) {nx : S34} {qx : Int} {lx rx : Tr} {nl : S34} {ql : Int} {ll rl : Tr} {nr : S34} {qr : Int} {lr rr : Tr} {nrl : S34} {qrl : Int} {lrl rrl : Tr} {X : Tr} {L : Tr} {R : Tr} {RL : Tr} {RR : Tr} {A : Tr} {B : Tr} (w : World) (hS : ∀ k, w.heap.size ≤ k → S k) (ex : X = .node nx qx lx rx) (el : L = .node nl ql ll rl) (er : R = .node nr qr lr rr) (erl : RL = .node nrl qrl lrl rrl) (Hx : Aside0 (Rep S w (.pointer p) X)) (Hl : Aside0 (Rep S w (.pointer pl) L)) (Hr : Aside0 (Rep S w (.pointer pr) R)) (Hrl : Aside0 (Rep S w (.pointer prl) RL)) (Hrr : Aside0 (Rep S w (.pointer prr) RR)) (Ha : Aside0 (Rep S w (.pointer pa) A)) (Hb : Aside0 (Rep S w (.pointer pb) B)) :
  Calls Try.prog 65 #[.agg #[.bool m, .pointer p, .pointer pl, .pointer pr, .pointer pll, .pointer plr, .pointer prl, .pointer prr, .pointer pa, .pointer pb, .bool rt], .int .i64 10] w fun e w' => DoPost S w (putT m (keyT RL) (wt X) (putT m (keyT X) 1 (lessT L) A) (putT m (keyT R) 1 B RR)) e w' := by
 have Ex := Am ex
 clear ex
 have El := Am el
 clear el
 have Er := Am er
 clear er
 have Erl := Am erl
 clear erl
 have HSS := Am hS
 clear hS
 have hfin := do_fin (S := S) w (putT m (keyT RL) (wt X) (putT m (keyT X) 1 (lessT L) A) (putT m (keyT R) 1 B RR))
 have HF := Am hfin
 clear hfin
 go_enter Try.func65, Try.ntmps65
 go_wp2_with (fail)
 refine (weight_any _ _ _ (Hx.out.below ((Below.refl _ _).alloc (Nat.le_refl _) _))).mono ?_
 rintro e w' ⟨rfl, rfl⟩
 go_wp2
 have HB0 : Aside0 (Below w.heap.size w (w.alloc (.cells #[.bool m, .pointer p, .pointer pl, .pointer pr, .pointer pll, .pointer plr, .pointer prl, .pointer prr, .pointer pa, .pointer pb, .bool rt] 111))) := ⟨(Below.refl _ _).alloc (Nat.le_refl _) _⟩
 have HV0 : Aside0 ((w.alloc (.cells #[.bool m, .pointer p, .pointer pl, .pointer pr, .pointer pll, .pointer plr, .pointer prl, .pointer prr, .pointer pa, .pointer pb, .bool rt] 111)).heap[w.heap.size]? = some (.cells #[.bool m, .pointer p, .pointer pl, .pointer pr, .pointer pll, .pointer plr, .pointer prl, .pointer prr, .pointer pa, .pointer pb, .bool rt] 111 (0, 0))) := ⟨heap_alloc_new w _⟩
 generalize w.alloc (.cells #[.bool m, .pointer p, .pointer pl, .pointer pr, .pointer pll, .pointer plr, .pointer prl, .pointer prr, .pointer pa, .pointer pb, .bool rt] 111) = w1 at HB0 HV0 ⊢
 obtain ⟨g, hg⟩ : ∃ g, g = w.heap.size := ⟨_, rfl⟩
 rw [← hg] at HV0 ⊢
 clear hg
 have HB0_ := Am (bd HB0.out)
 have HV0_ : Aside0 (w1.drew.heap[g]? = some (.cells #[.bool m, .pointer p, .pointer pl, .pointer pr, .pointer pll, .pointer plr, .pointer prl, .pointer prr, .pointer pa, .pointer pb, .bool rt] 111 (0, 0))) := ⟨HV0.out⟩
 clear HB0 HV0 
 have HB0 := HB0_
 have HV0 := HV0_
 clear HB0_ HV0_
 refine sT 23 [] (S := fun w' => w'.cell? ⟨g, 0, none⟩ = some (.bool m) ∧ w'.cell? ⟨g, 1, none⟩ = some (.pointer p) ∧ w'.cell? ⟨g, 2, none⟩ = some (.pointer pl) ∧ w'.cell? ⟨g, 3, none⟩ = some (.pointer pr) ∧ w'.cell? ⟨g, 4, none⟩ = some (.pointer pll) ∧ w'.cell? ⟨g, 5, none⟩ = some (.pointer plr) ∧ w'.cell? ⟨g, 6, none⟩ = some (.pointer prl) ∧ w'.cell? ⟨g, 7, none⟩ = some (.pointer prr) ∧ w'.cell? ⟨g, 8, none⟩ = some (.pointer pa) ∧ w'.cell? ⟨g, 9, none⟩ = some (.pointer pb) ∧ w'.cell? ⟨g, 10, none⟩ = some (.bool rt)) (vc11 HV0.out) fun hHeld => ?_
 refine pu 1 120 ?_
 refine pu 3 122 ?_
 refine pu 5 124 ?_
 refine pu 7 126 ?_
 refine pu 10 129 ?_
 refine pu 14 133 ?_
 refine pu 16 135 ?_
 refine pu 18 137 ?_
 refine ta 0 119 hHeld ?_
 refine ta 2 121 hHeld ?_
 refine ta 4 123 hHeld ?_
 refine ta 6 125 hHeld ?_
 refine ta 8 127 hHeld ?_
 refine ta 11 130 hHeld ?_
 refine ta 13 132 hHeld ?_
 refine ta 15 134 hHeld ?_
 refine ta 17 136 hHeld ?_
 refine ta 19 138 hHeld ?_
 refine on 9 128 fun K hK => ?_
 refine gO Try.func95 #[.pointer pl] ?_
 with_reducible refine (less_any _ _ _ _ _ _ (fun k hk => HSS.out k (Nat.le_trans HB0.out.size hk)) (by rw [← El.out]; exact (Hl.out.below HB0.out))).mono ?_
 rw [← El.out]
 rintro e w1_ ⟨v', rfl, h1, h2⟩
 obtain ⟨q1, rfl⟩ := h1.ptr
 have HB1 := Am (HB0.out.trans (h2.mono HB0.out.size))
 have HNq1 := Am (TopRep.rep h1 h2)
 have HV1 := Am ((h2.block _ (Array.getElem?_eq_some_iff.1 HV0.out).1).trans HV0.out)
 clear h1 h2 HB0 HV0
 refine ⟨_, rfl, ?_⟩
 refine hK.out _ _ (vc11 HV1.out) (fun hHeld => ?_)
 clear hK K
 refine nm 128 ?_
 refine on 12 131 fun K hK => ?_
 refine gO Try.func93 #[.agg #[.bool m, .pointer p, .pointer pl, .pointer pr, .pointer pll, .pointer plr, .pointer prl, .pointer prr, .pointer pa, .pointer pb, .bool rt], .pointer p, .int .i64 1, .pointer q1, .pointer pa] ?_
 with_reducible refine (put_any _ _ _ _ _ _ _ _ _ _ _ _ _ _ _ _ _ _ _ _ _ _ (fun k hk => HSS.out k (Nat.le_trans HB1.out.size hk)) (by rw [← Ex.out]; exact (Hx.out.below HB1.out)) HNq1.out (Ha.out.below HB1.out)).mono ?_
 rw [show nx.f0 = keyT X from by rw [Ex.out]; rfl]
 rintro e w2_ ⟨v', rfl, h1, h2⟩
 obtain ⟨q2, rfl⟩ := h1.ptr
 have HB2 := Am (HB1.out.trans (h2.mono HB1.out.size))
 have HNq2 := Am (TopRep.rep h1 h2)
 have HV2 := Am ((h2.block _ (Array.getElem?_eq_some_iff.1 HV1.out).1).trans HV1.out)
 replace HNq1 := Am (Rep.below HNq1.out h2)
 clear h1 h2 HB1 HV1
 refine ⟨_, rfl, ?_⟩
 refine hK.out _ _ (vc11 HV2.out) (fun hHeld => ?_)
 clear hK K
 refine nm 131 ?_
 refine on 20 139 fun K hK => ?_
 refine gO Try.func93 #[.agg #[.bool m, .pointer p, .pointer pl, .pointer pr, .pointer pll, .pointer plr, .pointer prl, .pointer prr, .pointer pa, .pointer pb, .bool rt], .pointer pr, .int .i64 1, .pointer pb, .pointer prr] ?_
 with_reducible refine (put_any _ _ _ _ _ _ _ _ _ _ _ _ _ _ _ _ _ _ _ _ _ _ (fun k hk => HSS.out k (Nat.le_trans HB2.out.size hk)) (by rw [← Er.out]; exact (Hr.out.below HB2.out)) (Hb.out.below HB2.out) (Hrr.out.below HB2.out)).mono ?_
 rw [show nr.f0 = keyT R from by rw [Er.out]; rfl]
 rintro e w3_ ⟨v', rfl, h1, h2⟩
 obtain ⟨q3, rfl⟩ := h1.ptr
 have HB3 := Am (HB2.out.trans (h2.mono HB2.out.size))
 have HNq3 := Am (TopRep.rep h1 h2)
 have HV3 := Am ((h2.block _ (Array.getElem?_eq_some_iff.1 HV2.out).1).trans HV2.out)
 replace HNq1 := Am (Rep.below HNq1.out h2)
 replace HNq2 := Am (Rep.below HNq2.out h2)
 clear h1 h2 HB2 HV2
 refine ⟨_, rfl, ?_⟩
 refine hK.out _ _ (vc11 HV3.out) (fun hHeld => ?_)
 clear hK K
 refine nm 139 ?_
 refine on 21 140 fun K hK => ?_
 refine gO Try.func93 #[.agg #[.bool m, .pointer p, .pointer pl, .pointer pr, .pointer pll, .pointer plr, .pointer prl, .pointer prr, .pointer pa, .pointer pb, .bool rt], .pointer prl, .int .i64 (wt X), .pointer q2, .pointer q3] ?_
 with_reducible refine (put_any _ _ _ _ _ _ _ _ _ _ _ _ _ _ _ _ _ _ _ _ _ _ (fun k hk => HSS.out k (Nat.le_trans HB3.out.size hk)) (by rw [← Erl.out]; exact (Hrl.out.below HB3.out)) HNq2.out HNq3.out).mono ?_
 rw [show nrl.f0 = keyT RL from by rw [Erl.out]; rfl]
 rintro e w4_ ⟨v', rfl, h1, h2⟩
 obtain ⟨q4, rfl⟩ := h1.ptr
 have HB4 := Am (HB3.out.trans (h2.mono HB3.out.size))
 have HNq4 := Am (TopRep.rep h1 h2)
 have HTOP := Am h1
 have HTB := Am h2
 have HTW := HB3
 have HV4 := Am ((h2.block _ (Array.getElem?_eq_some_iff.1 HV3.out).1).trans HV3.out)
 replace HNq1 := Am (Rep.below HNq1.out h2)
 replace HNq2 := Am (Rep.below HNq2.out h2)
 replace HNq3 := Am (Rep.below HNq3.out h2)
 clear h1 h2 HB3 HV3
 refine ⟨_, rfl, ?_⟩
 refine hK.out _ _ (vc11 HV4.out) (fun hHeld => ?_)
 clear hK K
 refine nm 140 ?_
 refine pu 22 4 ?_
 refine done_ (by kernel_rfl) ?_
 try clear hHeld
 go_wp2
 go_ret
 exact HF.out _ _ _ HTW.out HTB.out HTOP.out
end
section
variable {S : Nat → Prop}
theorem do5_any (m rt : Bool) (p pl pr pll plr prl prr pa pb : Option Addr) {nx : S34} {qx : Int} {lx rx : Tr} {nl : S34} {ql : Int} {ll rl : Tr} {nr : S34} {qr : Int} {lr rr : Tr} {nrl : S34} {qrl : Int} {lrl rrl : Tr} {X : Tr} {L : Tr} {R : Tr} {RL : Tr} {RR : Tr} (w : World) (hS : ∀ k, w.heap.size ≤ k → S k) (ex : X = .node nx qx lx rx) (el : L = .node nl ql ll rl) (er : R = .node nr qr lr rr) (erl : RL = .node nrl qrl lrl rrl) (Hx : Aside0 (Rep S w (.pointer p) X)) (Hl : Aside0 (Rep S w (.pointer pl) L)) (Hr : Aside0 (Rep S w (.pointer pr) R)) (Hrl : Aside0 (Rep S w (.pointer prl) RL)) (Hrr : Aside0 (Rep S w (.pointer prr) RR)) :
  Calls Try.prog 65 #[.agg #[.bool m, .pointer p, .pointer pl, .pointer pr, .pointer pll, .pointer plr, .pointer prl, .pointer prr, .pointer pa, .pointer pb, .bool rt], .int .i64 5] w fun e w' => DoPost S w (putT m (keyT R) (wt X) (putT m (keyT X) 1 (lessT L) (lessT RL)) RR) e w' := by
 have Ex := Am ex
 clear ex
 have El := Am el
 clear el
 have Er := Am er
 clear er
 have Erl := Am erl
 clear erl
 have HSS := Am hS
 clear hS
 have hfin := do_fin (S := S) w (putT m (keyT R) (wt X) (putT m (keyT X) 1 (lessT L) (lessT RL)) RR)
 have HF := Am hfin
 clear hfin
 go_enter Try.func65, Try.ntmps65
 go_wp2_with (fail)
 refine (weight_any _ _ _ (Hx.out.below ((Below.refl _ _).alloc (Nat.le_refl _) _))).mono ?_
 rintro e w' ⟨rfl, rfl⟩
 go_wp2
 have HB0 : Aside0 (Below w.heap.size w (w.alloc (.cells #[.bool m, .pointer p, .pointer pl, .pointer pr, .pointer pll, .pointer plr, .pointer prl, .pointer prr, .pointer pa, .pointer pb, .bool rt] 111))) := ⟨(Below.refl _ _).alloc (Nat.le_refl _) _⟩
 have HV0 : Aside0 ((w.alloc (.cells #[.bool m, .pointer p, .pointer pl, .pointer pr, .pointer pll, .pointer plr, .pointer prl, .pointer prr, .pointer pa, .pointer pb, .bool rt] 111)).heap[w.heap.size]? = some (.cells #[.bool m, .pointer p, .pointer pl, .pointer pr, .pointer pll, .pointer plr, .pointer prl, .pointer prr, .pointer pa, .pointer pb, .bool rt] 111 (0, 0))) := ⟨heap_alloc_new w _⟩
 generalize w.alloc (.cells #[.bool m, .pointer p, .pointer pl, .pointer pr, .pointer pll, .pointer plr, .pointer prl, .pointer prr, .pointer pa, .pointer pb, .bool rt] 111) = w1 at HB0 HV0 ⊢
 obtain ⟨g, hg⟩ : ∃ g, g = w.heap.size := ⟨_, rfl⟩
 rw [← hg] at HV0 ⊢
 clear hg
 have HB0_ := Am (bd HB0.out)
 have HV0_ : Aside0 (w1.drew.heap[g]? = some (.cells #[.bool m, .pointer p, .pointer pl, .pointer pr, .pointer pll, .pointer plr, .pointer prl, .pointer prr, .pointer pa, .pointer pb, .bool rt] 111 (0, 0))) := ⟨HV0.out⟩
 clear HB0 HV0 
 have HB0 := HB0_
 have HV0 := HV0_
 clear HB0_ HV0_
 refine sT 18 [] (S := fun w' => w'.cell? ⟨g, 0, none⟩ = some (.bool m) ∧ w'.cell? ⟨g, 1, none⟩ = some (.pointer p) ∧ w'.cell? ⟨g, 2, none⟩ = some (.pointer pl) ∧ w'.cell? ⟨g, 3, none⟩ = some (.pointer pr) ∧ w'.cell? ⟨g, 4, none⟩ = some (.pointer pll) ∧ w'.cell? ⟨g, 5, none⟩ = some (.pointer plr) ∧ w'.cell? ⟨g, 6, none⟩ = some (.pointer prl) ∧ w'.cell? ⟨g, 7, none⟩ = some (.pointer prr) ∧ w'.cell? ⟨g, 8, none⟩ = some (.pointer pa) ∧ w'.cell? ⟨g, 9, none⟩ = some (.pointer pb) ∧ w'.cell? ⟨g, 10, none⟩ = some (.bool rt)) (vc11 HV0.out) fun hHeld => ?_
 refine pu 1 144 ?_
 refine pu 3 146 ?_
 refine pu 5 148 ?_
 refine pu 7 150 ?_
 refine pu 10 153 ?_
 refine pu 14 157 ?_
 refine ta 0 143 hHeld ?_
 refine ta 2 145 hHeld ?_
 refine ta 4 147 hHeld ?_
 refine ta 6 149 hHeld ?_
 refine ta 8 151 hHeld ?_
 refine ta 11 154 hHeld ?_
 refine ta 15 158 hHeld ?_
 refine on 9 152 fun K hK => ?_
 refine gO Try.func95 #[.pointer pl] ?_
 with_reducible refine (less_any _ _ _ _ _ _ (fun k hk => HSS.out k (Nat.le_trans HB0.out.size hk)) (by rw [← El.out]; exact (Hl.out.below HB0.out))).mono ?_
 rw [← El.out]
 rintro e w1_ ⟨v', rfl, h1, h2⟩
 obtain ⟨q1, rfl⟩ := h1.ptr
 have HB1 := Am (HB0.out.trans (h2.mono HB0.out.size))
 have HNq1 := Am (TopRep.rep h1 h2)
 have HV1 := Am ((h2.block _ (Array.getElem?_eq_some_iff.1 HV0.out).1).trans HV0.out)
 clear h1 h2 HB0 HV0
 refine ⟨_, rfl, ?_⟩
 refine hK.out _ _ (vc11 HV1.out) (fun hHeld => ?_)
 clear hK K
 refine nm 152 ?_
 refine on 12 155 fun K hK => ?_
 refine gO Try.func95 #[.pointer prl] ?_
 with_reducible refine (less_any _ _ _ _ _ _ (fun k hk => HSS.out k (Nat.le_trans HB1.out.size hk)) (by rw [← Erl.out]; exact (Hrl.out.below HB1.out))).mono ?_
 rw [← Erl.out]
 rintro e w2_ ⟨v', rfl, h1, h2⟩
 obtain ⟨q2, rfl⟩ := h1.ptr
 have HB2 := Am (HB1.out.trans (h2.mono HB1.out.size))
 have HNq2 := Am (TopRep.rep h1 h2)
 have HV2 := Am ((h2.block _ (Array.getElem?_eq_some_iff.1 HV1.out).1).trans HV1.out)
 replace HNq1 := Am (Rep.below HNq1.out h2)
 clear h1 h2 HB1 HV1
 refine ⟨_, rfl, ?_⟩
 refine hK.out _ _ (vc11 HV2.out) (fun hHeld => ?_)
 clear hK K
 refine nm 155 ?_
 refine on 13 156 fun K hK => ?_
 refine gO Try.func93 #[.agg #[.bool m, .pointer p, .pointer pl, .pointer pr, .pointer pll, .pointer plr, .pointer prl, .pointer prr, .pointer pa, .pointer pb, .bool rt], .pointer p, .int .i64 1, .pointer q1, .pointer q2] ?_
 with_reducible refine (put_any _ _ _ _ _ _ _ _ _ _ _ _ _ _ _ _ _ _ _ _ _ _ (fun k hk => HSS.out k (Nat.le_trans HB2.out.size hk)) (by rw [← Ex.out]; exact (Hx.out.below HB2.out)) HNq1.out HNq2.out).mono ?_
 rw [show nx.f0 = keyT X from by rw [Ex.out]; rfl]
 rintro e w3_ ⟨v', rfl, h1, h2⟩
 obtain ⟨q3, rfl⟩ := h1.ptr
 have HB3 := Am (HB2.out.trans (h2.mono HB2.out.size))
 have HNq3 := Am (TopRep.rep h1 h2)
 have HV3 := Am ((h2.block _ (Array.getElem?_eq_some_iff.1 HV2.out).1).trans HV2.out)
 replace HNq1 := Am (Rep.below HNq1.out h2)
 replace HNq2 := Am (Rep.below HNq2.out h2)
 clear h1 h2 HB2 HV2
 refine ⟨_, rfl, ?_⟩
 refine hK.out _ _ (vc11 HV3.out) (fun hHeld => ?_)
 clear hK K
 refine nm 156 ?_
 refine on 16 159 fun K hK => ?_
 refine gO Try.func93 #[.agg #[.bool m, .pointer p, .pointer pl, .pointer pr, .pointer pll, .pointer plr, .pointer prl, .pointer prr, .pointer pa, .pointer pb, .bool rt], .pointer pr, .int .i64 (wt X), .pointer q3, .pointer prr] ?_
 with_reducible refine (put_any _ _ _ _ _ _ _ _ _ _ _ _ _ _ _ _ _ _ _ _ _ _ (fun k hk => HSS.out k (Nat.le_trans HB3.out.size hk)) (by rw [← Er.out]; exact (Hr.out.below HB3.out)) HNq3.out (Hrr.out.below HB3.out)).mono ?_
 rw [show nr.f0 = keyT R from by rw [Er.out]; rfl]
 rintro e w4_ ⟨v', rfl, h1, h2⟩
 obtain ⟨q4, rfl⟩ := h1.ptr
 have HB4 := Am (HB3.out.trans (h2.mono HB3.out.size))
 have HNq4 := Am (TopRep.rep h1 h2)
 have HTOP := Am h1
 have HTB := Am h2
 have HTW := HB3
 have HV4 := Am ((h2.block _ (Array.getElem?_eq_some_iff.1 HV3.out).1).trans HV3.out)
 replace HNq1 := Am (Rep.below HNq1.out h2)
 replace HNq2 := Am (Rep.below HNq2.out h2)
 replace HNq3 := Am (Rep.below HNq3.out h2)
 clear h1 h2 HB3 HV3
 refine ⟨_, rfl, ?_⟩
 refine hK.out _ _ (vc11 HV4.out) (fun hHeld => ?_)
 clear hK K
 refine nm 159 ?_
 refine pu 17 4 ?_
 refine done_ (by kernel_rfl) ?_
 try clear hHeld
 go_wp2
 go_ret
 exact HF.out _ _ _ HTW.out HTB.out HTOP.out
theorem do6_any (m rt : Bool) (p pl pr pll plr prl prr pa pb : Option Addr) {nx : S34} {qx : Int} {lx rx : Tr} {nl : S34} {ql : Int} {ll rl : Tr} {nr : S34} {qr : Int} {lr rr : Tr} {nrl : S34} {qrl : Int} {lrl rrl : Tr} {X : Tr} {L : Tr} {R : Tr} {RL : Tr} {RR : Tr} (w : World) (hS : ∀ k, w.heap.size ≤ k → S k) (ex : X = .node nx qx lx rx) (el : L = .node nl ql ll rl) (er : R = .node nr qr lr rr) (erl : RL = .node nrl qrl lrl rrl) (Hx : Aside0 (Rep S w (.pointer p) X)) (Hl : Aside0 (Rep S w (.pointer pl) L)) (Hr : Aside0 (Rep S w (.pointer pr) R)) (Hrl : Aside0 (Rep S w (.pointer prl) RL)) (Hrr : Aside0 (Rep S w (.pointer prr) RR)) :
  Calls Try.prog 65 #[.agg #[.bool m, .pointer p, .pointer pl, .pointer pr, .pointer pll, .pointer plr, .pointer prl, .pointer prr, .pointer pa, .pointer pb, .bool rt], .int .i64 6] w fun e w' => DoPost S w (putT m (keyT R) (wt X) (putT m (keyT X) 1 (lessT L) (asT 0 RL)) RR) e w' := by
 have Ex := Am ex
 clear ex
 have El := Am el
 clear el
 have Er := Am er
 clear er
 have Erl := Am erl
 clear erl
 have HSS := Am hS
 clear hS
 have hfin := do_fin (S := S) w (putT m (keyT R) (wt X) (putT m (keyT X) 1 (lessT L) (asT 0 RL)) RR)
 have HF := Am hfin
 clear hfin
 go_enter Try.func65, Try.ntmps65
 go_wp2_with (fail)
 refine (weight_any _ _ _ (Hx.out.below ((Below.refl _ _).alloc (Nat.le_refl _) _))).mono ?_
 rintro e w' ⟨rfl, rfl⟩
 go_wp2
 have HB0 : Aside0 (Below w.heap.size w (w.alloc (.cells #[.bool m, .pointer p, .pointer pl, .pointer pr, .pointer pll, .pointer plr, .pointer prl, .pointer prr, .pointer pa, .pointer pb, .bool rt] 111))) := ⟨(Below.refl _ _).alloc (Nat.le_refl _) _⟩
 have HV0 : Aside0 ((w.alloc (.cells #[.bool m, .pointer p, .pointer pl, .pointer pr, .pointer pll, .pointer plr, .pointer prl, .pointer prr, .pointer pa, .pointer pb, .bool rt] 111)).heap[w.heap.size]? = some (.cells #[.bool m, .pointer p, .pointer pl, .pointer pr, .pointer pll, .pointer plr, .pointer prl, .pointer prr, .pointer pa, .pointer pb, .bool rt] 111 (0, 0))) := ⟨heap_alloc_new w _⟩
 generalize w.alloc (.cells #[.bool m, .pointer p, .pointer pl, .pointer pr, .pointer pll, .pointer plr, .pointer prl, .pointer prr, .pointer pa, .pointer pb, .bool rt] 111) = w1 at HB0 HV0 ⊢
 obtain ⟨g, hg⟩ : ∃ g, g = w.heap.size := ⟨_, rfl⟩
 rw [← hg] at HV0 ⊢
 clear hg
 have HB0_ := Am (bd HB0.out)
 have HV0_ : Aside0 (w1.drew.heap[g]? = some (.cells #[.bool m, .pointer p, .pointer pl, .pointer pr, .pointer pll, .pointer plr, .pointer prl, .pointer prr, .pointer pa, .pointer pb, .bool rt] 111 (0, 0))) := ⟨HV0.out⟩
 clear HB0 HV0 
 have HB0 := HB0_
 have HV0 := HV0_
 clear HB0_ HV0_
 refine sT 18 [] (S := fun w' => w'.cell? ⟨g, 0, none⟩ = some (.bool m) ∧ w'.cell? ⟨g, 1, none⟩ = some (.pointer p) ∧ w'.cell? ⟨g, 2, none⟩ = some (.pointer pl) ∧ w'.cell? ⟨g, 3, none⟩ = some (.pointer pr) ∧ w'.cell? ⟨g, 4, none⟩ = some (.pointer pll) ∧ w'.cell? ⟨g, 5, none⟩ = some (.pointer plr) ∧ w'.cell? ⟨g, 6, none⟩ = some (.pointer prl) ∧ w'.cell? ⟨g, 7, none⟩ = some (.pointer prr) ∧ w'.cell? ⟨g, 8, none⟩ = some (.pointer pa) ∧ w'.cell? ⟨g, 9, none⟩ = some (.pointer pb) ∧ w'.cell? ⟨g, 10, none⟩ = some (.bool rt)) (vc11 HV0.out) fun hHeld => ?_
 refine pu 1 163 ?_
 refine pu 3 165 ?_
 refine pu 5 167 ?_
 refine pu 7 169 ?_
 refine pu 10 172 ?_
 refine pu 14 176 ?_
 refine ta 0 162 hHeld ?_
 refine ta 2 164 hHeld ?_
 refine ta 4 166 hHeld ?_
 refine ta 6 168 hHeld ?_
 refine ta 8 170 hHeld ?_
 refine ta 11 173 hHeld ?_
 refine ta 15 177 hHeld ?_
 refine on 9 171 fun K hK => ?_
 refine gO Try.func95 #[.pointer pl] ?_
 with_reducible refine (less_any _ _ _ _ _ _ (fun k hk => HSS.out k (Nat.le_trans HB0.out.size hk)) (by rw [← El.out]; exact (Hl.out.below HB0.out))).mono ?_
 rw [← El.out]
 rintro e w1_ ⟨v', rfl, h1, h2⟩
 obtain ⟨q1, rfl⟩ := h1.ptr
 have HB1 := Am (HB0.out.trans (h2.mono HB0.out.size))
 have HNq1 := Am (TopRep.rep h1 h2)
 have HV1 := Am ((h2.block _ (Array.getElem?_eq_some_iff.1 HV0.out).1).trans HV0.out)
 clear h1 h2 HB0 HV0
 refine ⟨_, rfl, ?_⟩
 refine hK.out _ _ (vc11 HV1.out) (fun hHeld => ?_)
 clear hK K
 refine nm 171 ?_
 refine on 12 174 fun K hK => ?_
 refine gO Try.func94 #[.pointer prl, .int .i64 0] ?_
 with_reducible refine (as_any _ _ _ _ _ _ _ (fun k hk => HSS.out k (Nat.le_trans HB1.out.size hk)) (by rw [← Erl.out]; exact (Hrl.out.below HB1.out))).mono ?_
 rw [← Erl.out]
 rintro e w2_ ⟨v', rfl, h1, h2⟩
 obtain ⟨q2, rfl⟩ := h1.ptr
 have HB2 := Am (HB1.out.trans (h2.mono HB1.out.size))
 have HNq2 := Am (TopRep.rep h1 h2)
 have HV2 := Am ((h2.block _ (Array.getElem?_eq_some_iff.1 HV1.out).1).trans HV1.out)
 replace HNq1 := Am (Rep.below HNq1.out h2)
 clear h1 h2 HB1 HV1
 refine ⟨_, rfl, ?_⟩
 refine hK.out _ _ (vc11 HV2.out) (fun hHeld => ?_)
 clear hK K
 refine nm 174 ?_
 refine on 13 175 fun K hK => ?_
 refine gO Try.func93 #[.agg #[.bool m, .pointer p, .pointer pl, .pointer pr, .pointer pll, .pointer plr, .pointer prl, .pointer prr, .pointer pa, .pointer pb, .bool rt], .pointer p, .int .i64 1, .pointer q1, .pointer q2] ?_
 with_reducible refine (put_any _ _ _ _ _ _ _ _ _ _ _ _ _ _ _ _ _ _ _ _ _ _ (fun k hk => HSS.out k (Nat.le_trans HB2.out.size hk)) (by rw [← Ex.out]; exact (Hx.out.below HB2.out)) HNq1.out HNq2.out).mono ?_
 rw [show nx.f0 = keyT X from by rw [Ex.out]; rfl]
 rintro e w3_ ⟨v', rfl, h1, h2⟩
 obtain ⟨q3, rfl⟩ := h1.ptr
 have HB3 := Am (HB2.out.trans (h2.mono HB2.out.size))
 have HNq3 := Am (TopRep.rep h1 h2)
 have HV3 := Am ((h2.block _ (Array.getElem?_eq_some_iff.1 HV2.out).1).trans HV2.out)
 replace HNq1 := Am (Rep.below HNq1.out h2)
 replace HNq2 := Am (Rep.below HNq2.out h2)
 clear h1 h2 HB2 HV2
 refine ⟨_, rfl, ?_⟩
 refine hK.out _ _ (vc11 HV3.out) (fun hHeld => ?_)
 clear hK K
 refine nm 175 ?_
 refine on 16 178 fun K hK => ?_
 refine gO Try.func93 #[.agg #[.bool m, .pointer p, .pointer pl, .pointer pr, .pointer pll, .pointer plr, .pointer prl, .pointer prr, .pointer pa, .pointer pb, .bool rt], .pointer pr, .int .i64 (wt X), .pointer q3, .pointer prr] ?_
 with_reducible refine (put_any _ _ _ _ _ _ _ _ _ _ _ _ _ _ _ _ _ _ _ _ _ _ (fun k hk => HSS.out k (Nat.le_trans HB3.out.size hk)) (by rw [← Er.out]; exact (Hr.out.below HB3.out)) HNq3.out (Hrr.out.below HB3.out)).mono ?_
 rw [show nr.f0 = keyT R from by rw [Er.out]; rfl]
 rintro e w4_ ⟨v', rfl, h1, h2⟩
 obtain ⟨q4, rfl⟩ := h1.ptr
 have HB4 := Am (HB3.out.trans (h2.mono HB3.out.size))
 have HNq4 := Am (TopRep.rep h1 h2)
 have HTOP := Am h1
 have HTB := Am h2
 have HTW := HB3
 have HV4 := Am ((h2.block _ (Array.getElem?_eq_some_iff.1 HV3.out).1).trans HV3.out)
 replace HNq1 := Am (Rep.below HNq1.out h2)
 replace HNq2 := Am (Rep.below HNq2.out h2)
 replace HNq3 := Am (Rep.below HNq3.out h2)
 clear h1 h2 HB3 HV3
 refine ⟨_, rfl, ?_⟩
 refine hK.out _ _ (vc11 HV4.out) (fun hHeld => ?_)
 clear hK K
 refine nm 178 ?_
 refine pu 17 4 ?_
 refine done_ (by kernel_rfl) ?_
 try clear hHeld
 go_wp2
 go_ret
 exact HF.out _ _ _ HTW.out HTB.out HTOP.out
end
section
variable {S : Nat → Prop}
theorem do7_any (m rt : Bool) (p pl pr pll plr prl prr pa pb : Option Addr) {nx : S34} {qx : Int} {lx rx : Tr} {nl : S34} {ql : Int} {ll rl : Tr} {nr : S34} {qr : Int} {lr rr : Tr} {nrl : S34} {qrl : Int} {lrl rrl : Tr} {na : S34} {qa : Int} {la ra : Tr} {X : Tr} {L : Tr} {R : Tr} {RL : Tr} {RR : Tr} {A : Tr} {B : Tr} (w : World) (hS : ∀ k, w.heap.size ≤ k → S k) (ex : X = .node nx qx lx rx) (el : L = .node nl ql ll rl) (er : R = .node nr qr lr rr) (erl : RL = .node nrl qrl lrl rrl) (ea : A = .node na qa la ra) (Hx : Aside0 (Rep S w (.pointer p) X)) (Hl : Aside0 (Rep S w (.pointer pl) L)) (Hr : Aside0 (Rep S w (.pointer pr) R)) (Hrl : Aside0 (Rep S w (.pointer prl) RL)) (Hrr : Aside0 (Rep S w (.pointer prr) RR)) (Ha : Aside0 (Rep S w (.pointer pa) A)) (Hb : Aside0 (Rep S w (.pointer pb) B)) :
  Calls Try.prog 65 #[.agg #[.bool m, .pointer p, .pointer pl, .pointer pr, .pointer pll, .pointer plr, .pointer prl, .pointer prr, .pointer pa, .pointer pb, .bool rt], .int .i64 7] w fun e w' => DoPost S w (putT m (keyT R) (wt X) (putT m (keyT A) 0 (putT m (keyT X) 1 (lessT L) (lT m A)) (putT m (keyT RL) 1 (rT m A) B)) RR) e w' := by
 have Ex := Am ex
 clear ex
 have El := Am el
 clear el
 have Er := Am er
 clear er
 have Erl := Am erl
 clear erl
 have Ea := Am ea
 clear ea
 have HSS := Am hS
 clear hS
 have hfin := do_fin (S := S) w (putT m (keyT R) (wt X) (putT m (keyT A) 0 (putT m (keyT X) 1 (lessT L) (lT m A)) (putT m (keyT RL) 1 (rT m A) B)) RR)
 have HF := Am hfin
 clear hfin
 go_enter Try.func65, Try.ntmps65
 go_wp2_with (fail)
 refine (weight_any _ _ _ (Hx.out.below ((Below.refl _ _).alloc (Nat.le_refl _) _))).mono ?_
 rintro e w' ⟨rfl, rfl⟩
 go_wp2
 have HB0 : Aside0 (Below w.heap.size w (w.alloc (.cells #[.bool m, .pointer p, .pointer pl, .pointer pr, .pointer pll, .pointer plr, .pointer prl, .pointer prr, .pointer pa, .pointer pb, .bool rt] 111))) := ⟨(Below.refl _ _).alloc (Nat.le_refl _) _⟩
 have HV0 : Aside0 ((w.alloc (.cells #[.bool m, .pointer p, .pointer pl, .pointer pr, .pointer pll, .pointer plr, .pointer prl, .pointer prr, .pointer pa, .pointer pb, .bool rt] 111)).heap[w.heap.size]? = some (.cells #[.bool m, .pointer p, .pointer pl, .pointer pr, .pointer pll, .pointer plr, .pointer prl, .pointer prr, .pointer pa, .pointer pb, .bool rt] 111 (0, 0))) := ⟨heap_alloc_new w _⟩
 generalize w.alloc (.cells #[.bool m, .pointer p, .pointer pl, .pointer pr, .pointer pll, .pointer plr, .pointer prl, .pointer prr, .pointer pa, .pointer pb, .bool rt] 111) = w1 at HB0 HV0 ⊢
 obtain ⟨g, hg⟩ : ∃ g, g = w.heap.size := ⟨_, rfl⟩
 rw [← hg] at HV0 ⊢
 clear hg
 have HB0_ := Am (bd HB0.out)
 have HV0_ : Aside0 (w1.drew.heap[g]? = some (.cells #[.bool m, .pointer p, .pointer pl, .pointer pr, .pointer pll, .pointer plr, .pointer prl, .pointer prr, .pointer pa, .pointer pb, .bool rt] 111 (0, 0))) := ⟨HV0.out⟩
 clear HB0 HV0 
 have HB0 := HB0_
 have HV0 := HV0_
 clear HB0_ HV0_
 refine sT 12 [] (S := fun w' => w'.cell? ⟨g, 0, none⟩ = some (.bool m) ∧ w'.cell? ⟨g, 1, none⟩ = some (.pointer p) ∧ w'.cell? ⟨g, 2, none⟩ = some (.pointer pl) ∧ w'.cell? ⟨g, 3, none⟩ = some (.pointer pr) ∧ w'.cell? ⟨g, 4, none⟩ = some (.pointer pll) ∧ w'.cell? ⟨g, 5, none⟩ = some (.pointer plr) ∧ w'.cell? ⟨g, 6, none⟩ = some (.pointer prl) ∧ w'.cell? ⟨g, 7, none⟩ = some (.pointer prr) ∧ w'.cell? ⟨g, 8, none⟩ = some (.pointer pa) ∧ w'.cell? ⟨g, 9, none⟩ = some (.pointer pb) ∧ w'.cell? ⟨g, 10, none⟩ = some (.bool rt)) (vc11 HV0.out) fun hHeld => ?_
 refine pu 1 182 ?_
 refine pu 3 184 ?_
 refine pu 7 188 ?_
 refine ta 0 181 hHeld ?_
 refine ta 2 183 hHeld ?_
 refine ta 4 185 hHeld ?_
 refine ta 6 187 hHeld ?_
 refine ta 8 189 hHeld ?_
 refine on 5 186 fun K hK => ?_
 refine gO Try.func95 #[.pointer pl] ?_
 with_reducible refine (less_any _ _ _ _ _ _ (fun k hk => HSS.out k (Nat.le_trans HB0.out.size hk)) (by rw [← El.out]; exact (Hl.out.below HB0.out))).mono ?_
 rw [← El.out]
 rintro e w1_ ⟨v', rfl, h1, h2⟩
 obtain ⟨q1, rfl⟩ := h1.ptr
 have HB1 := Am (HB0.out.trans (h2.mono HB0.out.size))
 have HNq1 := Am (TopRep.rep h1 h2)
 have HV1 := Am ((h2.block _ (Array.getElem?_eq_some_iff.1 HV0.out).1).trans HV0.out)
 clear h1 h2 HB0 HV0
 refine ⟨_, rfl, ?_⟩
 refine hK.out _ _ (vc11 HV1.out) (fun hHeld => ?_)
 clear hK K
 refine nm 186 ?_
 refine on 9 190 fun K hK => ?_
 refine gO Try.func85 #[.agg #[.bool m, .pointer p, .pointer pl, .pointer pr, .pointer pll, .pointer plr, .pointer prl, .pointer prr, .pointer pa, .pointer pb, .bool rt], .pointer pa] ?_
 with_reducible refine (left_any _ _ _ _ _ _ _ _ _ _ _ _ _ w _ Ha.out HB1.out).mono ?_
 rintro e w2_ ⟨v', rfl, h1, h2⟩
 obtain ⟨q2, rfl⟩ := h1.ptr
 have HB2 := Am (HB1.out.trans (h2.mono HB1.out.size))
 have HNq2 := Am (Rep.below h1 HB2.out)
 have HV2 := Am ((h2.block _ (Array.getElem?_eq_some_iff.1 HV1.out).1).trans HV1.out)
 replace HNq1 := Am (Rep.below HNq1.out h2)
 clear h1 h2 HB1 HV1
 refine ⟨_, rfl, ?_⟩
 refine hK.out _ _ (vc11 HV2.out) (fun hHeld => ?_)
 clear hK K
 refine nm 190 ?_
 refine on 10 191 fun K hK => ?_
 refine gO Try.func93 #[.agg #[.bool m, .pointer p, .pointer pl, .pointer pr, .pointer pll, .pointer plr, .pointer prl, .pointer prr, .pointer pa, .pointer pb, .bool rt], .pointer p, .int .i64 1, .pointer q1, .pointer q2] ?_
 with_reducible refine (put_any _ _ _ _ _ _ _ _ _ _ _ _ _ _ _ _ _ _ _ _ _ _ (fun k hk => HSS.out k (Nat.le_trans HB2.out.size hk)) (by rw [← Ex.out]; exact (Hx.out.below HB2.out)) HNq1.out HNq2.out).mono ?_
 rw [show nx.f0 = keyT X from by rw [Ex.out]; rfl]
 rintro e w3_ ⟨v', rfl, h1, h2⟩
 obtain ⟨q3, rfl⟩ := h1.ptr
 have HB3 := Am (HB2.out.trans (h2.mono HB2.out.size))
 have HNq3 := Am (TopRep.rep h1 h2)
 have HV3 := Am ((h2.block _ (Array.getElem?_eq_some_iff.1 HV2.out).1).trans HV2.out)
 replace HNq1 := Am (Rep.below HNq1.out h2)
 replace HNq2 := Am (Rep.below HNq2.out h2)
 clear h1 h2 HB2 HV2
 refine ⟨_, rfl, ?_⟩
 refine hK.out _ _ (vc11 HV3.out) (fun hHeld => ?_)
 clear hK K
 refine nm 191 ?_
 refine pu 11 6 ?_
 refine done_ (by kernel_rfl) ?_
 try clear hHeld
 go_wp2
 have HB3_ := Am (bd HB3.out)
 have HV3_ : Aside0 (w3_.drew.heap[g]? = some (.cells #[.bool m, .pointer p, .pointer pl, .pointer pr, .pointer pll, .pointer plr, .pointer prl, .pointer prr, .pointer pa, .pointer pb, .bool rt] 111 (0, 0))) := ⟨HV3.out⟩
 have HNq1_ : Aside0 (Rep S w3_.drew (.pointer q1) (lessT L)) := ⟨Rep.kept (w := w3_) (w' := w3_.drew) (fun _ _ => rfl) HNq1.out⟩
 have HNq2_ : Aside0 (Rep S w3_.drew (.pointer q2) (lT m A)) := ⟨Rep.kept (w := w3_) (w' := w3_.drew) (fun _ _ => rfl) HNq2.out⟩
 have HNq3_ : Aside0 (Rep S w3_.drew (.pointer q3) (putT m (keyT X) 1 (lessT L) (lT m A))) := ⟨Rep.kept (w := w3_) (w' := w3_.drew) (fun _ _ => rfl) HNq3.out⟩
 clear HB3 HV3 HNq1 HNq2 HNq3
 have HB3 := HB3_
 have HV3 := HV3_
 clear HB3_ HV3_
 have HNq1 := HNq1_
 clear HNq1_
 have HNq2 := HNq2_
 clear HNq2_
 have HNq3 := HNq3_
 clear HNq3_
 refine sT 11 [] (S := fun w' => w'.cell? ⟨g, 0, none⟩ = some (.bool m) ∧ w'.cell? ⟨g, 1, none⟩ = some (.pointer p) ∧ w'.cell? ⟨g, 2, none⟩ = some (.pointer pl) ∧ w'.cell? ⟨g, 3, none⟩ = some (.pointer pr) ∧ w'.cell? ⟨g, 4, none⟩ = some (.pointer pll) ∧ w'.cell? ⟨g, 5, none⟩ = some (.pointer plr) ∧ w'.cell? ⟨g, 6, none⟩ = some (.pointer prl) ∧ w'.cell? ⟨g, 7, none⟩ = some (.pointer prr) ∧ w'.cell? ⟨g, 8, none⟩ = some (.pointer pa) ∧ w'.cell? ⟨g, 9, none⟩ = some (.pointer pb) ∧ w'.cell? ⟨g, 10, none⟩ = some (.bool rt)) (vc11 HV3.out) fun hHeld => ?_
 refine pu 1 193 ?_
 refine pu 4 196 ?_
 refine pu 7 199 ?_
 refine ta 0 192 hHeld ?_
 refine ta 2 194 hHeld ?_
 refine ta 3 195 hHeld ?_
 refine ta 5 197 hHeld ?_
 refine ta 8 200 hHeld ?_
 refine on 6 198 fun K hK => ?_
 refine gO Try.func86 #[.agg #[.bool m, .pointer p, .pointer pl, .pointer pr, .pointer pll, .pointer plr, .pointer prl, .pointer prr, .pointer pa, .pointer pb, .bool rt], .pointer pa] ?_
 with_reducible refine (right_any _ _ _ _ _ _ _ _ _ _ _ _ _ w _ Ha.out HB3.out).mono ?_
 rintro e w4_ ⟨v', rfl, h1, h2⟩
 obtain ⟨q4, rfl⟩ := h1.ptr
 have HB4 := Am (HB3.out.trans (h2.mono HB3.out.size))
 have HNq4 := Am (Rep.below h1 HB4.out)
 have HV4 := Am ((h2.block _ (Array.getElem?_eq_some_iff.1 HV3.out).1).trans HV3.out)
 replace HNq1 := Am (Rep.below HNq1.out h2)
 replace HNq2 := Am (Rep.below HNq2.out h2)
 replace HNq3 := Am (Rep.below HNq3.out h2)
 clear h1 h2 HB3 HV3
 refine ⟨_, rfl, ?_⟩
 refine hK.out _ _ (vc11 HV4.out) (fun hHeld => ?_)
 clear hK K
 refine nm 198 ?_
 refine on 9 201 fun K hK => ?_
 refine gO Try.func93 #[.agg #[.bool m, .pointer p, .pointer pl, .pointer pr, .pointer pll, .pointer plr, .pointer prl, .pointer prr, .pointer pa, .pointer pb, .bool rt], .pointer prl, .int .i64 1, .pointer q4, .pointer pb] ?_
 with_reducible refine (put_any _ _ _ _ _ _ _ _ _ _ _ _ _ _ _ _ _ _ _ _ _ _ (fun k hk => HSS.out k (Nat.le_trans HB4.out.size hk)) (by rw [← Erl.out]; exact (Hrl.out.below HB4.out)) HNq4.out (Hb.out.below HB4.out)).mono ?_
 rw [show nrl.f0 = keyT RL from by rw [Erl.out]; rfl]
 rintro e w5_ ⟨v', rfl, h1, h2⟩
 obtain ⟨q5, rfl⟩ := h1.ptr
 have HB5 := Am (HB4.out.trans (h2.mono HB4.out.size))
 have HNq5 := Am (TopRep.rep h1 h2)
 have HV5 := Am ((h2.block _ (Array.getElem?_eq_some_iff.1 HV4.out).1).trans HV4.out)
 replace HNq1 := Am (Rep.below HNq1.out h2)
 replace HNq2 := Am (Rep.below HNq2.out h2)
 replace HNq3 := Am (Rep.below HNq3.out h2)
 replace HNq4 := Am (Rep.below HNq4.out h2)
 clear h1 h2 HB4 HV4
 refine ⟨_, rfl, ?_⟩
 refine hK.out _ _ (vc11 HV5.out) (fun hHeld => ?_)
 clear hK K
 refine nm 201 ?_
 refine pu 10 7 ?_
 refine done_ (by kernel_rfl) ?_
 try clear hHeld
 go_wp2
 have HB5_ := Am (bd HB5.out)
 have HV5_ : Aside0 (w5_.drew.heap[g]? = some (.cells #[.bool m, .pointer p, .pointer pl, .pointer pr, .pointer pll, .pointer plr, .pointer prl, .pointer prr, .pointer pa, .pointer pb, .bool rt] 111 (0, 0))) := ⟨HV5.out⟩
 have HNq1_ : Aside0 (Rep S w5_.drew (.pointer q1) (lessT L)) := ⟨Rep.kept (w := w5_) (w' := w5_.drew) (fun _ _ => rfl) HNq1.out⟩
 have HNq2_ : Aside0 (Rep S w5_.drew (.pointer q2) (lT m A)) := ⟨Rep.kept (w := w5_) (w' := w5_.drew) (fun _ _ => rfl) HNq2.out⟩
 have HNq3_ : Aside0 (Rep S w5_.drew (.pointer q3) (putT m (keyT X) 1 (lessT L) (lT m A))) := ⟨Rep.kept (w := w5_) (w' := w5_.drew) (fun _ _ => rfl) HNq3.out⟩
 have HNq4_ : Aside0 (Rep S w5_.drew (.pointer q4) (rT m A)) := ⟨Rep.kept (w := w5_) (w' := w5_.drew) (fun _ _ => rfl) HNq4.out⟩
 have HNq5_ : Aside0 (Rep S w5_.drew (.pointer q5) (putT m (keyT RL) 1 (rT m A) B)) := ⟨Rep.kept (w := w5_) (w' := w5_.drew) (fun _ _ => rfl) HNq5.out⟩
 clear HB5 HV5 HNq1 HNq2 HNq3 HNq4 HNq5
 have HB5 := HB5_
 have HV5 := HV5_
 clear HB5_ HV5_
 have HNq1 := HNq1_
 clear HNq1_
 have HNq2 := HNq2_
 clear HNq2_
 have HNq3 := HNq3_
 clear HNq3_
 have HNq4 := HNq4_
 clear HNq4_
 have HNq5 := HNq5_
 clear HNq5_
 refine sT 14 [] (S := fun w' => w'.cell? ⟨g, 0, none⟩ = some (.bool m) ∧ w'.cell? ⟨g, 1, none⟩ = some (.pointer p) ∧ w'.cell? ⟨g, 2, none⟩ = some (.pointer pl) ∧ w'.cell? ⟨g, 3, none⟩ = some (.pointer pr) ∧ w'.cell? ⟨g, 4, none⟩ = some (.pointer pll) ∧ w'.cell? ⟨g, 5, none⟩ = some (.pointer plr) ∧ w'.cell? ⟨g, 6, none⟩ = some (.pointer prl) ∧ w'.cell? ⟨g, 7, none⟩ = some (.pointer prr) ∧ w'.cell? ⟨g, 8, none⟩ = some (.pointer pa) ∧ w'.cell? ⟨g, 9, none⟩ = some (.pointer pb) ∧ w'.cell? ⟨g, 10, none⟩ = some (.bool rt)) (vc11 HV5.out) fun hHeld => ?_
 refine pu 1 203 ?_
 refine pu 3 205 ?_
 refine pu 5 207 ?_
 refine pu 7 209 ?_
 refine pu 8 210 ?_
 refine pu 10 212 ?_
 refine ta 0 202 hHeld ?_
 refine ta 2 204 hHeld ?_
 refine ta 4 206 hHeld ?_
 refine ta 6 208 hHeld ?_
 refine ta 11 213 hHeld ?_
 refine on 9 211 fun K hK => ?_
 refine gO Try.func93 #[.agg #[.bool m, .pointer p, .pointer pl, .pointer pr, .pointer pll, .pointer plr, .pointer prl, .pointer prr, .pointer pa, .pointer pb, .bool rt], .pointer pa, .int .i64 0, .pointer q3, .pointer q5] ?_
 with_reducible refine (put_any _ _ _ _ _ _ _ _ _ _ _ _ _ _ _ _ _ _ _ _ _ _ (fun k hk => HSS.out k (Nat.le_trans HB5.out.size hk)) (by rw [← Ea.out]; exact (Ha.out.below HB5.out)) HNq3.out HNq5.out).mono ?_
 rw [show na.f0 = keyT A from by rw [Ea.out]; rfl]
 rintro e w6_ ⟨v', rfl, h1, h2⟩
 obtain ⟨q6, rfl⟩ := h1.ptr
 have HB6 := Am (HB5.out.trans (h2.mono HB5.out.size))
 have HNq6 := Am (TopRep.rep h1 h2)
 have HV6 := Am ((h2.block _ (Array.getElem?_eq_some_iff.1 HV5.out).1).trans HV5.out)
 replace HNq1 := Am (Rep.below HNq1.out h2)
 replace HNq2 := Am (Rep.below HNq2.out h2)
 replace HNq3 := Am (Rep.below HNq3.out h2)
 replace HNq4 := Am (Rep.below HNq4.out h2)
 replace HNq5 := Am (Rep.below HNq5.out h2)
 clear h1 h2 HB5 HV5
 refine ⟨_, rfl, ?_⟩
 refine hK.out _ _ (vc11 HV6.out) (fun hHeld => ?_)
 clear hK K
 refine nm 211 ?_
 refine on 12 214 fun K hK => ?_
 refine gO Try.func93 #[.agg #[.bool m, .pointer p, .pointer pl, .pointer pr, .pointer pll, .pointer plr, .pointer prl, .pointer prr, .pointer pa, .pointer pb, .bool rt], .pointer pr, .int .i64 (wt X), .pointer q6, .pointer prr] ?_
 with_reducible refine (put_any _ _ _ _ _ _ _ _ _ _ _ _ _ _ _ _ _ _ _ _ _ _ (fun k hk => HSS.out k (Nat.le_trans HB6.out.size hk)) (by rw [← Er.out]; exact (Hr.out.below HB6.out)) HNq6.out (Hrr.out.below HB6.out)).mono ?_
 rw [show nr.f0 = keyT R from by rw [Er.out]; rfl]
 rintro e w7_ ⟨v', rfl, h1, h2⟩
 obtain ⟨q7, rfl⟩ := h1.ptr
 have HB7 := Am (HB6.out.trans (h2.mono HB6.out.size))
 have HNq7 := Am (TopRep.rep h1 h2)
 have HTOP := Am h1
 have HTB := Am h2
 have HTW := HB6
 have HV7 := Am ((h2.block _ (Array.getElem?_eq_some_iff.1 HV6.out).1).trans HV6.out)
 replace HNq1 := Am (Rep.below HNq1.out h2)
 replace HNq2 := Am (Rep.below HNq2.out h2)
 replace HNq3 := Am (Rep.below HNq3.out h2)
 replace HNq4 := Am (Rep.below HNq4.out h2)
 replace HNq5 := Am (Rep.below HNq5.out h2)
 replace HNq6 := Am (Rep.below HNq6.out h2)
 clear h1 h2 HB6 HV6
 refine ⟨_, rfl, ?_⟩
 refine hK.out _ _ (vc11 HV7.out) (fun hHeld => ?_)
 clear hK K
 refine nm 214 ?_
 refine pu 13 4 ?_
 refine done_ (by kernel_rfl) ?_
 try clear hHeld
 go_wp2
 go_ret
 exact HF.out _ _ _ HTW.out HTB.out HTOP.out
end
section
variable {S : Nat → Prop}
theorem do8_any (m rt : Bool) (p pl pr pll plr prl prr pa pb : Option Addr) {nx : S34} {qx : Int} {lx rx : Tr} {nl : S34} {ql : Int} {ll rl : Tr} {nr : S34} {qr : Int} {lr rr : Tr} {nrl : S34} {qrl : Int} {lrl rrl : Tr} {nb : S34} {qb : Int} {lb rb : Tr} {X : Tr} {L : Tr} {R : Tr} {RL : Tr} {RR : Tr} {A : Tr} {B : Tr} (w : World) (hS : ∀ k, w.heap.size ≤ k → S k) (ex : X = .node nx qx lx rx) (el : L = .node nl ql ll rl) (er : R = .node nr qr lr rr) (erl : RL = .node nrl qrl lrl rrl) (eb : B = .node nb qb lb rb) (Hx : Aside0 (Rep S w (.pointer p) X)) (Hl : Aside0 (Rep S w (.pointer pl) L)) (Hr : Aside0 (Rep S w (.pointer pr) R)) (Hrl : Aside0 (Rep S w (.pointer prl) RL)) (Hrr : Aside0 (Rep S w (.pointer prr) RR)) (Ha : Aside0 (Rep S w (.pointer pa) A)) (Hb : Aside0 (Rep S w (.pointer pb) B)) :
  Calls Try.prog 65 #[.agg #[.bool m, .pointer p, .pointer pl, .pointer pr, .pointer pll, .pointer plr, .pointer prl, .pointer prr, .pointer pa, .pointer pb, .bool rt], .int .i64 8] w fun e w' => DoPost S w (putT m (keyT R) (wt X) (putT m (keyT RL) 0 (putT m (keyT X) 1 (lessT L) A) (asT 1 B)) RR) e w' := by
 have Ex := Am ex
 clear ex
 have El := Am el
 clear el
 have Er := Am er
 clear er
 have Erl := Am erl
 clear erl
 have Eb := Am eb
 clear eb
 have HSS := Am hS
 clear hS
 have hfin := do_fin (S := S) w (putT m (keyT R) (wt X) (putT m (keyT RL) 0 (putT m (keyT X) 1 (lessT L) A) (asT 1 B)) RR)
 have HF := Am hfin
 clear hfin
 go_enter Try.func65, Try.ntmps65
 go_wp2_with (fail)
 refine (weight_any _ _ _ (Hx.out.below ((Below.refl _ _).alloc (Nat.le_refl _) _))).mono ?_
 rintro e w' ⟨rfl, rfl⟩
 go_wp2
 have HB0 : Aside0 (Below w.heap.size w (w.alloc (.cells #[.bool m, .pointer p, .pointer pl, .pointer pr, .pointer pll, .pointer plr, .pointer prl, .pointer prr, .pointer pa, .pointer pb, .bool rt] 111))) := ⟨(Below.refl _ _).alloc (Nat.le_refl _) _⟩
 have HV0 : Aside0 ((w.alloc (.cells #[.bool m, .pointer p, .pointer pl, .pointer pr, .pointer pll, .pointer plr, .pointer prl, .pointer prr, .pointer pa, .pointer pb, .bool rt] 111)).heap[w.heap.size]? = some (.cells #[.bool m, .pointer p, .pointer pl, .pointer pr, .pointer pll, .pointer plr, .pointer prl, .pointer prr, .pointer pa, .pointer pb, .bool rt] 111 (0, 0))) := ⟨heap_alloc_new w _⟩
 generalize w.alloc (.cells #[.bool m, .pointer p, .pointer pl, .pointer pr, .pointer pll, .pointer plr, .pointer prl, .pointer prr, .pointer pa, .pointer pb, .bool rt] 111) = w1 at HB0 HV0 ⊢
 obtain ⟨g, hg⟩ : ∃ g, g = w.heap.size := ⟨_, rfl⟩
 rw [← hg] at HV0 ⊢
 clear hg
 have HB0_ := Am (bd HB0.out)
 have HV0_ : Aside0 (w1.drew.heap[g]? = some (.cells #[.bool m, .pointer p, .pointer pl, .pointer pr, .pointer pll, .pointer plr, .pointer prl, .pointer prr, .pointer pa, .pointer pb, .bool rt] 111 (0, 0))) := ⟨HV0.out⟩
 clear HB0 HV0 
 have HB0 := HB0_
 have HV0 := HV0_
 clear HB0_ HV0_
 refine sT 24 [] (S := fun w' => w'.cell? ⟨g, 0, none⟩ = some (.bool m) ∧ w'.cell? ⟨g, 1, none⟩ = some (.pointer p) ∧ w'.cell? ⟨g, 2, none⟩ = some (.pointer pl) ∧ w'.cell? ⟨g, 3, none⟩ = some (.pointer pr) ∧ w'.cell? ⟨g, 4, none⟩ = some (.pointer pll) ∧ w'.cell? ⟨g, 5, none⟩ = some (.pointer plr) ∧ w'.cell? ⟨g, 6, none⟩ = some (.pointer prl) ∧ w'.cell? ⟨g, 7, none⟩ = some (.pointer prr) ∧ w'.cell? ⟨g, 8, none⟩ = some (.pointer pa) ∧ w'.cell? ⟨g, 9, none⟩ = some (.pointer pb) ∧ w'.cell? ⟨g, 10, none⟩ = some (.bool rt)) (vc11 HV0.out) fun hHeld => ?_
 refine pu 1 218 ?_
 refine pu 3 220 ?_
 refine pu 5 222 ?_
 refine pu 8 225 ?_
 refine pu 10 227 ?_
 refine pu 13 230 ?_
 refine pu 16 233 ?_
 refine pu 20 237 ?_
 refine ta 0 217 hHeld ?_
 refine ta 2 219 hHeld ?_
 refine ta 4 221 hHeld ?_
 refine ta 6 223 hHeld ?_
 refine ta 7 224 hHeld ?_
 refine ta 9 226 hHeld ?_
 refine ta 11 228 hHeld ?_
 refine ta 14 231 hHeld ?_
 refine ta 17 234 hHeld ?_
 refine ta 21 238 hHeld ?_
 refine on 12 229 fun K hK => ?_
 refine gO Try.func95 #[.pointer pl] ?_
 with_reducible refine (less_any _ _ _ _ _ _ (fun k hk => HSS.out k (Nat.le_trans HB0.out.size hk)) (by rw [← El.out]; exact (Hl.out.below HB0.out))).mono ?_
 rw [← El.out]
 rintro e w1_ ⟨v', rfl, h1, h2⟩
 obtain ⟨q1, rfl⟩ := h1.ptr
 have HB1 := Am (HB0.out.trans (h2.mono HB0.out.size))
 have HNq1 := Am (TopRep.rep h1 h2)
 have HV1 := Am ((h2.block _ (Array.getElem?_eq_some_iff.1 HV0.out).1).trans HV0.out)
 clear h1 h2 HB0 HV0
 refine ⟨_, rfl, ?_⟩
 refine hK.out _ _ (vc11 HV1.out) (fun hHeld => ?_)
 clear hK K
 refine nm 229 ?_
 refine on 15 232 fun K hK => ?_
 refine gO Try.func93 #[.agg #[.bool m, .pointer p, .pointer pl, .pointer pr, .pointer pll, .pointer plr, .pointer prl, .pointer prr, .pointer pa, .pointer pb, .bool rt], .pointer p, .int .i64 1, .pointer q1, .pointer pa] ?_
 with_reducible refine (put_any _ _ _ _ _ _ _ _ _ _ _ _ _ _ _ _ _ _ _ _ _ _ (fun k hk => HSS.out k (Nat.le_trans HB1.out.size hk)) (by rw [← Ex.out]; exact (Hx.out.below HB1.out)) HNq1.out (Ha.out.below HB1.out)).mono ?_
 rw [show nx.f0 = keyT X from by rw [Ex.out]; rfl]
 rintro e w2_ ⟨v', rfl, h1, h2⟩
 obtain ⟨q2, rfl⟩ := h1.ptr
 have HB2 := Am (HB1.out.trans (h2.mono HB1.out.size))
 have HNq2 := Am (TopRep.rep h1 h2)
 have HV2 := Am ((h2.block _ (Array.getElem?_eq_some_iff.1 HV1.out).1).trans HV1.out)
 replace HNq1 := Am (Rep.below HNq1.out h2)
 clear h1 h2 HB1 HV1
 refine ⟨_, rfl, ?_⟩
 refine hK.out _ _ (vc11 HV2.out) (fun hHeld => ?_)
 clear hK K
 refine nm 232 ?_
 refine on 18 235 fun K hK => ?_
 refine gO Try.func94 #[.pointer pb, .int .i64 1] ?_
 with_reducible refine (as_any _ _ _ _ _ _ _ (fun k hk => HSS.out k (Nat.le_trans HB2.out.size hk)) (by rw [← Eb.out]; exact (Hb.out.below HB2.out))).mono ?_
 rw [← Eb.out]
 rintro e w3_ ⟨v', rfl, h1, h2⟩
 obtain ⟨q3, rfl⟩ := h1.ptr
 have HB3 := Am (HB2.out.trans (h2.mono HB2.out.size))
 have HNq3 := Am (TopRep.rep h1 h2)
 have HV3 := Am ((h2.block _ (Array.getElem?_eq_some_iff.1 HV2.out).1).trans HV2.out)
 replace HNq1 := Am (Rep.below HNq1.out h2)
 replace HNq2 := Am (Rep.below HNq2.out h2)
 clear h1 h2 HB2 HV2
 refine ⟨_, rfl, ?_⟩
 refine hK.out _ _ (vc11 HV3.out) (fun hHeld => ?_)
 clear hK K
 refine nm 235 ?_
 refine on 19 236 fun K hK => ?_
 refine gO Try.func93 #[.agg #[.bool m, .pointer p, .pointer pl, .pointer pr, .pointer pll, .pointer plr, .pointer prl, .pointer prr, .pointer pa, .pointer pb, .bool rt], .pointer prl, .int .i64 0, .pointer q2, .pointer q3] ?_
 with_reducible refine (put_any _ _ _ _ _ _ _ _ _ _ _ _ _ _ _ _ _ _ _ _ _ _ (fun k hk => HSS.out k (Nat.le_trans HB3.out.size hk)) (by rw [← Erl.out]; exact (Hrl.out.below HB3.out)) HNq2.out HNq3.out).mono ?_
 rw [show nrl.f0 = keyT RL from by rw [Erl.out]; rfl]
 rintro e w4_ ⟨v', rfl, h1, h2⟩
 obtain ⟨q4, rfl⟩ := h1.ptr
 have HB4 := Am (HB3.out.trans (h2.mono HB3.out.size))
 have HNq4 := Am (TopRep.rep h1 h2)
 have HV4 := Am ((h2.block _ (Array.getElem?_eq_some_iff.1 HV3.out).1).trans HV3.out)
 replace HNq1 := Am (Rep.below HNq1.out h2)
 replace HNq2 := Am (Rep.below HNq2.out h2)
 replace HNq3 := Am (Rep.below HNq3.out h2)
 clear h1 h2 HB3 HV3
 refine ⟨_, rfl, ?_⟩
 refine hK.out _ _ (vc11 HV4.out) (fun hHeld => ?_)
 clear hK K
 refine nm 236 ?_
 refine on 22 239 fun K hK => ?_
 refine gO Try.func93 #[.agg #[.bool m, .pointer p, .pointer pl, .pointer pr, .pointer pll, .pointer plr, .pointer prl, .pointer prr, .pointer pa, .pointer pb, .bool rt], .pointer pr, .int .i64 (wt X), .pointer q4, .pointer prr] ?_
 with_reducible refine (put_any _ _ _ _ _ _ _ _ _ _ _ _ _ _ _ _ _ _ _ _ _ _ (fun k hk => HSS.out k (Nat.le_trans HB4.out.size hk)) (by rw [← Er.out]; exact (Hr.out.below HB4.out)) HNq4.out (Hrr.out.below HB4.out)).mono ?_
 rw [show nr.f0 = keyT R from by rw [Er.out]; rfl]
 rintro e w5_ ⟨v', rfl, h1, h2⟩
 obtain ⟨q5, rfl⟩ := h1.ptr
 have HB5 := Am (HB4.out.trans (h2.mono HB4.out.size))
 have HNq5 := Am (TopRep.rep h1 h2)
 have HTOP := Am h1
 have HTB := Am h2
 have HTW := HB4
 have HV5 := Am ((h2.block _ (Array.getElem?_eq_some_iff.1 HV4.out).1).trans HV4.out)
 replace HNq1 := Am (Rep.below HNq1.out h2)
 replace HNq2 := Am (Rep.below HNq2.out h2)
 replace HNq3 := Am (Rep.below HNq3.out h2)
 replace HNq4 := Am (Rep.below HNq4.out h2)
 clear h1 h2 HB4 HV4
 refine ⟨_, rfl, ?_⟩
 refine hK.out _ _ (vc11 HV5.out) (fun hHeld => ?_)
 clear hK K
 refine nm 239 ?_
 refine pu 23 4 ?_
 refine done_ (by kernel_rfl) ?_
 try clear hHeld
 go_wp2
 go_ret
 exact HF.out _ _ _ HTW.out HTB.out HTOP.out
end
section
variable {S : Nat → Prop}
theorem can12_0 (m : Bool) (p pl pr pll plr prl prr pa pb : Option Addr) (w : World) :
  Calls Try.prog 64 #[.agg #[.bool m, .pointer p, .pointer pl, .pointer pr, .pointer pll, .pointer plr, .pointer prl, .pointer prr, .pointer pa, .pointer pb, .bool false], .int .i64 12] w (RB w (.bool false)) := by
 go_enter Try.func64, Try.ntmps64
 go_wp2
 go_ret
 exact ⟨rfl, (Below.refl _ _).alloc (Nat.le_refl _) _⟩
theorem can12_1 (m : Bool) (p pl pr pll plr prl prr pa pb : Option Addr) (T : Tr) (w : World) (Hx : Aside0 (Rep S w (.pointer p) T)) (b : Bool) (hb : (wt T != 1) = b) :
  Calls Try.prog 64 #[.agg #[.bool m, .pointer p, .pointer pl, .pointer pr, .pointer pll, .pointer plr, .pointer prl, .pointer prr, .pointer pa, .pointer pb, .bool true], .int .i64 12] w (RB w (.bool b)) := by
 cases b with
 | true =>
  go_enter Try.func64, Try.ntmps64
  go_wp2_with (fail)
  refine (weight_any _ _ _ (Hx.out.below ((Below.refl _ _).alloc (Nat.le_refl _) _))).mono ?_
  rintro e w' ⟨rfl, rfl⟩
  go_wp2
  go_ret
  exact ⟨rfl, (Below.refl _ _).alloc (Nat.le_refl _) _⟩
 | false =>
  go_enter Try.func64, Try.ntmps64
  go_wp2_with (fail)
  refine (weight_any _ _ _ (Hx.out.below ((Below.refl _ _).alloc (Nat.le_refl _) _))).mono ?_
  rintro e w' ⟨rfl, rfl⟩
  go_wp2
  go_ret
  exact ⟨rfl, (Below.refl _ _).alloc (Nat.le_refl _) _⟩
def canT (m rt : Bool) (T : Tr) (kind : Int) : Bool :=
 if kind = 1 then can1 m T else if kind = 2 then can2 m T else if kind = 3 then can3 m T else if kind = 4 then can4 m T else if kind = 5 then can5 m T else if kind = 6 then can6 m T else if kind = 7 then can7 m T else if kind = 8 then can8 m T else if kind = 9 then can9 m T else if kind = 10 then can10 m T else if kind = 11 then can11 m T else (rt && wt T != 1)
theorem can_any (m rt : Bool) (p pl pr pll plr prl prr pa pb : Option Addr) (T : Tr) (w : World) (Hx : Aside0 (Rep S w (.pointer p) T)) (Hl : Aside0 (Rep S w (.pointer pl) (lT m T))) (Hr : Aside0 (Rep S w (.pointer pr) (rT m T))) (Hll : Aside0 (Rep S w (.pointer pll) (lT m (lT m T)))) (Hlr : Aside0 (Rep S w (.pointer plr) (rT m (lT m T)))) (Hrl : Aside0 (Rep S w (.pointer prl) (lT m (rT m T)))) (Hrr : Aside0 (Rep S w (.pointer prr) (rT m (rT m T)))) (Ha : Aside0 (Rep S w (.pointer pa) (lT m (lT m (rT m T))))) (Hb : Aside0 (Rep S w (.pointer pb) (rT m (lT m (rT m T))))) (kind : Int) (hk : 1 ≤ kind ∧ kind ≤ 12) :
  Calls Try.prog 64 #[.agg #[.bool m, .pointer p, .pointer pl, .pointer pr, .pointer pll, .pointer plr, .pointer prl, .pointer prr, .pointer pa, .pointer pb, .bool rt], .int .i64 kind] w (RB w (.bool (canT m rt T kind))) := by
 have hd : kind = 1 ∨ kind = 2 ∨ kind = 3 ∨ kind = 4 ∨ kind = 5 ∨ kind = 6 ∨ kind = 7 ∨ kind = 8 ∨ kind = 9 ∨ kind = 10 ∨ kind = 11 ∨ kind = 12 := by omega
 rcases hd with rfl | rfl | rfl | rfl | rfl | rfl | rfl | rfl | rfl | rfl | rfl | rfl
 ·exact can1_any m rt p pl pr pll plr prl prr pa pb T w Hl Hll Hlr Hr Hrl Hrr Hx
 ·exact can2_any m rt p pl pr pll plr prl prr pa pb T w Hl Hll Hr Hx
 ·exact can3_any m rt p pl pr pll plr prl prr pa pb T w Hl Hll Hlr Hr Hx
 ·exact can4_any m rt p pl pr pll plr prl prr pa pb T w Hl Hr Hrl Hrr
 ·exact can5_any m rt p pl pr pll plr prl prr pa pb T w Hl Hr Hrl
 ·exact can6_any m rt p pl pr pll plr prl prr pa pb T w Ha Hb Hl Hr Hrl
 ·exact can7_any m rt p pl pr pll plr prl prr pa pb T w Ha Hb Hl Hr Hrl
 ·exact can8_any m rt p pl pr pll plr prl prr pa pb T w Hb Hl Hr Hrl
 ·exact can9_any m rt p pl pr pll plr prl prr pa pb T w Hl Hr Hrr
 ·exact can10_any m rt p pl pr pll plr prl prr pa pb T w Hl Hr Hrl Hrr
 ·exact can11_any m rt p pl pr pll plr prl prr pa pb T w Hl Hr
 ·cases rt with
  | false => exact can12_0 m p pl pr pll plr prl prr pa pb w
  | true => exact can12_1 m p pl pr pll plr prl prr pa pb T w Hx _ rfl
def do1 (m : Bool) (X : Tr) : Tr := (putT m (keyT X) (wrap64 (wt X - 1)) (asT 1 (lT m X)) (asT 1 (rT m X)))
def do2 (m : Bool) (X : Tr) : Tr := (putT m (keyT (lT m X)) (wt X) (lT m (lT m X)) (putT m (keyT X) 0 (rT m (lT m X)) (rT m X)))
def do3 (m : Bool) (X : Tr) : Tr := (putT m (keyT (rT m (lT m X))) (wt X) (putT m (keyT (lT m X)) 0 (lT m (lT m X)) (lT m (rT m (lT m X)))) (putT m (keyT X) 0 (rT m (rT m (lT m X))) (rT m X)))
def do4 (m : Bool) (X : Tr) : Tr := (putT m (keyT X) (wrap64 (wt X + 1)) (lessT (lT m X)) (asT 0 (rT m X)))
def do11 (m : Bool) (X : Tr) : Tr := (putT m (keyT X) (wrap64 (wt X + 1)) (lessT (lT m X)) (lessT (rT m X)))
def do9 (m : Bool) (X : Tr) : Tr := (putT m (keyT (rT m X)) (wt X) (putT m (keyT X) 1 (lessT (lT m X)) (lT m (rT m X))) (asT 1 (rT m (rT m X))))
def do10 (m : Bool) (X : Tr) : Tr := (putT m (keyT (lT m (rT m X))) (wt X) (putT m (keyT X) 1 (lessT (lT m X)) (lT m (lT m (rT m X)))) (putT m (keyT (rT m X)) 1 (rT m (lT m (rT m X))) (rT m (rT m X))))
def do5 (m : Bool) (X : Tr) : Tr := (putT m (keyT (rT m X)) (wt X) (putT m (keyT X) 1 (lessT (lT m X)) (lessT (lT m (rT m X)))) (rT m (rT m X)))
def do6 (m : Bool) (X : Tr) : Tr := (putT m (keyT (rT m X)) (wt X) (putT m (keyT X) 1 (lessT (lT m X)) (asT 0 (lT m (rT m X)))) (rT m (rT m X)))
def do7 (m : Bool) (X : Tr) : Tr := (putT m (keyT (rT m X)) (wt X) (putT m (keyT (lT m (lT m (rT m X)))) 0 (putT m (keyT X) 1 (lessT (lT m X)) (lT m (lT m (lT m (rT m X))))) (putT m (keyT (lT m (rT m X))) 1 (rT m (lT m (lT m (rT m X)))) (rT m (lT m (rT m X))))) (rT m (rT m X)))
def do8 (m : Bool) (X : Tr) : Tr := (putT m (keyT (rT m X)) (wt X) (putT m (keyT (lT m (rT m X))) 0 (putT m (keyT X) 1 (lessT (lT m X)) (lT m (lT m (rT m X)))) (asT 1 (rT m (lT m (rT m X))))) (rT m (rT m X)))
def do12 (X : Tr) : Tr := asT 1 X
def doT (m : Bool) (X : Tr) (kind : Int) : Tr :=
 if kind = 1 then do1 m X else if kind = 2 then do2 m X else if kind = 3 then do3 m X else if kind = 4 then do4 m X else if kind = 5 then do5 m X else if kind = 6 then do6 m X else if kind = 7 then do7 m X else if kind = 8 then do8 m X else if kind = 9 then do9 m X else if kind = 10 then do10 m X else if kind = 11 then do11 m X else do12 X
theorem node_of {T : Tr} (h : T ≠ .nil) : ∃ n q l r, T = .node n q l r := by
 cases T with
 | nil => exact absurd rfl h
 | node n q l r => exact ⟨n, q, l, r, rfl⟩
theorem wt_ne {T : Tr} (h : wt T ≠ -1) : T ≠ .nil := fun e => h (by rw [e]; rfl)
theorem do_any (m rt : Bool) (p pl pr pll plr prl prr pa pb : Option Addr) (T : Tr) (w : World) (hS : ∀ k, w.heap.size ≤ k → S k) (Hx : Aside0 (Rep S w (.pointer p) T)) (Hl : Aside0 (Rep S w (.pointer pl) (lT m T))) (Hr : Aside0 (Rep S w (.pointer pr) (rT m T))) (Hll : Aside0 (Rep S w (.pointer pll) (lT m (lT m T)))) (Hlr : Aside0 (Rep S w (.pointer plr) (rT m (lT m T)))) (Hrl : Aside0 (Rep S w (.pointer prl) (lT m (rT m T)))) (Hrr : Aside0 (Rep S w (.pointer prr) (rT m (rT m T)))) (Ha : Aside0 (Rep S w (.pointer pa) (lT m (lT m (rT m T))))) (Hb : Aside0 (Rep S w (.pointer pb) (rT m (lT m (rT m T))))) (kind : Int) (hk : 1 ≤ kind ∧ kind ≤ 12) (hT : T ≠ .nil) (hc : canT m rt T kind = true) :
  Calls Try.prog 65 #[.agg #[.bool m, .pointer p, .pointer pl, .pointer pr, .pointer pll, .pointer plr, .pointer prl, .pointer prr, .pointer pa, .pointer pb, .bool rt], .int .i64 kind] w fun e w' => DoPost S w (doT m T kind) e w' := by
 have hd : kind = 1 ∨ kind = 2 ∨ kind = 3 ∨ kind = 4 ∨ kind = 5 ∨ kind = 6 ∨ kind = 7 ∨ kind = 8 ∨ kind = 9 ∨ kind = 10 ∨ kind = 11 ∨ kind = 12 := by omega
 obtain ⟨nx, qx, lx, rx, ex⟩ := node_of hT
 rcases hd with rfl | rfl | rfl | rfl | rfl | rfl | rfl | rfl | rfl | rfl | rfl | rfl
 ·replace hc : can1 m T = true := hc
  simp only [can1, Bool.and_eq_true, beq_iff_eq, decide_eq_true_eq] at hc
  obtain ⟨nl, ql, ll, rl, el⟩ := node_of (T := (lT m T)) (wt_ne (by omega))
  obtain ⟨nr, qr, lr, rr, er⟩ := node_of (T := (rT m T)) (wt_ne (by omega))
  exact do1_any m rt p pl pr pll plr prl prr pa pb w hS ex el er Hx Hl Hr
 ·replace hc : can2 m T = true := hc
  simp only [can2, Bool.and_eq_true, beq_iff_eq, decide_eq_true_eq] at hc
  obtain ⟨nl, ql, ll, rl, el⟩ := node_of (T := (lT m T)) (wt_ne (by omega))
  exact do2_any m rt p pl pr pll plr prl prr pa pb w hS ex el Hx Hl Hr Hll Hlr
 ·replace hc : can3 m T = true := hc
  simp only [can3, Bool.and_eq_true, beq_iff_eq, decide_eq_true_eq] at hc
  obtain ⟨nl, ql, ll, rl, el⟩ := node_of (T := (lT m T)) (wt_ne (by omega))
  obtain ⟨nlr, qlr, llr, rlr, elr⟩ := node_of (T := (rT m (lT m T))) (wt_ne (by omega))
  exact do3_any m rt p pl pr pll plr prl prr pa pb w hS ex el elr Hx Hl Hr Hll Hlr
 ·replace hc : can4 m T = true := hc
  simp only [can4, Bool.and_eq_true, beq_iff_eq, decide_eq_true_eq] at hc
  obtain ⟨nl, ql, ll, rl, el⟩ := node_of (T := (lT m T)) (wt_ne (by omega))
  obtain ⟨nr, qr, lr, rr, er⟩ := node_of (T := (rT m T)) (wt_ne (by omega))
  exact do4_any m rt p pl pr pll plr prl prr pa pb w hS ex el er Hx Hl Hr
 ·replace hc : can5 m T = true := hc
  simp only [can5, Bool.and_eq_true, beq_iff_eq, decide_eq_true_eq] at hc
  obtain ⟨nl, ql, ll, rl, el⟩ := node_of (T := (lT m T)) (wt_ne (by omega))
  obtain ⟨nr, qr, lr, rr, er⟩ := node_of (T := (rT m T)) (wt_ne (by omega))
  obtain ⟨nrl, qrl, lrl, rrl, erl⟩ := node_of (T := (lT m (rT m T))) (wt_ne (by omega))
  exact do5_any m rt p pl pr pll plr prl prr pa pb w hS ex el er erl Hx Hl Hr Hrl Hrr
 ·replace hc : can6 m T = true := hc
  simp only [can6, Bool.and_eq_true, beq_iff_eq, decide_eq_true_eq] at hc
  obtain ⟨nl, ql, ll, rl, el⟩ := node_of (T := (lT m T)) (wt_ne (by omega))
  obtain ⟨nr, qr, lr, rr, er⟩ := node_of (T := (rT m T)) (wt_ne (by omega))
  obtain ⟨nrl, qrl, lrl, rrl, erl⟩ := node_of (T := (lT m (rT m T))) (wt_ne (by omega))
  exact do6_any m rt p pl pr pll plr prl prr pa pb w hS ex el er erl Hx Hl Hr Hrl Hrr
 ·replace hc : can7 m T = true := hc
  simp only [can7, Bool.and_eq_true, beq_iff_eq, decide_eq_true_eq] at hc
  obtain ⟨nl, ql, ll, rl, el⟩ := node_of (T := (lT m T)) (wt_ne (by omega))
  obtain ⟨nr, qr, lr, rr, er⟩ := node_of (T := (rT m T)) (wt_ne (by omega))
  obtain ⟨nrl, qrl, lrl, rrl, erl⟩ := node_of (T := (lT m (rT m T))) (wt_ne (by omega))
  obtain ⟨na, qa, la, ra, ea⟩ := node_of (T := (lT m (lT m (rT m T)))) (wt_ne (by omega))
  exact do7_any m rt p pl pr pll plr prl prr pa pb w hS ex el er erl ea Hx Hl Hr Hrl Hrr Ha Hb
 ·replace hc : can8 m T = true := hc
  simp only [can8, Bool.and_eq_true, beq_iff_eq, decide_eq_true_eq] at hc
  obtain ⟨nl, ql, ll, rl, el⟩ := node_of (T := (lT m T)) (wt_ne (by omega))
  obtain ⟨nr, qr, lr, rr, er⟩ := node_of (T := (rT m T)) (wt_ne (by omega))
  obtain ⟨nrl, qrl, lrl, rrl, erl⟩ := node_of (T := (lT m (rT m T))) (wt_ne (by omega))
  obtain ⟨nb, qb, lb, rb, eb⟩ := node_of (T := (rT m (lT m (rT m T)))) (wt_ne (by omega))
  exact do8_any m rt p pl pr pll plr prl prr pa pb w hS ex el er erl eb Hx Hl Hr Hrl Hrr Ha Hb
 ·replace hc : can9 m T = true := hc
  simp only [can9, Bool.and_eq_true, beq_iff_eq, decide_eq_true_eq] at hc
  obtain ⟨nl, ql, ll, rl, el⟩ := node_of (T := (lT m T)) (wt_ne (by omega))
  obtain ⟨nr, qr, lr, rr, er⟩ := node_of (T := (rT m T)) (wt_ne (by omega))
  obtain ⟨nrr, qrr, lrr, rrr, err⟩ := node_of (T := (rT m (rT m T))) (wt_ne (by omega))
  exact do9_any m rt p pl pr pll plr prl prr pa pb w hS ex el er err Hx Hl Hr Hrl Hrr
 ·replace hc : can10 m T = true := hc
  simp only [can10, Bool.and_eq_true, beq_iff_eq, decide_eq_true_eq] at hc
  obtain ⟨nl, ql, ll, rl, el⟩ := node_of (T := (lT m T)) (wt_ne (by omega))
  obtain ⟨nr, qr, lr, rr, er⟩ := node_of (T := (rT m T)) (wt_ne (by omega))
  obtain ⟨nrl, qrl, lrl, rrl, erl⟩ := node_of (T := (lT m (rT m T))) (wt_ne (by omega))
  exact do10_any m rt p pl pr pll plr prl prr pa pb w hS ex el er erl Hx Hl Hr Hrl Hrr Ha Hb
 ·replace hc : can11 m T = true := hc
  simp only [can11, Bool.and_eq_true, beq_iff_eq, decide_eq_true_eq] at hc
  obtain ⟨nl, ql, ll, rl, el⟩ := node_of (T := (lT m T)) (wt_ne (by omega))
  obtain ⟨nr, qr, lr, rr, er⟩ := node_of (T := (rT m T)) (wt_ne (by omega))
  exact do11_any m rt p pl pr pll plr prl prr pa pb w hS ex el er Hx Hl Hr
 ·exact do12_any m rt p pl pr pll plr prl prr pa pb w hS ex Hx
end
def mkT (t : List S34) : Nat → Nat → Option Tr
 | 0, _ => none
 | k + 1, i => if i < t.length then (if 0 ≤ (t.getD i z34).f4 then (mkT t k (t.getD i z34).f4.toNat).bind fun l => (mkT t k (t.getD i z34).f5.toNat).bind fun r => some (.node (t.getD i z34) i l r) else some (.node (t.getD i z34) i .nil .nil)) else none
def mkR (t : List S34) (c : Nat) (R : Tr) : Nat → Nat → Option Tr
 | 0, _ => none
 | k + 1, i => if i < t.length then (if 0 ≤ (t.getD i z34).f4 then (if (t.getD i z34).f4.toNat = c then some R else mkR t c R k (t.getD i z34).f4.toNat).bind fun l => (if (t.getD i z34).f5.toNat = c then some R else mkR t c R k (t.getD i z34).f5.toNat).bind fun r => some (.node (t.getD i z34) i l r) else some (.node (t.getD i z34) i .nil .nil)) else none
theorem mkT_mono (t : List S34) : ∀ (k i : Nat) (T : Tr), mkT t k i = some T → mkT t (k + 1) i = some T := by
 intro k
 induction k with
 | zero => intro i T h; simp [mkT] at h
 | succ k ih =>
  intro i T h
  rw [mkT] at h ⊢
  split at h
  ·rename_i h1
   rw [if_pos h1]
   split at h
   ·rename_i h2
    rw [if_pos h2]
    obtain ⟨l, hl, h⟩ := Option.bind_eq_some_iff.1 h
    obtain ⟨r, hr, h⟩ := Option.bind_eq_some_iff.1 h
    rw [ih _ _ hl, Option.bind_some, ih _ _ hr, Option.bind_some]
    exact h
   ·rename_i h2
    rw [if_neg h2]
    exact h
  ·exact absurd h (by simp)
theorem mkT_le (t : List S34) {k k' i : Nat} {T : Tr} (hk : k ≤ k') (h : mkT t k i = some T) : mkT t k' i = some T := by
 induction hk with
 | refl => exact h
 | step _ ih => exact mkT_mono t _ _ _ ih
theorem mkT_fun (t : List S34) {k k' i : Nat} {T T' : Tr} (h : mkT t k i = some T) (h' : mkT t k' i = some T') : T = T' := by
 rcases Nat.le_total k k' with hk | hk
 ·have := mkT_le t hk h; rw [this] at h'; exact Option.some.inj h'
 ·have := mkT_le t hk h'; rw [this] at h; exact (Option.some.inj h).symm
def sizeN : Tr → Nat
 | .nil => 0
 | .node _ _ l r => 1 + sizeN l + sizeN r
def childOf (t : List S34) (i c : Nat) : Prop := 0 ≤ (t.getD i z34).f4 ∧ ((t.getD i z34).f4.toNat = c ∨ (t.getD i z34).f5.toNat = c)
def SetC (B : Nat) (t : List S34) (c : Nat) (b : Nat) : Prop := ∃ j, b = B + 2 + 2 * j ∧ j < t.length ∧ ¬ childOf t j c
theorem forest_rep {wg W : World} {t : List S34} (hf : Forest wg W t t.length t.length) {c K : Nat} {X : Tr} (hX : mkT t K c = some X) :
  ∀ (k i : Nat) (T : Tr), mkT t k i = some T → sizeN T ≤ sizeN X → Rep (SetC wg.heap.size t c) W (.pointer (nb wg.heap.size i)) T := by
 intro k
 induction k with
 | zero => intro i T h; simp [mkT] at h
 | succ k ih =>
  intro i T h hs
  have h0 := h
  rw [mkT] at h
  split at h
  ·rename_i h1
   have hn := hf.nodes i h1
   simp only [if_pos h1] at hn
   split at h
   ·rename_i h2
    obtain ⟨l, hl, h⟩ := Option.bind_eq_some_iff.1 h
    obtain ⟨r, hr, h⟩ := Option.bind_eq_some_iff.1 h
    obtain rfl := Option.some.inj h
    simp only [sizeN] at hs
    refine ⟨_, _, _, rfl, hn, ?_, ?_, i, rfl, h1, ?_⟩
    ·rw [lpV, if_pos h2]; exact ih _ _ hl (by omega)
    ·rw [rpV, if_pos h2]; exact ih _ _ hr (by omega)
    ·rintro ⟨_, hc | hc⟩
     ·rw [hc] at hl; have := mkT_fun t hl hX; subst this; omega
     ·rw [hc] at hr; have := mkT_fun t hr hX; subst this; omega
   ·rename_i h2
    obtain rfl := Option.some.inj h
    refine ⟨_, _, _, rfl, hn, ?_, ?_, i, rfl, h1, fun hc => h2 hc.1⟩
    ·rw [lpV, if_neg h2]; rfl
    ·rw [rpV, if_neg h2]; rfl
  ·exact absurd h (by simp)
structure Forest2 (w W : World) (t : List S34) (c : Nat) (q : Option Addr) (n2 : Nat) : Prop where
 ptrs : W.rowIs w.heap.size 92 t.length (fun j => .pointer (nb w.heap.size j))
 nodes : ∀ j, j < t.length → W.heap[w.heap.size + 2 + 2 * j]? = some (.cells (ndCells (t.getD j z34) j (.pointer (if j < n2 ∧ 0 ≤ (t.getD j z34).f4 ∧ (t.getD j z34).f4.toNat = c then q else lpV w.heap.size t j)) (.pointer (if j < n2 ∧ 0 ≤ (t.getD j z34).f4 ∧ (t.getD j z34).f5.toNat = c then q else rpV w.heap.size t j))) 116 (0, 0))
 bel : Below w.heap.size w W
theorem forest2_start {w W : World} {t : List S34} (h : Forest w W t t.length t.length) (c : Nat) (q : Option Addr) : Forest2 w W t c q 0 :=
 ⟨rowIs_congr h.ptrs (fun j hj => by simp only [if_pos hj]), fun j hj => by
  have := h.nodes j hj
  simp only [if_pos hj] at this
  rw [this, if_neg (fun h => Nat.not_lt_zero _ h.1), if_neg (fun h => Nat.not_lt_zero _ h.1)], h.bel⟩
theorem rep_repl {w W : World} {t : List S34} {c : Nat} {q : Option Addr} {R : Tr} {S : Nat → Prop} (hf : Forest2 w W t c q t.length) (hR : Rep S W (.pointer q) R) :
  ∀ (k i : Nat) (T : Tr), mkR t c R k i = some T → Rep (fun _ => True) W (.pointer (nb w.heap.size i)) T := by
 intro k
 induction k with
 | zero => intro i T h; simp [mkR] at h
 | succ k ih =>
  intro i T h
  rw [mkR] at h
  split at h
  ·rename_i h1
   have hn := hf.nodes i h1
   split at h
   ·rename_i h2
    obtain ⟨l, hl, h⟩ := Option.bind_eq_some_iff.1 h
    obtain ⟨r, hr, h⟩ := Option.bind_eq_some_iff.1 h
    obtain rfl := Option.some.inj h
    refine ⟨_, _, _, rfl, hn, ?_, ?_, trivial⟩
    ·by_cases e : (t.getD i z34).f4.toNat = c
     ·rw [if_pos e] at hl; obtain rfl := Option.some.inj hl
      rw [if_pos ⟨h1, h2, e⟩]; exact hR.mono (fun _ _ => trivial)
     ·rw [if_neg e] at hl
      rw [if_neg (fun h => e h.2.2), lpV, if_pos h2]; exact ih _ _ hl
    ·by_cases e : (t.getD i z34).f5.toNat = c
     ·rw [if_pos e] at hr; obtain rfl := Option.some.inj hr
      rw [if_pos ⟨h1, h2, e⟩]; exact hR.mono (fun _ _ => trivial)
     ·rw [if_neg e] at hr
      rw [if_neg (fun h => e h.2.2), rpV, if_pos h2]; exact ih _ _ hr
   ·rename_i h2
    obtain rfl := Option.some.inj h
    refine ⟨_, _, _, rfl, hn, ?_, ?_, trivial⟩
    ·rw [if_neg (fun h => h2 h.2.1), lpV, if_neg h2]; rfl
    ·rw [if_neg (fun h => h2 h.2.1), rpV, if_neg h2]; rfl
  ·exact absurd h (by simp)
theorem forest2_skip {w W : World} {t : List S34} {c : Nat} {q : Option Addr} {i : Nat} (h : Forest2 w W t c q i) (hc : ¬ childOf t i c) : Forest2 w W t c q (i + 1) := by
 refine ⟨h.ptrs, fun j hj => ?_, h.bel⟩
 rw [h.nodes j hj]
 by_cases e : j = i
 ·subst e
  have e1 : ¬ (0 ≤ (t.getD j z34).f4 ∧ (t.getD j z34).f4.toNat = c) := fun h => hc ⟨h.1, .inl h.2⟩
  have e2 : ¬ (0 ≤ (t.getD j z34).f4 ∧ (t.getD j z34).f5.toNat = c) := fun h => hc ⟨h.1, .inr h.2⟩
  simp only [e1, e2, and_false, if_false]
 ·have e3 : j < i + 1 ↔ j < i := by omega
  simp only [e3]
theorem forest2_left {w W : World} {t : List S34} {c : Nat} {q : Option Addr} {i : Nat} (h : Forest2 w W t c q i) (h4 : 0 ≤ (t.getD i z34).f4) (hl : (t.getD i z34).f4.toNat = c) (hr : (t.getD i z34).f5.toNat ≠ c) : Forest2 w (W.setCell ⟨w.heap.size + 2 + 2 * i, 7, none⟩ (.pointer q)) t c q (i + 1) := by
 refine ⟨rowIs_blk h.ptrs (Below.heap_setCell _ _ _ _ (by show _ ≠ _; simp; omega)), fun j hj => ?_, h.bel.setCell (p := ⟨w.heap.size + 2 + 2 * i, 7, none⟩) (by simp; omega) _⟩
 have hn := h.nodes j hj
 by_cases e : j = i
 ·subst e
  rw [put_blk hn 7 _]
  simp only [Nat.lt_irrefl, false_and, if_false, if_pos (show j < j + 1 ∧ 0 ≤ (t.getD j z34).f4 ∧ (t.getD j z34).f4.toNat = c from ⟨by omega, h4, hl⟩), if_neg (show ¬ (j < j + 1 ∧ 0 ≤ (t.getD j z34).f4 ∧ (t.getD j z34).f5.toNat = c) from fun h => hr h.2.2)]
  rfl
 ·rw [Below.heap_setCell _ _ _ _ (by show _ ≠ _; simp; omega), hn]
  have e3 : j < i + 1 ↔ j < i := by omega
  simp only [e3]
theorem forest2_right {w W : World} {t : List S34} {c : Nat} {q : Option Addr} {i : Nat} (h : Forest2 w W t c q i) (h4 : 0 ≤ (t.getD i z34).f4) (hl : (t.getD i z34).f4.toNat ≠ c) (hr : (t.getD i z34).f5.toNat = c) : Forest2 w (W.setCell ⟨w.heap.size + 2 + 2 * i, 8, none⟩ (.pointer q)) t c q (i + 1) := by
 refine ⟨rowIs_blk h.ptrs (Below.heap_setCell _ _ _ _ (by show _ ≠ _; simp; omega)), fun j hj => ?_, h.bel.setCell (p := ⟨w.heap.size + 2 + 2 * i, 8, none⟩) (by simp; omega) _⟩
 have hn := h.nodes j hj
 by_cases e : j = i
 ·subst e
  rw [put_blk hn 8 _]
  simp only [Nat.lt_irrefl, false_and, if_false, if_neg (show ¬ (j < j + 1 ∧ 0 ≤ (t.getD j z34).f4 ∧ (t.getD j z34).f4.toNat = c) from fun h => hl h.2.2), if_pos (show j < j + 1 ∧ 0 ≤ (t.getD j z34).f4 ∧ (t.getD j z34).f5.toNat = c from ⟨by omega, h4, hr⟩)]
  rfl
 ·rw [Below.heap_setCell _ _ _ _ (by show _ ≠ _; simp; omega), hn]
  have e3 : j < i + 1 ↔ j < i := by omega
  simp only [e3]
theorem forest_kept {w W W' : World} {t : List S34} {n1 n2 : Nat} (h : Forest w W t n1 n2) (hb : Below W.heap.size W W') : Forest w W' t n1 n2 :=
 ⟨rowIs_blk h.ptrs (hb.block _ (rowIs_lt h.ptrs)), fun j hj => (hb.block _ (Array.getElem?_eq_some_iff.1 (h.nodes j hj)).1).trans (h.nodes j hj), h.bel.trans (hb.mono h.bel.size)⟩
def setW : Tr → Int → Tr
 | .nil, _ => .nil
 | .node n p l r, x => .node ⟨n.f0, n.f1, x, n.f3, n.f4, n.f5⟩ p l r
theorem top_set {S : Nat → Prop} {W w' : World} {v : Value} {R : Tr} (h : TopRep S W w' v R) (hb : Below W.heap.size W w') (x : Int) :
  ∃ b, v = .pointer (some ⟨b, 0, none⟩) ∧ W.heap.size ≤ b ∧ (∃ u, w'.cell? ⟨b, 2, none⟩ = some u) ∧ w'.frozen? ⟨b, 2, none⟩ = false ∧ Rep S (w'.setCell ⟨b, 2, none⟩ (.int .i64 x)) v (setW R x) := by
 obtain ⟨b, n, pl, L, R', vl, vr, rfl, rfl, hge, h1, h2, h3, h4⟩ := h
 refine ⟨b, rfl, hge, ⟨_, (cell_of h1 2).trans rfl⟩, frz_of h1 2, b, vl, vr, rfl, put_blk h1 2 _, ?_, ?_, h4⟩
 ·exact ((h2.bound.below hb).keptS (fun k hk _ => Below.heap_setCell _ _ _ _ (by show k ≠ b; have := hk.2; omega))).mono (fun k hk => hk.1)
 ·exact ((h3.bound.below hb).keptS (fun k hk _ => Below.heap_setCell _ _ _ _ (by show k ≠ b; have := hk.2; omega))).mono (fun k hk => hk.1)
structure OkT (t : List S34) : Prop where
 len : t.length ≤ 100000
 kids : ∀ i, i < t.length → 0 ≤ (t.getD i z34).f4 → (t.getD i z34).f4 < t.length ∧ 0 ≤ (t.getD i z34).f5 ∧ (t.getD i z34).f5 < t.length ∧ (t.getD i z34).f4 ≠ (t.getD i z34).f5
def DoOK (w : World) (xs : List S34) (e : Ending) (w' : World) : Prop := ∃ v0, e = .returned (.tuple #[v0, .int .i64 0]) ∧ Kd.R k34 34 w' w.heap.size (fun _ => True) v0 xs ∧ Below w.heap.size w w'
theorem do_ok_fin (w : World) (T : Tr) : ∀ wg wr v0 w', Below w.heap.size w wg → Below wg.heap.size wg wr → FlatPost wr T (.returned v0) w' → DoOK w (flatT T 0) (.returned (.tuple #[v0, .int .i64 0])) w' := by
 rintro wg wr v0 w' h1 h2 ⟨v1, hv, h3, h4⟩
 injection hv with hv
 subst hv
 have h5 : Below w.heap.size w wr := h1.trans (h2.mono h1.size)
 exact ⟨_, rfl, Kd.R_lower h3 h5.size, h5.trans (h4.mono h5.size)⟩
theorem setc11 {w : World} {g k : Nat} (h : k ≠ g) (v0 v1 v2 v3 v4 v5 v6 v7 v8 v9 v10 : Value) : ((((((((((((w.setCell ⟨g, 0, none⟩ v0).setCell ⟨g, 1, none⟩ v1).setCell ⟨g, 2, none⟩ v2).setCell ⟨g, 3, none⟩ v3).setCell ⟨g, 4, none⟩ v4).setCell ⟨g, 5, none⟩ v5).setCell ⟨g, 6, none⟩ v6).setCell ⟨g, 7, none⟩ v7).setCell ⟨g, 8, none⟩ v8).setCell ⟨g, 9, none⟩ v9).setCell ⟨g, 10, none⟩ v10)).heap[k]? = w.heap[k]? := by
 rw [put_blk_ne h, put_blk_ne h, put_blk_ne h, put_blk_ne h, put_blk_ne h, put_blk_ne h, put_blk_ne h, put_blk_ne h, put_blk_ne h, put_blk_ne h, put_blk_ne h]
theorem size116 : (Try.prog.info? 116).map (fun i => i.size) = some 9 := by kernel_rfl
theorem eqp_same (w : World) (a : Addr) : (binOp .eql 92 (.pointer (some a)) (.pointer (some a))).run Try.prog w = .ok (.bool true) w := by
 obtain ⟨i, hi, _⟩ := Option.map_eq_some_iff.1 size116
 exact run_eql_ptr_same w a Try.underlying92 hi
theorem eqp_other (w : World) {a b : Addr} {ca cb : Array Value} {ta tb : TypeId} (hne : a ≠ b) (ha : w.heap[a.block]? = some (.cells ca ta (0, 0))) (hb : w.heap[b.block]? = some (.cells cb tb (0, 0))) : (binOp .eql 92 (.pointer (some a)) (.pointer (some b))).run Try.prog w = .ok (.bool false) w := by
 obtain ⟨i, hi, hs⟩ := Option.map_eq_some_iff.1 size116
 exact run_eql_ptr_other w Try.underlying92 hi (by rw [hs]; decide) hne ha hb
theorem mkT_nil {t : List S34} {k i : Nat} (h : mkT t k i = some .nil) : False := by
 cases k with
 | zero => simp [mkT] at h
 | succ k =>
  rw [mkT] at h
  split at h
  ·split at h
   ·obtain ⟨l, hl, h⟩ := Option.bind_eq_some_iff.1 h
    obtain ⟨r, hr, h⟩ := Option.bind_eq_some_iff.1 h
    injection h with h
    injection h
   ·injection h with h
    injection h
  ·exact absurd h (by simp)
theorem do_nocan (k : Nat) (A0 : Option Addr) (c0 : Nat) (l0 : List S34) (c : Nat) (kind : Int) (mir : Bool) (r1 : Int) (r2 : List Bool) (w : World) (hr0 : Kd.C k34 w A0 l0.length l0) (hc0 : l0.length ≤ c0)
  (h : steps_keys.f k l0 = some (r1, r2, 0)) (hm : steps_Move_is.f kind mir = some true) (hkd : 1 ≤ kind ∧ kind ≤ 12) (hp1 : (c : Int) < l0.length) (hp2 : (c : Int) < r2.length) (hbel : rdOf false r2 c = true) (ht : OkT l0) (K : Nat) (X : Tr) (hX : mkT l0 K c = some X) (rt : Bool) (hrt : ((c : Int) == r1) = rt) (hcan : canT mir rt X kind = false) :
  Calls Try.prog 30 #[.slice A0 l0.length c0, .int .i64 c, .agg #[.int .i64 kind, .bool mir]] w (RB w (.tuple #[.slice none 0 0, .int .i64 6])) := by
 have HCAN := Am hcan
 clear hcan
 have HR := Am hr0
 have HC := Am hc0
 have H := Am h
 have HM := Am hm
 have HT := Am ht
 have HX := Am hX
 have HKD := Am hkd
 have HBEL := Am hbel
 have hlen : l0.length ≤ 100000 := ht.len
 have hcl : c < l0.length := by omega
 clear hr0 hc0 h hm ht hX hkd hbel
 go_enter Try.func30, Try.ntmps30
 go_wp2_with (fail)
 refine (at_okt k A0 c0 l0 c kind mir r1 r2 _ (Kd.C_below HR.out ((Below.refl _ _).alloc (Nat.le_refl _) _)) HC.out H.out (fun _ => HM.out) (by omega) hp1 hp2 HBEL.out (by omega) (fun i hi h4 => ⟨(HT.out.kids i hi h4).1, (HT.out.kids i hi h4).2.1, (HT.out.kids i hi h4).2.2.1⟩)).mono ?_
 rintro e w2 ⟨wg, rfl, hbg, hfo⟩
 have hbw : Below w.heap.size w wg := ((Below.refl _ _).alloc (Nat.le_refl _) _).trans (hbg.mono (by simp))
 have hg0 : w.heap.size < wg.heap.size := by have h_ := hbg.size; simp at h_; omega
 have hbx0 : wg.cell? ⟨w.heap.size, 0, none⟩ = some (.int .i64 kind) := (hbg.cell (p := ⟨w.heap.size, 0, none⟩) (by simp)).trans (World.cell?_alloc_at _ _ _ _ rfl)
 have hbx1 : wg.cell? ⟨w.heap.size, 1, none⟩ = some (.bool mir) := (hbg.cell (p := ⟨w.heap.size, 1, none⟩) (by simp)).trans (World.cell?_alloc_at _ _ _ _ rfl)
 have HBW := Am hbw
 have HFO := Am hfo
 have HX0 := Am hbx0
 have HX1 := Am hbx1
 have HRX : Aside0 (Rep (fun k_ => SetC wg.heap.size l0 c k_ ∧ k_ < w2.heap.size) w2 (.pointer (some ⟨wg.heap.size + 2 + 2 * c, 0, none⟩)) X) := ⟨(forest_rep hfo HX.out K c X HX.out (Nat.le_refl _)).bound⟩
 have hg2 : wg.heap.size < w2.heap.size := rowIs_lt hfo.ptrs
 have hpc : w2.drew.cell? ⟨wg.heap.size, c, none⟩ = some (.pointer (some ⟨wg.heap.size + 2 + 2 * c, 0, none⟩)) := (rowIs_cell hfo.ptrs c hcl).trans (by rw [if_pos hcl]; rfl)
 have hb0 : w2.drew.cell? ⟨w.heap.size, 0, none⟩ = some (.int .i64 kind) := (hfo.bel.cell (p := ⟨w.heap.size, 0, none⟩) hg0).trans hbx0
 have hb1 : w2.drew.cell? ⟨w.heap.size, 1, none⟩ = some (.bool mir) := (hfo.bel.cell (p := ⟨w.heap.size, 1, none⟩) hg0).trans hbx1
 clear hbg hbw hfo hbx0 hbx1
 go_wp2
 have HPC := Am hpc
 have HB0 := Am hb0
 have HB1 := Am hb1
 refine sT 11 [10] (S := fun w' => w'.cell? ⟨wg.heap.size, c, none⟩ = some (.pointer (some ⟨wg.heap.size + 2 + 2 * c, 0, none⟩)) ∧ w'.cell? ⟨w.heap.size, 0, none⟩ = some (.int .i64 kind) ∧ w'.cell? ⟨w.heap.size, 1, none⟩ = some (.bool mir)) ⟨hpc, hb0, hb1⟩ fun hHeld => ?_
 refine pu 0 26 ?_
 refine pu 1 27 ?_
 refine pu 2 28 ?_
 refine pu 5 31 ?_
 refine pu 6 32 ?_
 refine pu 7 33 ?_
 refine ta 3 29 hHeld ?_
 refine ta 4 30 hHeld ?_
 refine join_ (σ := Nat × Option Addr × Option Addr × Option Addr × Option Addr × Option Addr × Option Addr × Option Addr × Option Addr) 1 #[true, true, true, true, true, true, true, true, true, true, false] (fun s => [(34, .agg #[.bool mir, .pointer (some ⟨wg.heap.size + 2 + 2 * c, 0, none⟩), .pointer s.2.1, .pointer s.2.2.1, .pointer s.2.2.2.1, .pointer s.2.2.2.2.1, .pointer s.2.2.2.2.2.1, .pointer s.2.2.2.2.2.2.1, .pointer s.2.2.2.2.2.2.2.1, .pointer s.2.2.2.2.2.2.2.2, .bool rt]), (11, .pointer (some ⟨s.1, 0, none⟩))]) (fun s w' => Below w2.heap.size w2 w' ∧ w2.heap.size ≤ s.1 ∧ w'.heap[s.1]? = some (.cells #[.bool false, .pointer none, .pointer none, .pointer none, .pointer none, .pointer none, .pointer none, .pointer none, .pointer none, .pointer none, .bool false] 111 (0, 0)) ∧ Rep (fun k_ => SetC wg.heap.size l0 c k_ ∧ k_ < w2.heap.size) w' (.pointer s.2.1) (lT mir X) ∧ Rep (fun k_ => SetC wg.heap.size l0 c k_ ∧ k_ < w2.heap.size) w' (.pointer s.2.2.1) (rT mir X) ∧ Rep (fun k_ => SetC wg.heap.size l0 c k_ ∧ k_ < w2.heap.size) w' (.pointer s.2.2.2.1) (lT mir (lT mir X)) ∧ Rep (fun k_ => SetC wg.heap.size l0 c k_ ∧ k_ < w2.heap.size) w' (.pointer s.2.2.2.2.1) (rT mir (lT mir X)) ∧ Rep (fun k_ => SetC wg.heap.size l0 c k_ ∧ k_ < w2.heap.size) w' (.pointer s.2.2.2.2.2.1) (lT mir (rT mir X)) ∧ Rep (fun k_ => SetC wg.heap.size l0 c k_ ∧ k_ < w2.heap.size) w' (.pointer s.2.2.2.2.2.2.1) (rT mir (rT mir X)) ∧ Rep (fun k_ => SetC wg.heap.size l0 c k_ ∧ k_ < w2.heap.size) w' (.pointer s.2.2.2.2.2.2.2.1) (lT mir (lT mir (rT mir X))) ∧ Rep (fun k_ => SetC wg.heap.size l0 c k_ ∧ k_ < w2.heap.size) w' (.pointer s.2.2.2.2.2.2.2.2) (rT mir (lT mir (rT mir X)))) ?_ ?_
 rotate_left
 ·intro hCont
  refine two_ (i := 8) (j := 9) (Ni := some 34) (Nj := some 11) #[true, true, true, true, true, true, true, true, true, false, false] #[true, true, true, true, true, true, true, true, false, true, false] rfl rfl rfl rfl (by kernel_rfl) (by decide) (by decide) (fun K hK => ?_) (fun K hK => ?_)
  ·skip
   refine gO Try.func63 #[.pointer (some ⟨wg.heap.size + 2 + 2 * c, 0, none⟩), .agg #[.int .i64 kind, .bool mir], .bool rt] ?_
   with_reducible refine (look_any (S := (fun k_ => SetC wg.heap.size l0 c k_ ∧ k_ < w2.heap.size)) _ X _ _ _ _ (by first | exact HRX.out.below ((Below.refl _ _).drew) | exact HRX.out.below HBA.out)).mono ?_
   rintro e wL ⟨pl, pr, pll, plr, prl, prr, pa, pb, rfl, hLb, r1, r2, r3, r4, r5, r6, r7, r8⟩
   refine ⟨_, rfl, ?_⟩
   refine hK.out _ _ ⟨(hLb.cell (blt _ _ hHeld.1)).trans hHeld.1, (hLb.cell (blt _ _ hHeld.2.1)).trans hHeld.2.1, (hLb.cell (blt _ _ hHeld.2.2)).trans hHeld.2.2⟩ (fun hHeld => ?_)
   clear hK K
   refine nm 34 ?_
   refine on 9 11 fun K hK => ?_
   refine box_step (by rfl) (N := 11) rfl (cs := #[.bool false, .pointer none, .pointer none, .pointer none, .pointer none, .pointer none, .pointer none, .pointer none, .pointer none, .pointer none, .bool false]) (t := 111) ?hr ?_
   case hr => first | (go_simp; done) | (go_simp; rfl)
   intro g hg wA hbox hbA
   have hgs : w2.heap.size ≤ g := by rw [hg]; exact hLb.size
   refine hK.out _ _ ⟨(hbA.cell (blt _ _ hHeld.1)).trans hHeld.1, (hbA.cell (blt _ _ hHeld.2.1)).trans hHeld.2.1, (hbA.cell (blt _ _ hHeld.2.2)).trans hHeld.2.2⟩ (fun hHeld => ?_)
   clear hK K
   refine nm 11 ?_
   exact norm_ (by simp only [putAll, Act.put, sI, sZ, sS]) (hCont (g, pl, pr, pll, plr, prl, prr, pa, pb) _ ⟨((Below.refl w2.heap.size w2).drew.trans (hLb.mono (Nat.le_refl _))).trans (hbA.mono hLb.size), hgs, hbox, (r1.below hLb).below hbA, (r2.below hLb).below hbA, (r3.below hLb).below hbA, (r4.below hLb).below hbA, (r5.below hLb).below hbA, (r6.below hLb).below hbA, (r7.below hLb).below hbA, (r8.below hLb).below hbA⟩)
  ·skip
   refine box_step (by rfl) (N := 11) rfl (cs := #[.bool false, .pointer none, .pointer none, .pointer none, .pointer none, .pointer none, .pointer none, .pointer none, .pointer none, .pointer none, .bool false]) (t := 111) ?hr ?_
   case hr => first | (go_simp; done) | (go_simp; rfl)
   intro g hg wA hbox hbA
   have HBA := Am (((Below.refl w2.heap.size w2).drew).trans (hbA.mono (Nat.le_refl _)))
   have hgs : w2.heap.size ≤ g := by rw [hg]; exact Nat.le_refl _
   refine hK.out _ _ ⟨(hbA.cell (blt _ _ hHeld.1)).trans hHeld.1, (hbA.cell (blt _ _ hHeld.2.1)).trans hHeld.2.1, (hbA.cell (blt _ _ hHeld.2.2)).trans hHeld.2.2⟩ (fun hHeld => ?_)
   clear hK K
   refine nm 11 ?_
   refine on 8 34 fun K hK => ?_
   refine gO Try.func63 #[.pointer (some ⟨wg.heap.size + 2 + 2 * c, 0, none⟩), .agg #[.int .i64 kind, .bool mir], .bool rt] ?_
   with_reducible refine (look_any (S := (fun k_ => SetC wg.heap.size l0 c k_ ∧ k_ < w2.heap.size)) _ X _ _ _ _ (by first | exact HRX.out.below ((Below.refl _ _).drew) | exact HRX.out.below HBA.out)).mono ?_
   rintro e wL ⟨pl, pr, pll, plr, prl, prr, pa, pb, rfl, hLb, r1, r2, r3, r4, r5, r6, r7, r8⟩
   refine ⟨_, rfl, ?_⟩
   refine hK.out _ _ ⟨(hLb.cell (blt _ _ hHeld.1)).trans hHeld.1, (hLb.cell (blt _ _ hHeld.2.1)).trans hHeld.2.1, (hLb.cell (blt _ _ hHeld.2.2)).trans hHeld.2.2⟩ (fun hHeld => ?_)
   clear hK K
   refine nm 34 ?_
   exact norm_ (by simp only [putAll, Act.put, sI, sZ, sS]) (hCont (g, pl, pr, pll, plr, prl, prr, pa, pb) _ ⟨HBA.out.trans (hLb.mono hbA.size), hgs, (hLb.block _ (Array.getElem?_eq_some_iff.1 hbox).1).trans hbox, r1.below hLb, r2.below hLb, r3.below hLb, r4.below hLb, r5.below hLb, r6.below hLb, r7.below hLb, r8.below hLb⟩)
 rintro ⟨g, pl, pr, pll, plr, prl, prr, pa, pb⟩ w3 ⟨hF1, hF2, hF3, y1, y2, y3, y4, y5, y6, y7, y8⟩
 replace hF2 : w2.heap.size ≤ g := hF2
 replace hF3 : w3.heap[g]? = some (.cells #[.bool false, .pointer none, .pointer none, .pointer none, .pointer none, .pointer none, .pointer none, .pointer none, .pointer none, .pointer none, .bool false] 111 (0, 0)) := hF3
 have HY1 : Aside0 (Rep (fun k_ => SetC wg.heap.size l0 c k_ ∧ k_ < w2.heap.size) w3 (.pointer pl) (lT mir X)) := ⟨y1⟩
 have HY2 : Aside0 (Rep (fun k_ => SetC wg.heap.size l0 c k_ ∧ k_ < w2.heap.size) w3 (.pointer pr) (rT mir X)) := ⟨y2⟩
 have HY3 : Aside0 (Rep (fun k_ => SetC wg.heap.size l0 c k_ ∧ k_ < w2.heap.size) w3 (.pointer pll) (lT mir (lT mir X))) := ⟨y3⟩
 have HY4 : Aside0 (Rep (fun k_ => SetC wg.heap.size l0 c k_ ∧ k_ < w2.heap.size) w3 (.pointer plr) (rT mir (lT mir X))) := ⟨y4⟩
 have HY5 : Aside0 (Rep (fun k_ => SetC wg.heap.size l0 c k_ ∧ k_ < w2.heap.size) w3 (.pointer prl) (lT mir (rT mir X))) := ⟨y5⟩
 have HY6 : Aside0 (Rep (fun k_ => SetC wg.heap.size l0 c k_ ∧ k_ < w2.heap.size) w3 (.pointer prr) (rT mir (rT mir X))) := ⟨y6⟩
 have HY7 : Aside0 (Rep (fun k_ => SetC wg.heap.size l0 c k_ ∧ k_ < w2.heap.size) w3 (.pointer pa) (lT mir (lT mir (rT mir X)))) := ⟨y7⟩
 have HY8 : Aside0 (Rep (fun k_ => SetC wg.heap.size l0 c k_ ∧ k_ < w2.heap.size) w3 (.pointer pb) (rT mir (lT mir (rT mir X)))) := ⟨y8⟩
 have hHeld : w3.cell? ⟨wg.heap.size, c, none⟩ = some (.pointer (some ⟨wg.heap.size + 2 + 2 * c, 0, none⟩)) ∧ w3.cell? ⟨w.heap.size, 0, none⟩ = some (.int .i64 kind) ∧ w3.cell? ⟨w.heap.size, 1, none⟩ = some (.bool mir) := ⟨(hF1.cell (p := ⟨wg.heap.size, c, none⟩) hg2).trans HPC.out, (hF1.cell (p := ⟨w.heap.size, 0, none⟩) (Nat.lt_trans hg0 hg2)).trans HB0.out, (hF1.cell (p := ⟨w.heap.size, 1, none⟩) (Nat.lt_trans hg0 hg2)).trans HB1.out⟩
 obtain ⟨hz0, hz1, hz2, hz3, hz4, hz5, hz6, hz7, hz8, hz9, hz10⟩ := vc11 hF3
 have hfz0 := frz_of hF3 0
 have hfz1 := frz_of hF3 1
 have hfz2 := frz_of hF3 2
 have hfz3 := frz_of hF3 3
 have hfz4 := frz_of hF3 4
 have hfz5 := frz_of hF3 5
 have hfz6 := frz_of hF3 6
 have hfz7 := frz_of hF3 7
 have hfz8 := frz_of hF3 8
 have hfz9 := frz_of hF3 9
 have hfz10 := frz_of hF3 10
 have HF1 := Am hF1
 have HF3 := Am hF3
 clear hF1 hF3 y1 y2 y3 y4 y5 y6 y7 y8
 refine norm_ (a' := ?_) ?_ ?_
 rotate_left
 ·simp only [putAll, Act.put, sI, sZ, sS]
  rfl
 refine last_ (i := 10) (N := none) #[true, true, true, true, true, true, true, true, true, true, true] rfl rfl (by kernel_rfl) (by decide) (fun K hK => ?_)
 refine skip_ (w1 := ?_) (by rfl) rfl ?_ ?_
 rotate_left
 ·go_simp
  rfl
 refine hK.out _ _ ?_
 clear hK K
 refine done_ (by kernel_rfl) ?_
 try clear hHeld
 have hV := put11 HF3.out (.bool mir) (.pointer (some ⟨wg.heap.size + 2 + 2 * c, 0, none⟩)) (.pointer pl) (.pointer pr) (.pointer pll) (.pointer plr) (.pointer prl) (.pointer prr) (.pointer pa) (.pointer pb) (.bool rt)
 have hB := below11 HF1.out hF2 (.bool mir) (.pointer (some ⟨wg.heap.size + 2 + 2 * c, 0, none⟩)) (.pointer pl) (.pointer pr) (.pointer pll) (.pointer plr) (.pointer prl) (.pointer prr) (.pointer pa) (.pointer pb) (.bool rt)
 have hK : ∀ k_, k_ < w2.heap.size → (((((((((((w3.setCell ⟨g, 0, none⟩ (.bool mir)).setCell ⟨g, 1, none⟩ (.pointer (some ⟨wg.heap.size + 2 + 2 * c, 0, none⟩))).setCell ⟨g, 2, none⟩ (.pointer pl)).setCell ⟨g, 3, none⟩ (.pointer pr)).setCell ⟨g, 4, none⟩ (.pointer pll)).setCell ⟨g, 5, none⟩ (.pointer plr)).setCell ⟨g, 6, none⟩ (.pointer prl)).setCell ⟨g, 7, none⟩ (.pointer prr)).setCell ⟨g, 8, none⟩ (.pointer pa)).setCell ⟨g, 9, none⟩ (.pointer pb)).setCell ⟨g, 10, none⟩ (.bool rt)).heap[k_]? = w3.heap[k_]? := fun k_ hk_ => setc11 (by omega) (.bool mir) (.pointer (some ⟨wg.heap.size + 2 + 2 * c, 0, none⟩)) (.pointer pl) (.pointer pr) (.pointer pll) (.pointer plr) (.pointer prl) (.pointer prr) (.pointer pa) (.pointer pb) (.bool rt)
 clear hz0 hfz0 hz1 hfz1 hz2 hfz2 hz3 hfz3 hz4 hfz4 hz5 hfz5 hz6 hfz6 hz7 hfz7 hz8 hfz8 hz9 hfz9 hz10 hfz10 HF3 HF1
 generalize (((((((((((w3.setCell ⟨g, 0, none⟩ (.bool mir)).setCell ⟨g, 1, none⟩ (.pointer (some ⟨wg.heap.size + 2 + 2 * c, 0, none⟩))).setCell ⟨g, 2, none⟩ (.pointer pl)).setCell ⟨g, 3, none⟩ (.pointer pr)).setCell ⟨g, 4, none⟩ (.pointer pll)).setCell ⟨g, 5, none⟩ (.pointer plr)).setCell ⟨g, 6, none⟩ (.pointer prl)).setCell ⟨g, 7, none⟩ (.pointer prr)).setCell ⟨g, 8, none⟩ (.pointer pa)).setCell ⟨g, 9, none⟩ (.pointer pb)).setCell ⟨g, 10, none⟩ (.bool rt)) = w4 at hV hB hK ⊢
 have HRpl := Am (HY1.out.keptS (w' := w4) (fun k_ hk_ _ => hK k_ hk_.2))
 have HRpr := Am (HY2.out.keptS (w' := w4) (fun k_ hk_ _ => hK k_ hk_.2))
 have HRpll := Am (HY3.out.keptS (w' := w4) (fun k_ hk_ _ => hK k_ hk_.2))
 have HRplr := Am (HY4.out.keptS (w' := w4) (fun k_ hk_ _ => hK k_ hk_.2))
 have HRprl := Am (HY5.out.keptS (w' := w4) (fun k_ hk_ _ => hK k_ hk_.2))
 have HRprr := Am (HY6.out.keptS (w' := w4) (fun k_ hk_ _ => hK k_ hk_.2))
 have HRpa := Am (HY7.out.keptS (w' := w4) (fun k_ hk_ _ => hK k_ hk_.2))
 have HRpb := Am (HY8.out.keptS (w' := w4) (fun k_ hk_ _ => hK k_ hk_.2))
 have HRp := Am (HRX.out.below hB)
 have HV := Am hV
 have HB := Am hB
 clear HY1 HY2 HY3 HY4 HY5 HY6 HY7 HY8 hK
 have hk0 : w4.cell? ⟨w.heap.size, 0, none⟩ = some (.int .i64 kind) := (hB.cell (p := ⟨w.heap.size, 0, none⟩) (Nat.lt_trans hg0 hg2)).trans HB0.out
 have HK0 := Am hk0
 obtain ⟨hv0, hv1, hv2, hv3, hv4, hv5, hv6, hv7, hv8, hv9, hv10⟩ := vc11 hV
 clear hV hB HPC HB0 HB1
 go_wp2_with (fail)
 refine (can_any mir rt (some ⟨wg.heap.size + 2 + 2 * c, 0, none⟩) pl pr pll plr prl prr pa pb X _ HRp HRpl HRpr HRpll HRplr HRprl HRprr HRpa HRpb kind HKD.out).mono ?_
 rw [HCAN.out]
 rintro e w5 ⟨rfl, h5⟩
 have HB5 := Am (HB.out.trans (h5.mono HB.out.size))
 have H5 := Am h5
 have HV5 := Am ((h5.block _ (Array.getElem?_eq_some_iff.1 HV.out).1).trans HV.out)
 have hk5 := (h5.cell (blt _ _ HK0.out)).trans HK0.out
 clear h5 hv0 hv1 hv2 hv3 hv4 hv5 hv6 hv7 hv8 hv9 hv10 hk0 HV
 obtain ⟨hw0, hw1, hw2, hw3, hw4, hw5, hw6, hw7, hw8, hw9, hw10⟩ := vc11 HV5.out
 go_wp2
 go_ret2
 exact ⟨rfl, HBW.out.trans ((HFO.out.bel.trans (HB5.out.mono HFO.out.bel.size)).mono HBW.out.size)⟩
theorem do_big (k : Nat) (A0 : Option Addr) (c0 : Nat) (l0 : List S34) (c : Nat) (kind : Int) (mir : Bool) (r1 : Int) (r2 : List Bool) (w : World) (hr0 : Kd.C k34 w A0 l0.length l0) (hc0 : l0.length ≤ c0)
  (h : steps_keys.f k l0 = some (r1, r2, 0)) (hm : steps_Move_is.f kind mir = some true) (hkd : 1 ≤ kind ∧ kind ≤ 12) (hp1 : (c : Int) < l0.length) (hp2 : (c : Int) < r2.length) (hbel : rdOf false r2 c = true) (ht : OkT l0) (K : Nat) (X : Tr) (hX : mkT l0 K c = some X) (rt : Bool) (hrt : ((c : Int) == r1) = rt) (hrf : rt = false) (hcan : canT mir rt X kind = true) (hbig : 1000000 < wt (doT mir X kind)) :
  Calls Try.prog 30 #[.slice A0 l0.length c0, .int .i64 c, .agg #[.int .i64 kind, .bool mir]] w (RB w (.tuple #[.slice none 0 0, .int .i64 2])) := by
 have HCAN := Am hcan
 clear hcan
 have hxn : X ≠ .nil := by rintro rfl; exact mkT_nil hX
 have HXN := Am hxn
 clear hxn
 have HRF := Am hrf
 clear hrf
 have HR := Am hr0
 have HC := Am hc0
 have H := Am h
 have HM := Am hm
 have HT := Am ht
 have HX := Am hX
 have HKD := Am hkd
 have HBEL := Am hbel
 have hlen : l0.length ≤ 100000 := ht.len
 have hcl : c < l0.length := by omega
 clear hr0 hc0 h hm ht hX hkd hbel
 go_enter Try.func30, Try.ntmps30
 go_wp2_with (fail)
 refine (at_okt k A0 c0 l0 c kind mir r1 r2 _ (Kd.C_below HR.out ((Below.refl _ _).alloc (Nat.le_refl _) _)) HC.out H.out (fun _ => HM.out) (by omega) hp1 hp2 HBEL.out (by omega) (fun i hi h4 => ⟨(HT.out.kids i hi h4).1, (HT.out.kids i hi h4).2.1, (HT.out.kids i hi h4).2.2.1⟩)).mono ?_
 rintro e w2 ⟨wg, rfl, hbg, hfo⟩
 have hbw : Below w.heap.size w wg := ((Below.refl _ _).alloc (Nat.le_refl _) _).trans (hbg.mono (by simp))
 have hg0 : w.heap.size < wg.heap.size := by have h_ := hbg.size; simp at h_; omega
 have hbx0 : wg.cell? ⟨w.heap.size, 0, none⟩ = some (.int .i64 kind) := (hbg.cell (p := ⟨w.heap.size, 0, none⟩) (by simp)).trans (World.cell?_alloc_at _ _ _ _ rfl)
 have hbx1 : wg.cell? ⟨w.heap.size, 1, none⟩ = some (.bool mir) := (hbg.cell (p := ⟨w.heap.size, 1, none⟩) (by simp)).trans (World.cell?_alloc_at _ _ _ _ rfl)
 have HBW := Am hbw
 have HFO := Am hfo
 have HX0 := Am hbx0
 have HX1 := Am hbx1
 have HRX : Aside0 (Rep (fun k_ => SetC wg.heap.size l0 c k_ ∧ k_ < w2.heap.size) w2 (.pointer (some ⟨wg.heap.size + 2 + 2 * c, 0, none⟩)) X) := ⟨(forest_rep hfo HX.out K c X HX.out (Nat.le_refl _)).bound⟩
 have hg2 : wg.heap.size < w2.heap.size := rowIs_lt hfo.ptrs
 have hpc : w2.drew.cell? ⟨wg.heap.size, c, none⟩ = some (.pointer (some ⟨wg.heap.size + 2 + 2 * c, 0, none⟩)) := (rowIs_cell hfo.ptrs c hcl).trans (by rw [if_pos hcl]; rfl)
 have hb0 : w2.drew.cell? ⟨w.heap.size, 0, none⟩ = some (.int .i64 kind) := (hfo.bel.cell (p := ⟨w.heap.size, 0, none⟩) hg0).trans hbx0
 have hb1 : w2.drew.cell? ⟨w.heap.size, 1, none⟩ = some (.bool mir) := (hfo.bel.cell (p := ⟨w.heap.size, 1, none⟩) hg0).trans hbx1
 clear hbg hbw hfo hbx0 hbx1
 go_wp2
 have HPC := Am hpc
 have HB0 := Am hb0
 have HB1 := Am hb1
 refine sT 11 [10] (S := fun w' => w'.cell? ⟨wg.heap.size, c, none⟩ = some (.pointer (some ⟨wg.heap.size + 2 + 2 * c, 0, none⟩)) ∧ w'.cell? ⟨w.heap.size, 0, none⟩ = some (.int .i64 kind) ∧ w'.cell? ⟨w.heap.size, 1, none⟩ = some (.bool mir)) ⟨hpc, hb0, hb1⟩ fun hHeld => ?_
 refine pu 0 26 ?_
 refine pu 1 27 ?_
 refine pu 2 28 ?_
 refine pu 5 31 ?_
 refine pu 6 32 ?_
 refine pu 7 33 ?_
 refine ta 3 29 hHeld ?_
 refine ta 4 30 hHeld ?_
 refine join_ (σ := Nat × Option Addr × Option Addr × Option Addr × Option Addr × Option Addr × Option Addr × Option Addr × Option Addr) 1 #[true, true, true, true, true, true, true, true, true, true, false] (fun s => [(34, .agg #[.bool mir, .pointer (some ⟨wg.heap.size + 2 + 2 * c, 0, none⟩), .pointer s.2.1, .pointer s.2.2.1, .pointer s.2.2.2.1, .pointer s.2.2.2.2.1, .pointer s.2.2.2.2.2.1, .pointer s.2.2.2.2.2.2.1, .pointer s.2.2.2.2.2.2.2.1, .pointer s.2.2.2.2.2.2.2.2, .bool rt]), (11, .pointer (some ⟨s.1, 0, none⟩))]) (fun s w' => Below w2.heap.size w2 w' ∧ w2.heap.size ≤ s.1 ∧ w'.heap[s.1]? = some (.cells #[.bool false, .pointer none, .pointer none, .pointer none, .pointer none, .pointer none, .pointer none, .pointer none, .pointer none, .pointer none, .bool false] 111 (0, 0)) ∧ Rep (fun k_ => SetC wg.heap.size l0 c k_ ∧ k_ < w2.heap.size) w' (.pointer s.2.1) (lT mir X) ∧ Rep (fun k_ => SetC wg.heap.size l0 c k_ ∧ k_ < w2.heap.size) w' (.pointer s.2.2.1) (rT mir X) ∧ Rep (fun k_ => SetC wg.heap.size l0 c k_ ∧ k_ < w2.heap.size) w' (.pointer s.2.2.2.1) (lT mir (lT mir X)) ∧ Rep (fun k_ => SetC wg.heap.size l0 c k_ ∧ k_ < w2.heap.size) w' (.pointer s.2.2.2.2.1) (rT mir (lT mir X)) ∧ Rep (fun k_ => SetC wg.heap.size l0 c k_ ∧ k_ < w2.heap.size) w' (.pointer s.2.2.2.2.2.1) (lT mir (rT mir X)) ∧ Rep (fun k_ => SetC wg.heap.size l0 c k_ ∧ k_ < w2.heap.size) w' (.pointer s.2.2.2.2.2.2.1) (rT mir (rT mir X)) ∧ Rep (fun k_ => SetC wg.heap.size l0 c k_ ∧ k_ < w2.heap.size) w' (.pointer s.2.2.2.2.2.2.2.1) (lT mir (lT mir (rT mir X))) ∧ Rep (fun k_ => SetC wg.heap.size l0 c k_ ∧ k_ < w2.heap.size) w' (.pointer s.2.2.2.2.2.2.2.2) (rT mir (lT mir (rT mir X)))) ?_ ?_
 rotate_left
 ·intro hCont
  refine two_ (i := 8) (j := 9) (Ni := some 34) (Nj := some 11) #[true, true, true, true, true, true, true, true, true, false, false] #[true, true, true, true, true, true, true, true, false, true, false] rfl rfl rfl rfl (by kernel_rfl) (by decide) (by decide) (fun K hK => ?_) (fun K hK => ?_)
  ·skip
   refine gO Try.func63 #[.pointer (some ⟨wg.heap.size + 2 + 2 * c, 0, none⟩), .agg #[.int .i64 kind, .bool mir], .bool rt] ?_
   with_reducible refine (look_any (S := (fun k_ => SetC wg.heap.size l0 c k_ ∧ k_ < w2.heap.size)) _ X _ _ _ _ (by first | exact HRX.out.below ((Below.refl _ _).drew) | exact HRX.out.below HBA.out)).mono ?_
   rintro e wL ⟨pl, pr, pll, plr, prl, prr, pa, pb, rfl, hLb, r1, r2, r3, r4, r5, r6, r7, r8⟩
   refine ⟨_, rfl, ?_⟩
   refine hK.out _ _ ⟨(hLb.cell (blt _ _ hHeld.1)).trans hHeld.1, (hLb.cell (blt _ _ hHeld.2.1)).trans hHeld.2.1, (hLb.cell (blt _ _ hHeld.2.2)).trans hHeld.2.2⟩ (fun hHeld => ?_)
   clear hK K
   refine nm 34 ?_
   refine on 9 11 fun K hK => ?_
   refine box_step (by rfl) (N := 11) rfl (cs := #[.bool false, .pointer none, .pointer none, .pointer none, .pointer none, .pointer none, .pointer none, .pointer none, .pointer none, .pointer none, .bool false]) (t := 111) ?hr ?_
   case hr => first | (go_simp; done) | (go_simp; rfl)
   intro g hg wA hbox hbA
   have hgs : w2.heap.size ≤ g := by rw [hg]; exact hLb.size
   refine hK.out _ _ ⟨(hbA.cell (blt _ _ hHeld.1)).trans hHeld.1, (hbA.cell (blt _ _ hHeld.2.1)).trans hHeld.2.1, (hbA.cell (blt _ _ hHeld.2.2)).trans hHeld.2.2⟩ (fun hHeld => ?_)
   clear hK K
   refine nm 11 ?_
   exact norm_ (by simp only [putAll, Act.put, sI, sZ, sS]) (hCont (g, pl, pr, pll, plr, prl, prr, pa, pb) _ ⟨((Below.refl w2.heap.size w2).drew.trans (hLb.mono (Nat.le_refl _))).trans (hbA.mono hLb.size), hgs, hbox, (r1.below hLb).below hbA, (r2.below hLb).below hbA, (r3.below hLb).below hbA, (r4.below hLb).below hbA, (r5.below hLb).below hbA, (r6.below hLb).below hbA, (r7.below hLb).below hbA, (r8.below hLb).below hbA⟩)
  ·skip
   refine box_step (by rfl) (N := 11) rfl (cs := #[.bool false, .pointer none, .pointer none, .pointer none, .pointer none, .pointer none, .pointer none, .pointer none, .pointer none, .pointer none, .bool false]) (t := 111) ?hr ?_
   case hr => first | (go_simp; done) | (go_simp; rfl)
   intro g hg wA hbox hbA
   have HBA := Am (((Below.refl w2.heap.size w2).drew).trans (hbA.mono (Nat.le_refl _)))
   have hgs : w2.heap.size ≤ g := by rw [hg]; exact Nat.le_refl _
   refine hK.out _ _ ⟨(hbA.cell (blt _ _ hHeld.1)).trans hHeld.1, (hbA.cell (blt _ _ hHeld.2.1)).trans hHeld.2.1, (hbA.cell (blt _ _ hHeld.2.2)).trans hHeld.2.2⟩ (fun hHeld => ?_)
   clear hK K
   refine nm 11 ?_
   refine on 8 34 fun K hK => ?_
   refine gO Try.func63 #[.pointer (some ⟨wg.heap.size + 2 + 2 * c, 0, none⟩), .agg #[.int .i64 kind, .bool mir], .bool rt] ?_
   with_reducible refine (look_any (S := (fun k_ => SetC wg.heap.size l0 c k_ ∧ k_ < w2.heap.size)) _ X _ _ _ _ (by first | exact HRX.out.below ((Below.refl _ _).drew) | exact HRX.out.below HBA.out)).mono ?_
   rintro e wL ⟨pl, pr, pll, plr, prl, prr, pa, pb, rfl, hLb, r1, r2, r3, r4, r5, r6, r7, r8⟩
   refine ⟨_, rfl, ?_⟩
   refine hK.out _ _ ⟨(hLb.cell (blt _ _ hHeld.1)).trans hHeld.1, (hLb.cell (blt _ _ hHeld.2.1)).trans hHeld.2.1, (hLb.cell (blt _ _ hHeld.2.2)).trans hHeld.2.2⟩ (fun hHeld => ?_)
   clear hK K
   refine nm 34 ?_
   exact norm_ (by simp only [putAll, Act.put, sI, sZ, sS]) (hCont (g, pl, pr, pll, plr, prl, prr, pa, pb) _ ⟨HBA.out.trans (hLb.mono hbA.size), hgs, (hLb.block _ (Array.getElem?_eq_some_iff.1 hbox).1).trans hbox, r1.below hLb, r2.below hLb, r3.below hLb, r4.below hLb, r5.below hLb, r6.below hLb, r7.below hLb, r8.below hLb⟩)
 rintro ⟨g, pl, pr, pll, plr, prl, prr, pa, pb⟩ w3 ⟨hF1, hF2, hF3, y1, y2, y3, y4, y5, y6, y7, y8⟩
 replace hF2 : w2.heap.size ≤ g := hF2
 replace hF3 : w3.heap[g]? = some (.cells #[.bool false, .pointer none, .pointer none, .pointer none, .pointer none, .pointer none, .pointer none, .pointer none, .pointer none, .pointer none, .bool false] 111 (0, 0)) := hF3
 have HY1 : Aside0 (Rep (fun k_ => SetC wg.heap.size l0 c k_ ∧ k_ < w2.heap.size) w3 (.pointer pl) (lT mir X)) := ⟨y1⟩
 have HY2 : Aside0 (Rep (fun k_ => SetC wg.heap.size l0 c k_ ∧ k_ < w2.heap.size) w3 (.pointer pr) (rT mir X)) := ⟨y2⟩
 have HY3 : Aside0 (Rep (fun k_ => SetC wg.heap.size l0 c k_ ∧ k_ < w2.heap.size) w3 (.pointer pll) (lT mir (lT mir X))) := ⟨y3⟩
 have HY4 : Aside0 (Rep (fun k_ => SetC wg.heap.size l0 c k_ ∧ k_ < w2.heap.size) w3 (.pointer plr) (rT mir (lT mir X))) := ⟨y4⟩
 have HY5 : Aside0 (Rep (fun k_ => SetC wg.heap.size l0 c k_ ∧ k_ < w2.heap.size) w3 (.pointer prl) (lT mir (rT mir X))) := ⟨y5⟩
 have HY6 : Aside0 (Rep (fun k_ => SetC wg.heap.size l0 c k_ ∧ k_ < w2.heap.size) w3 (.pointer prr) (rT mir (rT mir X))) := ⟨y6⟩
 have HY7 : Aside0 (Rep (fun k_ => SetC wg.heap.size l0 c k_ ∧ k_ < w2.heap.size) w3 (.pointer pa) (lT mir (lT mir (rT mir X)))) := ⟨y7⟩
 have HY8 : Aside0 (Rep (fun k_ => SetC wg.heap.size l0 c k_ ∧ k_ < w2.heap.size) w3 (.pointer pb) (rT mir (lT mir (rT mir X)))) := ⟨y8⟩
 have hHeld : w3.cell? ⟨wg.heap.size, c, none⟩ = some (.pointer (some ⟨wg.heap.size + 2 + 2 * c, 0, none⟩)) ∧ w3.cell? ⟨w.heap.size, 0, none⟩ = some (.int .i64 kind) ∧ w3.cell? ⟨w.heap.size, 1, none⟩ = some (.bool mir) := ⟨(hF1.cell (p := ⟨wg.heap.size, c, none⟩) hg2).trans HPC.out, (hF1.cell (p := ⟨w.heap.size, 0, none⟩) (Nat.lt_trans hg0 hg2)).trans HB0.out, (hF1.cell (p := ⟨w.heap.size, 1, none⟩) (Nat.lt_trans hg0 hg2)).trans HB1.out⟩
 obtain ⟨hz0, hz1, hz2, hz3, hz4, hz5, hz6, hz7, hz8, hz9, hz10⟩ := vc11 hF3
 have hfz0 := frz_of hF3 0
 have hfz1 := frz_of hF3 1
 have hfz2 := frz_of hF3 2
 have hfz3 := frz_of hF3 3
 have hfz4 := frz_of hF3 4
 have hfz5 := frz_of hF3 5
 have hfz6 := frz_of hF3 6
 have hfz7 := frz_of hF3 7
 have hfz8 := frz_of hF3 8
 have hfz9 := frz_of hF3 9
 have hfz10 := frz_of hF3 10
 have HF1 := Am hF1
 have HF3 := Am hF3
 clear hF1 hF3 y1 y2 y3 y4 y5 y6 y7 y8
 refine norm_ (a' := ?_) ?_ ?_
 rotate_left
 ·simp only [putAll, Act.put, sI, sZ, sS]
  rfl
 refine last_ (i := 10) (N := none) #[true, true, true, true, true, true, true, true, true, true, true] rfl rfl (by kernel_rfl) (by decide) (fun K hK => ?_)
 refine skip_ (w1 := ?_) (by rfl) rfl ?_ ?_
 rotate_left
 ·go_simp
  rfl
 refine hK.out _ _ ?_
 clear hK K
 refine done_ (by kernel_rfl) ?_
 try clear hHeld
 have hV := put11 HF3.out (.bool mir) (.pointer (some ⟨wg.heap.size + 2 + 2 * c, 0, none⟩)) (.pointer pl) (.pointer pr) (.pointer pll) (.pointer plr) (.pointer prl) (.pointer prr) (.pointer pa) (.pointer pb) (.bool rt)
 have hB := below11 HF1.out hF2 (.bool mir) (.pointer (some ⟨wg.heap.size + 2 + 2 * c, 0, none⟩)) (.pointer pl) (.pointer pr) (.pointer pll) (.pointer plr) (.pointer prl) (.pointer prr) (.pointer pa) (.pointer pb) (.bool rt)
 have hK : ∀ k_, k_ < w2.heap.size → (((((((((((w3.setCell ⟨g, 0, none⟩ (.bool mir)).setCell ⟨g, 1, none⟩ (.pointer (some ⟨wg.heap.size + 2 + 2 * c, 0, none⟩))).setCell ⟨g, 2, none⟩ (.pointer pl)).setCell ⟨g, 3, none⟩ (.pointer pr)).setCell ⟨g, 4, none⟩ (.pointer pll)).setCell ⟨g, 5, none⟩ (.pointer plr)).setCell ⟨g, 6, none⟩ (.pointer prl)).setCell ⟨g, 7, none⟩ (.pointer prr)).setCell ⟨g, 8, none⟩ (.pointer pa)).setCell ⟨g, 9, none⟩ (.pointer pb)).setCell ⟨g, 10, none⟩ (.bool rt)).heap[k_]? = w3.heap[k_]? := fun k_ hk_ => setc11 (by omega) (.bool mir) (.pointer (some ⟨wg.heap.size + 2 + 2 * c, 0, none⟩)) (.pointer pl) (.pointer pr) (.pointer pll) (.pointer plr) (.pointer prl) (.pointer prr) (.pointer pa) (.pointer pb) (.bool rt)
 clear hz0 hfz0 hz1 hfz1 hz2 hfz2 hz3 hfz3 hz4 hfz4 hz5 hfz5 hz6 hfz6 hz7 hfz7 hz8 hfz8 hz9 hfz9 hz10 hfz10 HF3 HF1
 generalize (((((((((((w3.setCell ⟨g, 0, none⟩ (.bool mir)).setCell ⟨g, 1, none⟩ (.pointer (some ⟨wg.heap.size + 2 + 2 * c, 0, none⟩))).setCell ⟨g, 2, none⟩ (.pointer pl)).setCell ⟨g, 3, none⟩ (.pointer pr)).setCell ⟨g, 4, none⟩ (.pointer pll)).setCell ⟨g, 5, none⟩ (.pointer plr)).setCell ⟨g, 6, none⟩ (.pointer prl)).setCell ⟨g, 7, none⟩ (.pointer prr)).setCell ⟨g, 8, none⟩ (.pointer pa)).setCell ⟨g, 9, none⟩ (.pointer pb)).setCell ⟨g, 10, none⟩ (.bool rt)) = w4 at hV hB hK ⊢
 have HRpl := Am (HY1.out.keptS (w' := w4) (fun k_ hk_ _ => hK k_ hk_.2))
 have HRpr := Am (HY2.out.keptS (w' := w4) (fun k_ hk_ _ => hK k_ hk_.2))
 have HRpll := Am (HY3.out.keptS (w' := w4) (fun k_ hk_ _ => hK k_ hk_.2))
 have HRplr := Am (HY4.out.keptS (w' := w4) (fun k_ hk_ _ => hK k_ hk_.2))
 have HRprl := Am (HY5.out.keptS (w' := w4) (fun k_ hk_ _ => hK k_ hk_.2))
 have HRprr := Am (HY6.out.keptS (w' := w4) (fun k_ hk_ _ => hK k_ hk_.2))
 have HRpa := Am (HY7.out.keptS (w' := w4) (fun k_ hk_ _ => hK k_ hk_.2))
 have HRpb := Am (HY8.out.keptS (w' := w4) (fun k_ hk_ _ => hK k_ hk_.2))
 have HRp := Am (HRX.out.below hB)
 have HV := Am hV
 have HB := Am hB
 clear HY1 HY2 HY3 HY4 HY5 HY6 HY7 HY8 hK
 have hk0 : w4.cell? ⟨w.heap.size, 0, none⟩ = some (.int .i64 kind) := (hB.cell (p := ⟨w.heap.size, 0, none⟩) (Nat.lt_trans hg0 hg2)).trans HB0.out
 have HK0 := Am hk0
 obtain ⟨hv0, hv1, hv2, hv3, hv4, hv5, hv6, hv7, hv8, hv9, hv10⟩ := vc11 hV
 clear hV hB HPC HB0 HB1
 go_wp2_with (fail)
 refine (can_any mir rt (some ⟨wg.heap.size + 2 + 2 * c, 0, none⟩) pl pr pll plr prl prr pa pb X _ HRp HRpl HRpr HRpll HRplr HRprl HRprr HRpa HRpb kind HKD.out).mono ?_
 rw [HCAN.out]
 rintro e w5 ⟨rfl, h5⟩
 have HB5 := Am (HB.out.trans (h5.mono HB.out.size))
 have H5 := Am h5
 have HV5 := Am ((h5.block _ (Array.getElem?_eq_some_iff.1 HV.out).1).trans HV.out)
 have hk5 := (h5.cell (blt _ _ HK0.out)).trans HK0.out
 clear h5 hv0 hv1 hv2 hv3 hv4 hv5 hv6 hv7 hv8 hv9 hv10 hk0 HV
 obtain ⟨hw0, hw1, hw2, hw3, hw4, hw5, hw6, hw7, hw8, hw9, hw10⟩ := vc11 HV5.out
 go_wp2_with (fail)
 refine (do_any (S := (fun k_ => (fun k_ => SetC wg.heap.size l0 c k_ ∧ k_ < w2.heap.size) k_ ∨ w5.heap.size ≤ k_)) mir rt (some ⟨wg.heap.size + 2 + 2 * c, 0, none⟩) pl pr pll plr prl prr pa pb X _ (fun _ hk_ => .inr hk_) ⟨(HRp.out.below H5.out).mono (fun _ hk_ => .inl hk_)⟩ ⟨(HRpl.out.below H5.out).mono (fun _ hk_ => .inl hk_)⟩ ⟨(HRpr.out.below H5.out).mono (fun _ hk_ => .inl hk_)⟩ ⟨(HRpll.out.below H5.out).mono (fun _ hk_ => .inl hk_)⟩ ⟨(HRplr.out.below H5.out).mono (fun _ hk_ => .inl hk_)⟩ ⟨(HRprl.out.below H5.out).mono (fun _ hk_ => .inl hk_)⟩ ⟨(HRprr.out.below H5.out).mono (fun _ hk_ => .inl hk_)⟩ ⟨(HRpa.out.below H5.out).mono (fun _ hk_ => .inl hk_)⟩ ⟨(HRpb.out.below H5.out).mono (fun _ hk_ => .inl hk_)⟩ kind HKD.out HXN.out HCAN.out).mono ?_
 rintro e w6 ⟨q, W6, rfl, h6a, h6b, h6c⟩
 have HB6 := Am ((HB5.out.trans (h6a.mono HB5.out.size)).trans (h6b.mono (Nat.le_trans HB5.out.size h6a.size)))
 have hge6 : w5.heap.size ≤ W6.heap.size := h6a.size
 have HTOP := Am h6c
 have HTB := Am h6b
 clear h6a h6b h6c hw0 hw1 hw2 hw3 hw4 hw5 hw6 hw7 hw8 hw9 hw10
 have hrf := HRF.out
 subst hrf
 obtain ⟨b6, n6, q6, L6, R6, vl6, vr6, hq6, hdo6, hge6b, hcl6, _, _, _⟩ := HTOP.out
 injection hq6 with hq6
 subst hq6
 have hcu6 : w6.cell? ⟨b6, 2, none⟩ = some (.int .i64 n6.f2) := (cell_of hcl6 2).trans rfl
 have hwt : wt (doT mir X kind) = n6.f2 := by rw [hdo6]; rfl
 have HREP := Am (HTOP.out.rep HTB.out)
 rw [hwt] at hbig
 clear hdo6 hcl6 hwt
 have HB7 := HB6
 have dbig : decide (1000000 < n6.f2) = true := decide_eq_true hbig
 clear hbig
 go_wp2
 go_ret2
 exact ⟨rfl, HBW.out.trans ((HFO.out.bel.trans (HB6.out.mono HFO.out.bel.size)).mono HBW.out.size)⟩
theorem do_ok0 (k : Nat) (A0 : Option Addr) (c0 : Nat) (l0 : List S34) (c : Nat) (kind : Int) (mir : Bool) (r1 : Int) (r2 : List Bool) (w : World) (hr0 : Kd.C k34 w A0 l0.length l0) (hc0 : l0.length ≤ c0)
  (h : steps_keys.f k l0 = some (r1, r2, 0)) (hm : steps_Move_is.f kind mir = some true) (hkd : 1 ≤ kind ∧ kind ≤ 12) (hp1 : (c : Int) < l0.length) (hp2 : (c : Int) < r2.length) (hbel : rdOf false r2 c = true) (ht : OkT l0) (K : Nat) (X : Tr) (hX : mkT l0 K c = some X) (rt : Bool) (hrt : ((c : Int) == r1) = rt) (hrf : rt = false) (hcan : canT mir rt X kind = true) (hbig : ¬ 1000000 < wt (doT mir X kind)) (K1 : Nat) (T1 : Tr) (hT1 : mkR l0 c (doT mir X kind) K1 0 = some T1) (hfull : Full T1) (hsz : sizeT T1 ≤ 1000000) :
  Calls Try.prog 30 #[.slice A0 l0.length c0, .int .i64 c, .agg #[.int .i64 kind, .bool mir]] w fun e w' => DoOK w (flatT T1 0) e w' := by
 have HCAN := Am hcan
 clear hcan
 have HT1 := Am hT1
 have HFULL := Am hfull
 have HSZ := Am hsz
 clear hT1 hfull hsz
 have hxn : X ≠ .nil := by rintro rfl; exact mkT_nil hX
 have HXN := Am hxn
 clear hxn
 have HRF := Am hrf
 clear hrf
 have HR := Am hr0
 have HC := Am hc0
 have H := Am h
 have HM := Am hm
 have HT := Am ht
 have HX := Am hX
 have HKD := Am hkd
 have HBEL := Am hbel
 have hlen : l0.length ≤ 100000 := ht.len
 have hcl : c < l0.length := by omega
 clear hr0 hc0 h hm ht hX hkd hbel
 go_enter Try.func30, Try.ntmps30
 go_wp2_with (fail)
 refine (at_okt k A0 c0 l0 c kind mir r1 r2 _ (Kd.C_below HR.out ((Below.refl _ _).alloc (Nat.le_refl _) _)) HC.out H.out (fun _ => HM.out) (by omega) hp1 hp2 HBEL.out (by omega) (fun i hi h4 => ⟨(HT.out.kids i hi h4).1, (HT.out.kids i hi h4).2.1, (HT.out.kids i hi h4).2.2.1⟩)).mono ?_
 rintro e w2 ⟨wg, rfl, hbg, hfo⟩
 have hbw : Below w.heap.size w wg := ((Below.refl _ _).alloc (Nat.le_refl _) _).trans (hbg.mono (by simp))
 have hg0 : w.heap.size < wg.heap.size := by have h_ := hbg.size; simp at h_; omega
 have hbx0 : wg.cell? ⟨w.heap.size, 0, none⟩ = some (.int .i64 kind) := (hbg.cell (p := ⟨w.heap.size, 0, none⟩) (by simp)).trans (World.cell?_alloc_at _ _ _ _ rfl)
 have hbx1 : wg.cell? ⟨w.heap.size, 1, none⟩ = some (.bool mir) := (hbg.cell (p := ⟨w.heap.size, 1, none⟩) (by simp)).trans (World.cell?_alloc_at _ _ _ _ rfl)
 have HBW := Am hbw
 have HFO := Am hfo
 have HX0 := Am hbx0
 have HX1 := Am hbx1
 have HRX : Aside0 (Rep (fun k_ => SetC wg.heap.size l0 c k_ ∧ k_ < w2.heap.size) w2 (.pointer (some ⟨wg.heap.size + 2 + 2 * c, 0, none⟩)) X) := ⟨(forest_rep hfo HX.out K c X HX.out (Nat.le_refl _)).bound⟩
 have hg2 : wg.heap.size < w2.heap.size := rowIs_lt hfo.ptrs
 have hpc : w2.drew.cell? ⟨wg.heap.size, c, none⟩ = some (.pointer (some ⟨wg.heap.size + 2 + 2 * c, 0, none⟩)) := (rowIs_cell hfo.ptrs c hcl).trans (by rw [if_pos hcl]; rfl)
 have hb0 : w2.drew.cell? ⟨w.heap.size, 0, none⟩ = some (.int .i64 kind) := (hfo.bel.cell (p := ⟨w.heap.size, 0, none⟩) hg0).trans hbx0
 have hb1 : w2.drew.cell? ⟨w.heap.size, 1, none⟩ = some (.bool mir) := (hfo.bel.cell (p := ⟨w.heap.size, 1, none⟩) hg0).trans hbx1
 clear hbg hbw hfo hbx0 hbx1
 go_wp2
 have HPC := Am hpc
 have HB0 := Am hb0
 have HB1 := Am hb1
 refine sT 11 [10] (S := fun w' => w'.cell? ⟨wg.heap.size, c, none⟩ = some (.pointer (some ⟨wg.heap.size + 2 + 2 * c, 0, none⟩)) ∧ w'.cell? ⟨w.heap.size, 0, none⟩ = some (.int .i64 kind) ∧ w'.cell? ⟨w.heap.size, 1, none⟩ = some (.bool mir)) ⟨hpc, hb0, hb1⟩ fun hHeld => ?_
 refine pu 0 26 ?_
 refine pu 1 27 ?_
 refine pu 2 28 ?_
 refine pu 5 31 ?_
 refine pu 6 32 ?_
 refine pu 7 33 ?_
 refine ta 3 29 hHeld ?_
 refine ta 4 30 hHeld ?_
 refine join_ (σ := Nat × Option Addr × Option Addr × Option Addr × Option Addr × Option Addr × Option Addr × Option Addr × Option Addr) 1 #[true, true, true, true, true, true, true, true, true, true, false] (fun s => [(34, .agg #[.bool mir, .pointer (some ⟨wg.heap.size + 2 + 2 * c, 0, none⟩), .pointer s.2.1, .pointer s.2.2.1, .pointer s.2.2.2.1, .pointer s.2.2.2.2.1, .pointer s.2.2.2.2.2.1, .pointer s.2.2.2.2.2.2.1, .pointer s.2.2.2.2.2.2.2.1, .pointer s.2.2.2.2.2.2.2.2, .bool rt]), (11, .pointer (some ⟨s.1, 0, none⟩))]) (fun s w' => Below w2.heap.size w2 w' ∧ w2.heap.size ≤ s.1 ∧ w'.heap[s.1]? = some (.cells #[.bool false, .pointer none, .pointer none, .pointer none, .pointer none, .pointer none, .pointer none, .pointer none, .pointer none, .pointer none, .bool false] 111 (0, 0)) ∧ Rep (fun k_ => SetC wg.heap.size l0 c k_ ∧ k_ < w2.heap.size) w' (.pointer s.2.1) (lT mir X) ∧ Rep (fun k_ => SetC wg.heap.size l0 c k_ ∧ k_ < w2.heap.size) w' (.pointer s.2.2.1) (rT mir X) ∧ Rep (fun k_ => SetC wg.heap.size l0 c k_ ∧ k_ < w2.heap.size) w' (.pointer s.2.2.2.1) (lT mir (lT mir X)) ∧ Rep (fun k_ => SetC wg.heap.size l0 c k_ ∧ k_ < w2.heap.size) w' (.pointer s.2.2.2.2.1) (rT mir (lT mir X)) ∧ Rep (fun k_ => SetC wg.heap.size l0 c k_ ∧ k_ < w2.heap.size) w' (.pointer s.2.2.2.2.2.1) (lT mir (rT mir X)) ∧ Rep (fun k_ => SetC wg.heap.size l0 c k_ ∧ k_ < w2.heap.size) w' (.pointer s.2.2.2.2.2.2.1) (rT mir (rT mir X)) ∧ Rep (fun k_ => SetC wg.heap.size l0 c k_ ∧ k_ < w2.heap.size) w' (.pointer s.2.2.2.2.2.2.2.1) (lT mir (lT mir (rT mir X))) ∧ Rep (fun k_ => SetC wg.heap.size l0 c k_ ∧ k_ < w2.heap.size) w' (.pointer s.2.2.2.2.2.2.2.2) (rT mir (lT mir (rT mir X)))) ?_ ?_
 rotate_left
 ·intro hCont
  refine two_ (i := 8) (j := 9) (Ni := some 34) (Nj := some 11) #[true, true, true, true, true, true, true, true, true, false, false] #[true, true, true, true, true, true, true, true, false, true, false] rfl rfl rfl rfl (by kernel_rfl) (by decide) (by decide) (fun K hK => ?_) (fun K hK => ?_)
  ·skip
   refine gO Try.func63 #[.pointer (some ⟨wg.heap.size + 2 + 2 * c, 0, none⟩), .agg #[.int .i64 kind, .bool mir], .bool rt] ?_
   with_reducible refine (look_any (S := (fun k_ => SetC wg.heap.size l0 c k_ ∧ k_ < w2.heap.size)) _ X _ _ _ _ (by first | exact HRX.out.below ((Below.refl _ _).drew) | exact HRX.out.below HBA.out)).mono ?_
   rintro e wL ⟨pl, pr, pll, plr, prl, prr, pa, pb, rfl, hLb, r1, r2, r3, r4, r5, r6, r7, r8⟩
   refine ⟨_, rfl, ?_⟩
   refine hK.out _ _ ⟨(hLb.cell (blt _ _ hHeld.1)).trans hHeld.1, (hLb.cell (blt _ _ hHeld.2.1)).trans hHeld.2.1, (hLb.cell (blt _ _ hHeld.2.2)).trans hHeld.2.2⟩ (fun hHeld => ?_)
   clear hK K
   refine nm 34 ?_
   refine on 9 11 fun K hK => ?_
   refine box_step (by rfl) (N := 11) rfl (cs := #[.bool false, .pointer none, .pointer none, .pointer none, .pointer none, .pointer none, .pointer none, .pointer none, .pointer none, .pointer none, .bool false]) (t := 111) ?hr ?_
   case hr => first | (go_simp; done) | (go_simp; rfl)
   intro g hg wA hbox hbA
   have hgs : w2.heap.size ≤ g := by rw [hg]; exact hLb.size
   refine hK.out _ _ ⟨(hbA.cell (blt _ _ hHeld.1)).trans hHeld.1, (hbA.cell (blt _ _ hHeld.2.1)).trans hHeld.2.1, (hbA.cell (blt _ _ hHeld.2.2)).trans hHeld.2.2⟩ (fun hHeld => ?_)
   clear hK K
   refine nm 11 ?_
   exact norm_ (by simp only [putAll, Act.put, sI, sZ, sS]) (hCont (g, pl, pr, pll, plr, prl, prr, pa, pb) _ ⟨((Below.refl w2.heap.size w2).drew.trans (hLb.mono (Nat.le_refl _))).trans (hbA.mono hLb.size), hgs, hbox, (r1.below hLb).below hbA, (r2.below hLb).below hbA, (r3.below hLb).below hbA, (r4.below hLb).below hbA, (r5.below hLb).below hbA, (r6.below hLb).below hbA, (r7.below hLb).below hbA, (r8.below hLb).below hbA⟩)
  ·skip
   refine box_step (by rfl) (N := 11) rfl (cs := #[.bool false, .pointer none, .pointer none, .pointer none, .pointer none, .pointer none, .pointer none, .pointer none, .pointer none, .pointer none, .bool false]) (t := 111) ?hr ?_
   case hr => first | (go_simp; done) | (go_simp; rfl)
   intro g hg wA hbox hbA
   have HBA := Am (((Below.refl w2.heap.size w2).drew).trans (hbA.mono (Nat.le_refl _)))
   have hgs : w2.heap.size ≤ g := by rw [hg]; exact Nat.le_refl _
   refine hK.out _ _ ⟨(hbA.cell (blt _ _ hHeld.1)).trans hHeld.1, (hbA.cell (blt _ _ hHeld.2.1)).trans hHeld.2.1, (hbA.cell (blt _ _ hHeld.2.2)).trans hHeld.2.2⟩ (fun hHeld => ?_)
   clear hK K
   refine nm 11 ?_
   refine on 8 34 fun K hK => ?_
   refine gO Try.func63 #[.pointer (some ⟨wg.heap.size + 2 + 2 * c, 0, none⟩), .agg #[.int .i64 kind, .bool mir], .bool rt] ?_
   with_reducible refine (look_any (S := (fun k_ => SetC wg.heap.size l0 c k_ ∧ k_ < w2.heap.size)) _ X _ _ _ _ (by first | exact HRX.out.below ((Below.refl _ _).drew) | exact HRX.out.below HBA.out)).mono ?_
   rintro e wL ⟨pl, pr, pll, plr, prl, prr, pa, pb, rfl, hLb, r1, r2, r3, r4, r5, r6, r7, r8⟩
   refine ⟨_, rfl, ?_⟩
   refine hK.out _ _ ⟨(hLb.cell (blt _ _ hHeld.1)).trans hHeld.1, (hLb.cell (blt _ _ hHeld.2.1)).trans hHeld.2.1, (hLb.cell (blt _ _ hHeld.2.2)).trans hHeld.2.2⟩ (fun hHeld => ?_)
   clear hK K
   refine nm 34 ?_
   exact norm_ (by simp only [putAll, Act.put, sI, sZ, sS]) (hCont (g, pl, pr, pll, plr, prl, prr, pa, pb) _ ⟨HBA.out.trans (hLb.mono hbA.size), hgs, (hLb.block _ (Array.getElem?_eq_some_iff.1 hbox).1).trans hbox, r1.below hLb, r2.below hLb, r3.below hLb, r4.below hLb, r5.below hLb, r6.below hLb, r7.below hLb, r8.below hLb⟩)
 rintro ⟨g, pl, pr, pll, plr, prl, prr, pa, pb⟩ w3 ⟨hF1, hF2, hF3, y1, y2, y3, y4, y5, y6, y7, y8⟩
 replace hF2 : w2.heap.size ≤ g := hF2
 replace hF3 : w3.heap[g]? = some (.cells #[.bool false, .pointer none, .pointer none, .pointer none, .pointer none, .pointer none, .pointer none, .pointer none, .pointer none, .pointer none, .bool false] 111 (0, 0)) := hF3
 have HY1 : Aside0 (Rep (fun k_ => SetC wg.heap.size l0 c k_ ∧ k_ < w2.heap.size) w3 (.pointer pl) (lT mir X)) := ⟨y1⟩
 have HY2 : Aside0 (Rep (fun k_ => SetC wg.heap.size l0 c k_ ∧ k_ < w2.heap.size) w3 (.pointer pr) (rT mir X)) := ⟨y2⟩
 have HY3 : Aside0 (Rep (fun k_ => SetC wg.heap.size l0 c k_ ∧ k_ < w2.heap.size) w3 (.pointer pll) (lT mir (lT mir X))) := ⟨y3⟩
 have HY4 : Aside0 (Rep (fun k_ => SetC wg.heap.size l0 c k_ ∧ k_ < w2.heap.size) w3 (.pointer plr) (rT mir (lT mir X))) := ⟨y4⟩
 have HY5 : Aside0 (Rep (fun k_ => SetC wg.heap.size l0 c k_ ∧ k_ < w2.heap.size) w3 (.pointer prl) (lT mir (rT mir X))) := ⟨y5⟩
 have HY6 : Aside0 (Rep (fun k_ => SetC wg.heap.size l0 c k_ ∧ k_ < w2.heap.size) w3 (.pointer prr) (rT mir (rT mir X))) := ⟨y6⟩
 have HY7 : Aside0 (Rep (fun k_ => SetC wg.heap.size l0 c k_ ∧ k_ < w2.heap.size) w3 (.pointer pa) (lT mir (lT mir (rT mir X)))) := ⟨y7⟩
 have HY8 : Aside0 (Rep (fun k_ => SetC wg.heap.size l0 c k_ ∧ k_ < w2.heap.size) w3 (.pointer pb) (rT mir (lT mir (rT mir X)))) := ⟨y8⟩
 have hHeld : w3.cell? ⟨wg.heap.size, c, none⟩ = some (.pointer (some ⟨wg.heap.size + 2 + 2 * c, 0, none⟩)) ∧ w3.cell? ⟨w.heap.size, 0, none⟩ = some (.int .i64 kind) ∧ w3.cell? ⟨w.heap.size, 1, none⟩ = some (.bool mir) := ⟨(hF1.cell (p := ⟨wg.heap.size, c, none⟩) hg2).trans HPC.out, (hF1.cell (p := ⟨w.heap.size, 0, none⟩) (Nat.lt_trans hg0 hg2)).trans HB0.out, (hF1.cell (p := ⟨w.heap.size, 1, none⟩) (Nat.lt_trans hg0 hg2)).trans HB1.out⟩
 obtain ⟨hz0, hz1, hz2, hz3, hz4, hz5, hz6, hz7, hz8, hz9, hz10⟩ := vc11 hF3
 have hfz0 := frz_of hF3 0
 have hfz1 := frz_of hF3 1
 have hfz2 := frz_of hF3 2
 have hfz3 := frz_of hF3 3
 have hfz4 := frz_of hF3 4
 have hfz5 := frz_of hF3 5
 have hfz6 := frz_of hF3 6
 have hfz7 := frz_of hF3 7
 have hfz8 := frz_of hF3 8
 have hfz9 := frz_of hF3 9
 have hfz10 := frz_of hF3 10
 have HF1 := Am hF1
 have HF3 := Am hF3
 clear hF1 hF3 y1 y2 y3 y4 y5 y6 y7 y8
 refine norm_ (a' := ?_) ?_ ?_
 rotate_left
 ·simp only [putAll, Act.put, sI, sZ, sS]
  rfl
 refine last_ (i := 10) (N := none) #[true, true, true, true, true, true, true, true, true, true, true] rfl rfl (by kernel_rfl) (by decide) (fun K hK => ?_)
 refine skip_ (w1 := ?_) (by rfl) rfl ?_ ?_
 rotate_left
 ·go_simp
  rfl
 refine hK.out _ _ ?_
 clear hK K
 refine done_ (by kernel_rfl) ?_
 try clear hHeld
 have hV := put11 HF3.out (.bool mir) (.pointer (some ⟨wg.heap.size + 2 + 2 * c, 0, none⟩)) (.pointer pl) (.pointer pr) (.pointer pll) (.pointer plr) (.pointer prl) (.pointer prr) (.pointer pa) (.pointer pb) (.bool rt)
 have hB := below11 HF1.out hF2 (.bool mir) (.pointer (some ⟨wg.heap.size + 2 + 2 * c, 0, none⟩)) (.pointer pl) (.pointer pr) (.pointer pll) (.pointer plr) (.pointer prl) (.pointer prr) (.pointer pa) (.pointer pb) (.bool rt)
 have hK : ∀ k_, k_ < w2.heap.size → (((((((((((w3.setCell ⟨g, 0, none⟩ (.bool mir)).setCell ⟨g, 1, none⟩ (.pointer (some ⟨wg.heap.size + 2 + 2 * c, 0, none⟩))).setCell ⟨g, 2, none⟩ (.pointer pl)).setCell ⟨g, 3, none⟩ (.pointer pr)).setCell ⟨g, 4, none⟩ (.pointer pll)).setCell ⟨g, 5, none⟩ (.pointer plr)).setCell ⟨g, 6, none⟩ (.pointer prl)).setCell ⟨g, 7, none⟩ (.pointer prr)).setCell ⟨g, 8, none⟩ (.pointer pa)).setCell ⟨g, 9, none⟩ (.pointer pb)).setCell ⟨g, 10, none⟩ (.bool rt)).heap[k_]? = w3.heap[k_]? := fun k_ hk_ => setc11 (by omega) (.bool mir) (.pointer (some ⟨wg.heap.size + 2 + 2 * c, 0, none⟩)) (.pointer pl) (.pointer pr) (.pointer pll) (.pointer plr) (.pointer prl) (.pointer prr) (.pointer pa) (.pointer pb) (.bool rt)
 clear hz0 hfz0 hz1 hfz1 hz2 hfz2 hz3 hfz3 hz4 hfz4 hz5 hfz5 hz6 hfz6 hz7 hfz7 hz8 hfz8 hz9 hfz9 hz10 hfz10 HF3 HF1
 generalize (((((((((((w3.setCell ⟨g, 0, none⟩ (.bool mir)).setCell ⟨g, 1, none⟩ (.pointer (some ⟨wg.heap.size + 2 + 2 * c, 0, none⟩))).setCell ⟨g, 2, none⟩ (.pointer pl)).setCell ⟨g, 3, none⟩ (.pointer pr)).setCell ⟨g, 4, none⟩ (.pointer pll)).setCell ⟨g, 5, none⟩ (.pointer plr)).setCell ⟨g, 6, none⟩ (.pointer prl)).setCell ⟨g, 7, none⟩ (.pointer prr)).setCell ⟨g, 8, none⟩ (.pointer pa)).setCell ⟨g, 9, none⟩ (.pointer pb)).setCell ⟨g, 10, none⟩ (.bool rt)) = w4 at hV hB hK ⊢
 have HRpl := Am (HY1.out.keptS (w' := w4) (fun k_ hk_ _ => hK k_ hk_.2))
 have HRpr := Am (HY2.out.keptS (w' := w4) (fun k_ hk_ _ => hK k_ hk_.2))
 have HRpll := Am (HY3.out.keptS (w' := w4) (fun k_ hk_ _ => hK k_ hk_.2))
 have HRplr := Am (HY4.out.keptS (w' := w4) (fun k_ hk_ _ => hK k_ hk_.2))
 have HRprl := Am (HY5.out.keptS (w' := w4) (fun k_ hk_ _ => hK k_ hk_.2))
 have HRprr := Am (HY6.out.keptS (w' := w4) (fun k_ hk_ _ => hK k_ hk_.2))
 have HRpa := Am (HY7.out.keptS (w' := w4) (fun k_ hk_ _ => hK k_ hk_.2))
 have HRpb := Am (HY8.out.keptS (w' := w4) (fun k_ hk_ _ => hK k_ hk_.2))
 have HRp := Am (HRX.out.below hB)
 have HV := Am hV
 have HB := Am hB
 clear HY1 HY2 HY3 HY4 HY5 HY6 HY7 HY8 hK
 have hk0 : w4.cell? ⟨w.heap.size, 0, none⟩ = some (.int .i64 kind) := (hB.cell (p := ⟨w.heap.size, 0, none⟩) (Nat.lt_trans hg0 hg2)).trans HB0.out
 have HK0 := Am hk0
 obtain ⟨hv0, hv1, hv2, hv3, hv4, hv5, hv6, hv7, hv8, hv9, hv10⟩ := vc11 hV
 clear hV hB HPC HB0 HB1
 go_wp2_with (fail)
 refine (can_any mir rt (some ⟨wg.heap.size + 2 + 2 * c, 0, none⟩) pl pr pll plr prl prr pa pb X _ HRp HRpl HRpr HRpll HRplr HRprl HRprr HRpa HRpb kind HKD.out).mono ?_
 rw [HCAN.out]
 rintro e w5 ⟨rfl, h5⟩
 have HB5 := Am (HB.out.trans (h5.mono HB.out.size))
 have H5 := Am h5
 have HV5 := Am ((h5.block _ (Array.getElem?_eq_some_iff.1 HV.out).1).trans HV.out)
 have hk5 := (h5.cell (blt _ _ HK0.out)).trans HK0.out
 clear h5 hv0 hv1 hv2 hv3 hv4 hv5 hv6 hv7 hv8 hv9 hv10 hk0 HV
 obtain ⟨hw0, hw1, hw2, hw3, hw4, hw5, hw6, hw7, hw8, hw9, hw10⟩ := vc11 HV5.out
 go_wp2_with (fail)
 refine (do_any (S := (fun k_ => (fun k_ => SetC wg.heap.size l0 c k_ ∧ k_ < w2.heap.size) k_ ∨ w5.heap.size ≤ k_)) mir rt (some ⟨wg.heap.size + 2 + 2 * c, 0, none⟩) pl pr pll plr prl prr pa pb X _ (fun _ hk_ => .inr hk_) ⟨(HRp.out.below H5.out).mono (fun _ hk_ => .inl hk_)⟩ ⟨(HRpl.out.below H5.out).mono (fun _ hk_ => .inl hk_)⟩ ⟨(HRpr.out.below H5.out).mono (fun _ hk_ => .inl hk_)⟩ ⟨(HRpll.out.below H5.out).mono (fun _ hk_ => .inl hk_)⟩ ⟨(HRplr.out.below H5.out).mono (fun _ hk_ => .inl hk_)⟩ ⟨(HRprl.out.below H5.out).mono (fun _ hk_ => .inl hk_)⟩ ⟨(HRprr.out.below H5.out).mono (fun _ hk_ => .inl hk_)⟩ ⟨(HRpa.out.below H5.out).mono (fun _ hk_ => .inl hk_)⟩ ⟨(HRpb.out.below H5.out).mono (fun _ hk_ => .inl hk_)⟩ kind HKD.out HXN.out HCAN.out).mono ?_
 rintro e w6 ⟨q, W6, rfl, h6a, h6b, h6c⟩
 have HB6 := Am ((HB5.out.trans (h6a.mono HB5.out.size)).trans (h6b.mono (Nat.le_trans HB5.out.size h6a.size)))
 have hge6 : w5.heap.size ≤ W6.heap.size := h6a.size
 have HTOP := Am h6c
 have HTB := Am h6b
 clear h6a h6b h6c hw0 hw1 hw2 hw3 hw4 hw5 hw6 hw7 hw8 hw9 hw10
 have hrf := HRF.out
 subst hrf
 obtain ⟨b6, n6, q6, L6, R6, vl6, vr6, hq6, hdo6, hge6b, hcl6, _, _, _⟩ := HTOP.out
 injection hq6 with hq6
 subst hq6
 have hcu6 : w6.cell? ⟨b6, 2, none⟩ = some (.int .i64 n6.f2) := (cell_of hcl6 2).trans rfl
 have hwt : wt (doT mir X kind) = n6.f2 := by rw [hdo6]; rfl
 have HREP := Am (HTOP.out.rep HTB.out)
 rw [hwt] at hbig
 clear hdo6 hcl6 hwt
 have HB7 := HB6
 have dbig : decide (1000000 < n6.f2) = false := decide_eq_false (by omega)
 clear hbig
 go_wp2
 have hf2 := forest2_start (forest_kept HFO.out HB7.out) c (some ⟨b6, 0, none⟩)
 have HF2 := Am hf2
 clear hf2
 have hfin := do_ok_fin w T1
 have HFIN := Am hfin
 clear hfin
 generalize w6 = w7 at HB7 HF2 HREP ⊢
 go_loopg [59] l0.length (fun gk vi wr => ∃ i : Nat, vi = .int .i64 (i : Int) ∧ i ≤ l0.length ∧ Aside0 (gk + i = l0.length) ∧ Aside0 (Forest2 wg wr l0 c (some ⟨b6, 0, none⟩) i) ∧ Aside0 (Rep (fun k_ => (fun k_ => SetC wg.heap.size l0 c k_ ∧ k_ < w2.heap.size) k_ ∨ w5.heap.size ≤ k_) wr (.pointer (some ⟨b6, 0, none⟩)) (doT mir X kind)))
 case atStart => exact ⟨0, rfl, Nat.zero_le _, ⟨by omega⟩, HF2, HREP⟩
 case round =>
  clear HF2 HREP
  obtain ⟨i, rfl, hil, HK, HF2, HREP⟩ := hrel
  have hpc : wr.cell? ⟨wg.heap.size, c, none⟩ = some (.pointer (some ⟨wg.heap.size + 2 + 2 * c, 0, none⟩)) := rowIs_cell HF2.out.ptrs c hcl
  by_cases hlt : i < l0.length
  ·have dlt : decide (i < l0.length) = true := decide_eq_true hlt
   have hpi : wr.cell? ⟨wg.heap.size, i, none⟩ = some (.pointer (some ⟨wg.heap.size + 2 + 2 * i, 0, none⟩)) := rowIs_cell HF2.out.ptrs i hlt
   have hni := HF2.out.nodes i hlt
   simp only [Nat.lt_irrefl, false_and, if_false] at hni
   have hf7 := frz_of hni 7
   have hf8 := frz_of hni 8
   have hc7 : wr.cell? ⟨wg.heap.size + 2 + 2 * i, 7, none⟩ = some (.pointer (lpV wg.heap.size l0 i)) := (cell_of hni 7).trans rfl
   have hc8 : wr.cell? ⟨wg.heap.size + 2 + 2 * i, 8, none⟩ = some (.pointer (rpV wg.heap.size l0 i)) := (cell_of hni 8).trans rfl
   clear hni
   by_cases h4 : 0 ≤ (l0.getD i z34).f4
   ·rw [lpV, if_pos h4, nb] at hc7
    rw [rpV, if_pos h4, nb] at hc8
    have hk := HT.out.kids i hlt h4
    have hnc := HF2.out.nodes c hcl
    have hnl := HF2.out.nodes (l0.getD i z34).f4.toNat (by omega)
    have hnr := HF2.out.nodes (l0.getD i z34).f5.toNat (by omega)
    have hes := eqp_same wr ⟨wg.heap.size + 2 + 2 * c, 0, none⟩
    by_cases el : (l0.getD i z34).f4.toNat = c
    ·have er : (l0.getD i z34).f5.toNat ≠ c := fun e_ => hk.2.2.2 (by omega)
     have hst := forest2_left HF2.out h4 el er
     have hrp := HREP.out.keptS (w' := wr.setCell ⟨wg.heap.size + 2 + 2 * i, 7, none⟩ (.pointer (some ⟨b6, 0, none⟩))) (fun k_ hk_ _ => Below.heap_setCell _ _ _ _ (by show k_ ≠ wg.heap.size + 2 + 2 * i; rcases hk_ with ⟨⟨j_, hj1, _, hj3⟩, _⟩ | hk_; rintro rfl; exact hj3 (by rw [show j_ = i by omega]; exact ⟨h4, .inl el⟩); have hz_ := (Array.getElem?_eq_some_iff.1 (HFO.out.nodes i hlt)).1; have hz2 := HB5.out.size; omega))
     have HST := Am hst
     have HRP := Am hrp
     rw [el] at hc7
     clear hst hrp hk er el h4 hc8 hnc hnl hnr
     go_wp2
     go_roundg (gk - 1)
     case measure => have := HK.out; omega
     case rel => exact ⟨i + 1, by go_num, by omega, ⟨by have := HK.out; omega⟩, HST, HRP⟩
    ·have hel := eqp_other wr (a := ⟨wg.heap.size + 2 + 2 * c, 0, none⟩) (b := ⟨wg.heap.size + 2 + 2 * (l0.getD i z34).f4.toNat, 0, none⟩) (fun e_ => by injection e_ with e_; omega) hnc hnl
     by_cases er : (l0.getD i z34).f5.toNat = c
     ·have hst := forest2_right HF2.out h4 el er
      have hrp := HREP.out.keptS (w' := wr.setCell ⟨wg.heap.size + 2 + 2 * i, 8, none⟩ (.pointer (some ⟨b6, 0, none⟩))) (fun k_ hk_ _ => Below.heap_setCell _ _ _ _ (by show k_ ≠ wg.heap.size + 2 + 2 * i; rcases hk_ with ⟨⟨j_, hj1, _, hj3⟩, _⟩ | hk_; rintro rfl; exact hj3 (by rw [show j_ = i by omega]; exact ⟨h4, .inr er⟩); have hz_ := (Array.getElem?_eq_some_iff.1 (HFO.out.nodes i hlt)).1; have hz2 := HB5.out.size; omega))
      have HST := Am hst
      have HRP := Am hrp
      rw [er] at hc8
      clear hst hrp hk h4 hnc hnl hnr er el
      generalize (l0.getD i z34).f4.toNat = cl at hc7 hel
      go_wp2
      go_roundg (gk - 1)
      case measure => have := HK.out; omega
      case rel => exact ⟨i + 1, by go_num, by omega, ⟨by have := HK.out; omega⟩, HST, HRP⟩
     ·have her := eqp_other wr (a := ⟨wg.heap.size + 2 + 2 * c, 0, none⟩) (b := ⟨wg.heap.size + 2 + 2 * (l0.getD i z34).f5.toNat, 0, none⟩) (fun e_ => by injection e_ with e_; omega) hnc hnr
      have hst := forest2_skip HF2.out (fun hc_ => by rcases hc_.2 with e_ | e_; exact el e_; exact er e_)
      have HST := Am hst
      clear hst hk h4 el er hnc hnl hnr
      generalize (l0.getD i z34).f4.toNat = cl at hc7 hel
      generalize (l0.getD i z34).f5.toNat = cr at hc8 her
      go_wp2
      go_roundg (gk - 1)
      case measure => have := HK.out; omega
      case rel => exact ⟨i + 1, by go_num, by omega, ⟨by have := HK.out; omega⟩, HST, HREP⟩
   ·rw [lpV, if_neg h4] at hc7
    rw [rpV, if_neg h4] at hc8
    have hst := forest2_skip HF2.out (fun hc_ => h4 hc_.1)
    have HST := Am hst
    clear hst h4
    go_wp2
    go_roundg (gk - 1)
    case measure => have := HK.out; omega
    case rel => exact ⟨i + 1, by go_num, by omega, ⟨by have := HK.out; omega⟩, HST, HREP⟩
  ·obtain rfl : i = l0.length := by omega
   have dlt : decide (l0.length < l0.length) = false := decide_eq_false (Nat.lt_irrefl _)
   have hp0 : wr.cell? ⟨wg.heap.size, 0, none⟩ = some (.pointer (some ⟨wg.heap.size + 2 + 2 * 0, 0, none⟩)) := rowIs_cell HF2.out.ptrs 0 (by omega)
   have h0l : 0 < l0.length := by omega
   clear hlt hpc
   go_wp2_with (fail)
   refine (flat_any _ T1 _ (rep_repl HF2.out HREP.out K1 0 T1 HT1.out) HFULL.out HSZ.out).mono ?_
   rintro e w8 ⟨v8, rfl, h8a, h8b⟩
   have HFP := Am (HFIN.out wg wr v8 w8 HBW.out HF2.out.bel ⟨v8, rfl, h8a, h8b⟩)
   obtain ⟨A8, c8, rfl⟩ := Kd.R_slice h8a
   clear h8a h8b
   go_wp2
   go_ret2
   exact HFP.out
end Go.Proofs.Ytgleaefhflamnaa.T
