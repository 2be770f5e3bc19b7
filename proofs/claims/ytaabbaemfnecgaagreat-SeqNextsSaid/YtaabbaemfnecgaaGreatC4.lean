/- A part of the proof: see YtaabbaemfnecgaaGreatLawSeqNexts. -/
import Derived.IntWalk
import Derived.BigRegion
import Derived.Deep.OwnRows
import Derived.Test.YtaabbaemfnecgaaGreatC3
set_option linter.unusedVariables false
set_option linter.unusedSimpArgs false
set_option maxHeartbeats 32000000
set_option maxRecDepth 100000
namespace Go.Proofs.YtaabbaemfnecgaaGreat.T
open Go.RowKit Go.Proofs.YtaabbaemfnecgaaGreatW.PrintWords Go.Proofs.YtaabbaemfnecgaaGreatW.PrintLast Go.Proofs.YtaabbaemfnecgaaGreatW.PrintMore
attribute [local go_sem] Tryz.underlying69
section
attribute [local go_sem] max2_int min2_int max_two min_two max_three min_three max_four min_four
def weigh_Even.l0 : Nat → List Int → List Int → Int → Int → Option (Int × Bool × Int)
 | 0, _, _, _, _ => none
 | k + 1, x5, x20, x21, x22 => if x22 < x21 then (if 0 ≤ x22 then (if x22 < (x20.length : Int) then (if 0 < (x5.length : Int) then (if (rd x20 x22) = (rd x5 0) then (weigh_Even.l0 k x5 x20 x21 (wrap64 (x22 + 1))) else (some (0, false, 0))) else (none)) else (none)) else (none)) else (if 0 < (x5.length : Int) then (some (rd x5 0, true, 0)) else (none))
def weigh_Even.f (k : Nat) (l0 : List (S69)) : Option (Int × Bool × Int) := (weigh_Sums.f k l0).bind fun bt188 => (if bt188.2 = 0 then (if (bt188.1.length : Int) = 0 then (some (0, true, 0)) else (weigh_Even.l0 k bt188.1 bt188.1 (bt188.1.length : Int) 0)) else (some (0, false, bt188.2)))
theorem weigh_Even.mono_l : ∀ k, (∀ y0 y1 y2 y3, LeO (weigh_Even.l0 k y0 y1 y2 y3) (weigh_Even.l0 (k + 1) y0 y1 y2 y3))
 | 0 => fun _ _ _ _ r h => by simp [weigh_Even.l0] at h
 | k + 1 => by
  have ih0 := weigh_Even.mono_l k
  ·intro y0 y1 y2 y3
   unfold weigh_Even.l0
   repeat' with_reducible first | exact ih0 _ _ _ _ | exact weigh_Sums.mono _ _ | exact LeO.refl _ | exact LeO.none _ | refine LeO.ite ?_ ?_ | refine LeO.bind ?_ (fun _ => ?_)
theorem weigh_Even.mono : ∀ a0 k, LeO (weigh_Even.f k a0) (weigh_Even.f (k + 1) a0) := by
 intro a0 k
 have ih0 := weigh_Even.mono_l k
 unfold weigh_Even.f
 repeat' with_reducible first | exact ih0 _ _ _ _ | exact weigh_Sums.mono _ _ | exact LeO.refl _ | exact LeO.none _ | refine LeO.ite ?_ ?_ | refine LeO.bind ?_ (fun _ => ?_)
theorem weigh_Even.calls (k : Nat) (A0 : Option Addr) (c0 : Nat) (l0 : List (S69)) (r1 : Int) (r2 : Bool) (r3 : Int) (w : World) (hr0 : Kd.C k69 w A0 l0.length l0) (hc0 : l0.length ≤ c0) (h : weigh_Even.f k l0 = some (r1, r2, r3)) :
  Calls Tryz.prog 81 #[.slice A0 l0.length c0] w (RB w (.tuple #[.int .i64 r1, .bool r2, .int .i64 r3])) := by
 have HR0 := Am hr0
 have HC0 := Am hc0
 clear hr0 hc0
 have HB := Br w
 have H := h
 unfold weigh_Even.f at H
 clear h
 obtain ⟨⟨t188, t189⟩, A2, H⟩ := bo H
 dsimp only at H
 by_cases c3 : t189 = 0
 ·rw [if_pos c3] at H
  obtain ⟨c3b0, c3b1⟩ := eq2 c3
  clear c3
  by_cases c4 : (t188.length : Int) = 0
  ·rw [if_pos c4] at H
   obtain ⟨c4b0, c4b1⟩ := eq2 c4
   clear c4
   simp only [Option.some.injEq, Prod.mk.injEq] at H
   obtain ⟨rfl, rfl, rfl⟩ := H
   go_enter Tryz.func81, Tryz.ntmps81
   go_wp2_with (first | ((with_reducible refine Gc 85 rfl ?_); refine gL 11 Tryz.func85 #[.slice A0 l0.length c0] ?_; (with_reducible refine (weigh_Sums.calls k _ _ l0 t188 t189 _ (kc HR0.out) HC0.out A2.out).mono ?_); rintro e w5 ⟨v190, rfl, ho0, hb⟩; refine ⟨_, rfl, ?_⟩; replace HO191 := Am (Kd.R_lower ho0 (below_size bq)); replace HB := Am (below_step bq hb); (try clear hb); (try clear hb2); (try clear hk); (try clear hi); (try clear ho0); obtain ⟨Ao6, co6, eo6⟩ := Kd.R_slice HO191.out; subst eo6))
   go_ret3
   exact ⟨er, bq⟩
  ·rw [if_neg c4] at H
   obtain ⟨c4b0, c4b1⟩ := ne2 c4
   have c4b2 : ¬ (t188 = []) := fun h_ => c4 (by rw [h_]; rfl)
   have H' := Am H
   clear H
   go_enter Tryz.func81, Tryz.ntmps81
   go_wp2_with (first | ((with_reducible refine Gc 85 rfl ?_); refine gL 11 Tryz.func85 #[.slice A0 l0.length c0] ?_; (with_reducible refine (weigh_Sums.calls k _ _ l0 t188 t189 _ (kc HR0.out) HC0.out A2.out).mono ?_); rintro e w7 ⟨v190, rfl, ho0, hb⟩; refine ⟨_, rfl, ?_⟩; replace HO191 := Am (Kd.R_lower ho0 (below_size bq)); replace HB := Am (below_step bq hb); (try clear hb); (try clear hb2); (try clear hk); (try clear hi); (try clear ho0); obtain ⟨Ao8, co8, eo8⟩ := Kd.R_slice HO191.out; subst eo8))
   go_loopg [22] k (fun kq v22 w' => ∃ (x22_1 : Int), v22 = .int .i64 x22_1 ∧ Aside0 (weigh_Even.l0 kq t188 t188 (t188.length : Int) x22_1 = some (r1, r2, r3)) ∧ Aside0 (kq ≤ k) ∧ Aside0 (Kd.R (Kd.int .i64) 3 w' w.heap.size (fun _ => True) (.slice Ao8 t188.length co8) t188) ∧ Aside0 (Kd.R (Kd.int .i64) 3 w' w.heap.size (fun _ => True) (.slice Ao8 t188.length co8) t188) ∧ Aside0 (Below w.heap.size w w'))
   case atStart => exact ⟨(0), (by first | rfl | (simp; done) | (simp [*]; done)), H', ⟨Nat.le_refl _⟩, ⟨kr HO191.out⟩, ⟨kr HO191.out⟩, ⟨bq⟩⟩
   case round =>
    clear H'
    clear c3b0 c3b1 c4 c4b0 c4b1 c4b2
    obtain ⟨x22_1, rfl, HA, HK1, HO_5, HO_20, HB⟩ := hrel
    cases gk with
    | zero => exact absurd HA.out (by simp [weigh_Even.l0])
    | succ k1 =>
     have H := HA.out
     clear HA
     simp only [weigh_Even.l0] at H
     by_cases c9 : x22_1 < (t188.length : Int)
     ·rw [if_pos c9] at H
      have c9b0 := decide_eq_true c9
      clear c9
      obtain ⟨c10b0, H⟩ := ge H
      obtain ⟨c11b0, H⟩ := ge H
      obtain ⟨c12, H⟩ := gd H
      have c12b0 := decide_eq_true c12
      have c12b1 : decide (0 < t188.length) = true := decide_eq_true (by omega)
      clear c12
      by_cases c13 : (rd t188 x22_1) = (rd t188 0)
      ·rw [if_pos c13] at H
       obtain ⟨c13b0, c13b1⟩ := eq2 c13
       clear c13
       have H' := Am H
       clear H
       have p192 : 0 ≤ (x22_1 : Int) := da
       have q192 : x22_1 < (t188.length : Int) := da
       obtain ⟨ad192, e192, hx192_0⟩ := Kd.at_int (Kd.R_reads' HO_20.out).2.2 x22_1 p192 q192
       cases e192
       replace p192 := eq_true p192
       replace q192 := eq_true q192
       have p193 : 0 ≤ (0 : Int) := (by omega)
       have q193 : 0 < (t188.length : Int) := da
       obtain ⟨ad193, e193, hx193_0⟩ := Kd.at_int (Kd.R_reads' HO_5.out).2.2 0 p193 q193
       obtain rfl : ad192 = ad193 := (by injection e193)
       have qi193 : (0 < t188.length) = True := eq_true (by omega)
       (try rw [show ((0 : Int)).toNat = 0 from rfl] at hx193_0)
       (try rw [Addr.add_zero'] at hx193_0)
       replace p193 := eq_true p193
       replace q193 := eq_true q193
       go_wp2
       go_roundg k1
       case measure => have := HK1.out; omega
       case rel => exact ⟨(wrap64 (x22_1 + 1)), (by first | rfl | (simp; done) | (simp [*]; done)), H', ⟨by have := HK1.out; omega⟩, ⟨kr HO_5.out⟩, ⟨kr HO_20.out⟩, ⟨bq⟩⟩
      ·rw [if_neg c13] at H
       obtain ⟨c13b0, c13b1⟩ := ne2 c13
       simp only [Option.some.injEq, Prod.mk.injEq] at H
       obtain ⟨rfl, rfl, rfl⟩ := H
       have p192 : 0 ≤ (x22_1 : Int) := da
       have q192 : x22_1 < (t188.length : Int) := da
       obtain ⟨ad192, e192, hx192_0⟩ := Kd.at_int (Kd.R_reads' HO_20.out).2.2 x22_1 p192 q192
       cases e192
       replace p192 := eq_true p192
       replace q192 := eq_true q192
       have p193 : 0 ≤ (0 : Int) := (by omega)
       have q193 : 0 < (t188.length : Int) := da
       obtain ⟨ad193, e193, hx193_0⟩ := Kd.at_int (Kd.R_reads' HO_5.out).2.2 0 p193 q193
       obtain rfl : ad192 = ad193 := (by injection e193)
       have qi193 : (0 < t188.length) = True := eq_true (by omega)
       (try rw [show ((0 : Int)).toNat = 0 from rfl] at hx193_0)
       (try rw [Addr.add_zero'] at hx193_0)
       replace p193 := eq_true p193
       replace q193 := eq_true q193
       go_wp2
       go_ret3
       exact ⟨er, bq⟩
     ·rw [if_neg c9] at H
      have c9b0 := decide_eq_false c9
      clear c9
      obtain ⟨c14, H⟩ := gd H
      have c14b0 := decide_eq_true c14
      have c14b1 : decide (0 < t188.length) = true := decide_eq_true (by omega)
      clear c14
      simp only [Option.some.injEq, Prod.mk.injEq] at H
      obtain ⟨rfl, rfl, rfl⟩ := H
      have p194 : 0 ≤ (0 : Int) := (by omega)
      have q194 : 0 < (t188.length : Int) := da
      obtain ⟨ad194, e194, hx194_0⟩ := Kd.at_int (Kd.R_reads' HO_5.out).2.2 0 p194 q194
      cases e194
      have qi194 : (0 < t188.length) = True := eq_true (by omega)
      (try rw [show ((0 : Int)).toNat = 0 from rfl] at hx194_0)
      (try rw [Addr.add_zero'] at hx194_0)
      replace p194 := eq_true p194
      replace q194 := eq_true q194
      go_wp2
      go_ret3
      exact ⟨er, bq⟩
 ·rw [if_neg c3] at H
  obtain ⟨c3b0, c3b1⟩ := ne2 c3
  simp only [Option.some.injEq, Prod.mk.injEq] at H
  obtain ⟨rfl, rfl, rfl⟩ := H
  go_enter Tryz.func81, Tryz.ntmps81
  go_wp2_with (first | ((with_reducible refine Gc 85 rfl ?_); refine gL 11 Tryz.func85 #[.slice A0 l0.length c0] ?_; (with_reducible refine (weigh_Sums.calls k _ _ l0 t188 t189 _ (kc HR0.out) HC0.out A2.out).mono ?_); rintro e w15 ⟨v190, rfl, ho0, hb⟩; refine ⟨_, rfl, ?_⟩; replace HO191 := Am (Kd.R_lower ho0 (below_size bq)); replace HB := Am (below_step bq hb); (try clear hb); (try clear hb2); (try clear hk); (try clear hi); (try clear ho0)))
  go_ret3
  exact ⟨er, bq⟩
def weigh_Sound.l0 : Nat → List (S69) → Bool → List Int → Int → Int → Option (Bool × Int)
 | 0, _, _, _, _, _ => none
 | k + 1, x0, x5, x27, x28, x29 => if x29 < x28 then (if 0 ≤ x29 then (if x29 < (x27.length : Int) then (if x29 = 0 then (if 0 ≤ (rd x27 x29) then (if (rd x27 x29) < (x0.length : Int) then (if ((rd_T69 x0 (rd x27 x29)).f2) = 1 then (if ((rd_T69 x0 (rd x27 x29)).f4) < 0 then (if ((rd_T69 x0 (rd x27 x29)).f2) = 0 then (some (false, 0)) else (weigh_Sound.l0 k x0 x5 x27 x28 (wrap64 (x29 + 1)))) else (weigh_Sound.l0 k x0 x5 x27 x28 (wrap64 (x29 + 1)))) else (some (false, 0))) else (none)) else (none)) else (if 0 ≤ (rd x27 x29) then (if (rd x27 x29) < (x0.length : Int) then (if ((rd_T69 x0 (rd x27 x29)).f4) < 0 then (if ((rd_T69 x0 (rd x27 x29)).f2) = 0 then (some (false, 0)) else (weigh_Sound.l0 k x0 x5 x27 x28 (wrap64 (x29 + 1)))) else (weigh_Sound.l0 k x0 x5 x27 x28 (wrap64 (x29 + 1)))) else (none)) else (none))) else (none)) else (none)) else (some (x5, 0))
def weigh_Sound.f (k : Nat) (l0 : List (S69)) : Option (Bool × Int) := (weigh_Even.f k l0).bind fun bt195 => (if bt195.2.2 = 0 then ((weigh_keys.f k l0).bind fun bt198 => (weigh_Sound.l0 k l0 bt195.2.1 bt198.1 (bt198.1.length : Int) 0)) else (some (false, bt195.2.2)))
theorem weigh_Sound.mono_l : ∀ k, (∀ y0 y1 y2 y3 y4, LeO (weigh_Sound.l0 k y0 y1 y2 y3 y4) (weigh_Sound.l0 (k + 1) y0 y1 y2 y3 y4))
 | 0 => fun _ _ _ _ _ r h => by simp [weigh_Sound.l0] at h
 | k + 1 => by
  have ih0 := weigh_Sound.mono_l k
  ·intro y0 y1 y2 y3 y4
   unfold weigh_Sound.l0
   repeat' with_reducible first | exact ih0 _ _ _ _ _ | exact weigh_Even.mono _ _ | exact weigh_keys.mono _ _ | exact LeO.refl _ | exact LeO.none _ | refine LeO.ite ?_ ?_ | refine LeO.bind ?_ (fun _ => ?_)
theorem weigh_Sound.mono : ∀ a0 k, LeO (weigh_Sound.f k a0) (weigh_Sound.f (k + 1) a0) := by
 intro a0 k
 have ih0 := weigh_Sound.mono_l k
 unfold weigh_Sound.f
 repeat' with_reducible first | exact ih0 _ _ _ _ _ | exact weigh_Even.mono _ _ | exact weigh_keys.mono _ _ | exact LeO.refl _ | exact LeO.none _ | refine LeO.ite ?_ ?_ | refine LeO.bind ?_ (fun _ => ?_)
theorem weigh_Sound.calls (k : Nat) (A0 : Option Addr) (c0 : Nat) (l0 : List (S69)) (r1 : Bool) (r2 : Int) (w : World) (hr0 : Kd.C k69 w A0 l0.length l0) (hc0 : l0.length ≤ c0) (h : weigh_Sound.f k l0 = some (r1, r2)) :
  Calls Tryz.prog 42 #[.slice A0 l0.length c0] w (RB w (.tuple #[.bool r1, .int .i64 r2])) := by
 have HR0 := Am hr0
 have HC0 := Am hc0
 clear hr0 hc0
 have HB := Br w
 have H := h
 unfold weigh_Sound.f at H
 clear h
 obtain ⟨⟨t195, t196, t197⟩, A2, H⟩ := bo H
 dsimp only at H
 by_cases c3 : t197 = 0
 ·rw [if_pos c3] at H
  obtain ⟨c3b0, c3b1⟩ := eq2 c3
  clear c3
  obtain ⟨⟨t198, t199, t200⟩, A4, H⟩ := bo H
  dsimp only at H
  have H' := Am H
  clear H
  go_enter Tryz.func42, Tryz.ntmps42
  go_wp2_with (first | ((with_reducible refine Gc 81 rfl ?_); refine gL 14 Tryz.func81 #[.slice A0 l0.length c0] ?_; (with_reducible refine (weigh_Even.calls k _ _ l0 t195 t196 t197 _ (kc HR0.out) HC0.out A2.out).mono ?_); rintro e w5 ⟨rfl, hb⟩; refine ⟨_, rfl, ?_⟩; replace HB := Am (below_step bq hb); (try clear hb)) | ((with_reducible refine Gc 82 rfl ?_); refine gL 23 Tryz.func82 #[.slice A0 l0.length c0] ?_; (with_reducible refine (weigh_keys.calls k _ _ l0 t198 t199 t200 _ (kc (Kd.C_below HR0.out HB.out)) HC0.out A4.out).mono ?_); rintro e w6 ⟨v201, v203, rfl, ho0, ho1, hb⟩; refine ⟨_, rfl, ?_⟩; replace HO202 := Am (Kd.R_lower ho0 (below_size bq)); replace HO204 := Am (Kd.R_lower ho1 (below_size bq)); replace HB := Am (below_step bq hb); (try clear hb); (try clear hb2); (try clear hk); (try clear hi); (try clear ho0); (try clear ho1); obtain ⟨Ao7, co7, eo7⟩ := Kd.R_slice HO202.out; subst eo7))
  go_loopg [29] k (fun kq v29 w' => ∃ (x29_1 : Int), v29 = .int .i64 x29_1 ∧ Aside0 (weigh_Sound.l0 kq l0 t196 t198 (t198.length : Int) x29_1 = some (r1, r2)) ∧ Aside0 (kq ≤ k) ∧ Aside0 (Kd.R (Kd.int .i64) 3 w' w.heap.size (fun _ => True) (.slice Ao7 t198.length co7) t198) ∧ Aside0 (Below w.heap.size w w'))
  case atStart => exact ⟨(0), (by first | rfl | (simp; done) | (simp [*]; done)), H', ⟨Nat.le_refl _⟩, ⟨by (with_reducible repeat (first | apply Kd.R_alloc | apply Kd.R_drewN | apply Kd.R_drew)); exact Kd.R_mono HO202.out (fun _ hk => trivial)⟩, ⟨bq⟩⟩
  case round =>
   clear H'
   clear c3b0 c3b1
   obtain ⟨x29_1, rfl, HA, HK1, HO_27, HB⟩ := hrel
   cases gk with
   | zero => exact absurd HA.out (by simp [weigh_Sound.l0])
   | succ k1 =>
    have H := HA.out
    clear HA
    simp only [weigh_Sound.l0] at H
    by_cases c8 : x29_1 < (t198.length : Int)
    ·rw [if_pos c8] at H
     have c8b0 := decide_eq_true c8
     clear c8
     obtain ⟨c9b0, H⟩ := ge H
     obtain ⟨c10b0, H⟩ := ge H
     by_cases c11 : x29_1 = 0
     ·rw [if_pos c11] at H
      obtain ⟨c11b0, c11b1⟩ := eq2 c11
      clear c11
      obtain ⟨c12b0, H⟩ := ge H
      obtain ⟨c13b0, H⟩ := ge H
      by_cases c14 : ((rd_T69 l0 (rd t198 x29_1)).f2) = 1
      ·rw [if_pos c14] at H
       obtain ⟨c14b0, c14b1⟩ := eq2 c14
       clear c14
       by_cases c15 : ((rd_T69 l0 (rd t198 x29_1)).f4) < 0
       ·rw [if_pos c15] at H
        have c15b0 := decide_eq_true c15
        clear c15
        by_cases c16 : ((rd_T69 l0 (rd t198 x29_1)).f2) = 0
        ·rw [if_pos c16] at H
         obtain ⟨c16b0, c16b1⟩ := eq2 c16
         clear c16
         simp only [Option.some.injEq, Prod.mk.injEq] at H
         obtain ⟨rfl, rfl⟩ := H
         have p205 : 0 ≤ (x29_1 : Int) := da
         have q205 : x29_1 < (t198.length : Int) := da
         obtain ⟨ad205, e205, hx205_0⟩ := Kd.at_int (Kd.R_reads' HO_27.out).2.2 x29_1 p205 q205
         cases e205
         replace p205 := eq_true p205
         replace q205 := eq_true q205
         obtain ⟨ad206, e206, hx206_0, hx206_1, hx206_2, hx206_3, hx206_4, hx206_5, p206, q206⟩ := t6d HB.out HR0.out (rd t198 x29_1)
         cases e206
         obtain ⟨ad207, e207, hx207_0, hx207_1, hx207_2, hx207_3, hx207_4, hx207_5, p207, q207⟩ := t6d HB.out HR0.out (rd t198 x29_1)
         obtain rfl : ad206 = ad207 := (by injection e207)
         obtain ⟨ad208, e208, hx208_0, hx208_1, hx208_2, hx208_3, hx208_4, hx208_5, p208, q208⟩ := t6d HB.out HR0.out (rd t198 x29_1)
         obtain rfl : ad206 = ad208 := (by injection e208)
         go_wp2
         go_ret2
         exact ⟨er, bq⟩
        ·rw [if_neg c16] at H
         obtain ⟨c16b0, c16b1⟩ := ne2 c16
         have H' := Am H
         clear H
         have p205 : 0 ≤ (x29_1 : Int) := da
         have q205 : x29_1 < (t198.length : Int) := da
         obtain ⟨ad205, e205, hx205_0⟩ := Kd.at_int (Kd.R_reads' HO_27.out).2.2 x29_1 p205 q205
         cases e205
         replace p205 := eq_true p205
         replace q205 := eq_true q205
         obtain ⟨ad206, e206, hx206_0, hx206_1, hx206_2, hx206_3, hx206_4, hx206_5, p206, q206⟩ := t6d HB.out HR0.out (rd t198 x29_1)
         cases e206
         obtain ⟨ad207, e207, hx207_0, hx207_1, hx207_2, hx207_3, hx207_4, hx207_5, p207, q207⟩ := t6d HB.out HR0.out (rd t198 x29_1)
         obtain rfl : ad206 = ad207 := (by injection e207)
         obtain ⟨ad208, e208, hx208_0, hx208_1, hx208_2, hx208_3, hx208_4, hx208_5, p208, q208⟩ := t6d HB.out HR0.out (rd t198 x29_1)
         obtain rfl : ad206 = ad208 := (by injection e208)
         exact dd23
       ·rw [if_neg c15] at H
        have c15b0 := decide_eq_false c15
        clear c15
        exact dd19
      ·rw [if_neg c14] at H
       obtain ⟨c14b0, c14b1⟩ := ne2 c14
       simp only [Option.some.injEq, Prod.mk.injEq] at H
       obtain ⟨rfl, rfl⟩ := H
       have p205 : 0 ≤ (x29_1 : Int) := da
       have q205 : x29_1 < (t198.length : Int) := da
       obtain ⟨ad205, e205, hx205_0⟩ := Kd.at_int (Kd.R_reads' HO_27.out).2.2 x29_1 p205 q205
       cases e205
       replace p205 := eq_true p205
       replace q205 := eq_true q205
       obtain ⟨ad206, e206, hx206_0, hx206_1, hx206_2, hx206_3, hx206_4, hx206_5, p206, q206⟩ := t6d HB.out HR0.out (rd t198 x29_1)
       cases e206
       go_wp2
       go_ret2
       exact ⟨er, bq⟩
     ·rw [if_neg c11] at H
      obtain ⟨c11b0, c11b1⟩ := ne2 c11
      obtain ⟨c17b0, H⟩ := ge H
      obtain ⟨c18b0, H⟩ := ge H
      by_cases c19 : ((rd_T69 l0 (rd t198 x29_1)).f4) < 0
      ·rw [if_pos c19] at H
       have c19b0 := decide_eq_true c19
       clear c19
       by_cases c20 : ((rd_T69 l0 (rd t198 x29_1)).f2) = 0
       ·rw [if_pos c20] at H
        obtain ⟨c20b0, c20b1⟩ := eq2 c20
        clear c20
        simp only [Option.some.injEq, Prod.mk.injEq] at H
        obtain ⟨rfl, rfl⟩ := H
        have p205 : 0 ≤ (x29_1 : Int) := da
        have q205 : x29_1 < (t198.length : Int) := da
        obtain ⟨ad205, e205, hx205_0⟩ := Kd.at_int (Kd.R_reads' HO_27.out).2.2 x29_1 p205 q205
        cases e205
        replace p205 := eq_true p205
        replace q205 := eq_true q205
        obtain ⟨ad209, e209, hx209_0, hx209_1, hx209_2, hx209_3, hx209_4, hx209_5, p209, q209⟩ := t6d HB.out HR0.out (rd t198 x29_1)
        cases e209
        obtain ⟨ad210, e210, hx210_0, hx210_1, hx210_2, hx210_3, hx210_4, hx210_5, p210, q210⟩ := t6d HB.out HR0.out (rd t198 x29_1)
        obtain rfl : ad209 = ad210 := (by injection e210)
        go_wp2
        go_ret2
        exact ⟨er, bq⟩
       ·rw [if_neg c20] at H
        obtain ⟨c20b0, c20b1⟩ := ne2 c20
        exact dd19
      ·rw [if_neg c19] at H
       have c19b0 := decide_eq_false c19
       clear c19
       have H' := Am H
       clear H
       have p205 : 0 ≤ (x29_1 : Int) := da
       have q205 : x29_1 < (t198.length : Int) := da
       obtain ⟨ad205, e205, hx205_0⟩ := Kd.at_int (Kd.R_reads' HO_27.out).2.2 x29_1 p205 q205
       cases e205
       replace p205 := eq_true p205
       replace q205 := eq_true q205
       obtain ⟨ad209, e209, hx209_0, hx209_1, hx209_2, hx209_3, hx209_4, hx209_5, p209, q209⟩ := t6d HB.out HR0.out (rd t198 x29_1)
       cases e209
       exact dd23
    ·rw [if_neg c8] at H
     have c8b0 := decide_eq_false c8
     clear c8
     simp only [Option.some.injEq, Prod.mk.injEq] at H
     obtain ⟨rfl, rfl⟩ := H
     go_wp2
     go_ret2
     exact ⟨er, bq⟩
 ·rw [if_neg c3] at H
  obtain ⟨c3b0, c3b1⟩ := ne2 c3
  simp only [Option.some.injEq, Prod.mk.injEq] at H
  obtain ⟨rfl, rfl⟩ := H
  go_enter Tryz.func42, Tryz.ntmps42
  go_wp2_with (first | ((with_reducible refine Gc 81 rfl ?_); refine gL 14 Tryz.func81 #[.slice A0 l0.length c0] ?_; (with_reducible refine (weigh_Even.calls k _ _ l0 t195 t196 t197 _ (kc HR0.out) HC0.out A2.out).mono ?_); rintro e w21 ⟨rfl, hb⟩; refine ⟨_, rfl, ?_⟩; replace HB := Am (below_step bq hb); (try clear hb)))
  go_ret2
  exact ⟨er, bq⟩
end
theorem info140 : (Tryz.prog.info? 140).map (fun i => (i.zero, i.size, i.bytes)) = some (some (.agg #[(.int .i64 0), (.int .i64 0), (.bool false), (.bool false)]), 4, 24) := by kernel_rfl
structure S140 where
 f0 : Int
 f1 : Int
 f2 : Bool
 f3 : Bool
def z140 : S140 := ⟨(0 : Int), (0 : Int), false, false⟩
def k140 : Kd S140 := Kd.iso (Kd.pair (Kd.int .i64) (Kd.pair (Kd.int .i64) (Kd.pair Kd.bool Kd.bool))) (fun x : S140 => (x.f0, x.f1, x.f2, x.f3))
theorem k140_openM {w : World} {base : Nat} {ok : Nat → Prop} {x : S140} {cs : List Value} (h : k140.M w base ok x cs) : cs = [.int .i64 x.f0, .int .i64 x.f1, .bool x.f2, .bool x.f3] := by
 obtain ⟨_, _, rfl, rfl, ⟨_, _, rfl, rfl, ⟨_, _, rfl, rfl, rfl⟩⟩⟩ := h
 exact rfl
theorem k140_mkM (w : World) (base : Nat) (ok : Nat → Prop) (x : S140)  : k140.M w base ok x [.int .i64 x.f0, .int .i64 x.f1, .bool x.f2, .bool x.f3] := ⟨[.int .i64 x.f0], [.int .i64 x.f1, .bool x.f2, .bool x.f3], rfl, rfl, ⟨[.int .i64 x.f1], [.bool x.f2, .bool x.f3], rfl, rfl, ⟨[.bool x.f2], [.bool x.f3], rfl, rfl, rfl⟩⟩⟩
theorem rd_cells {w : World} {A : Option Addr} {l : List S69} (h : Kd.C k69 w A l.length l) {i : Nat} (hi : i < l.length) : ∃ ad, A = some ad ∧ ∀ w', Below w.heap.size w w' → w'.cell? (ad.add (i * 6)) = some (.int .i64 (l.getD i z69).f0) ∧ w'.cell? ⟨(ad.add (i * 6)).block, (ad.add (i * 6)).off + 1, none⟩ = some (.int .i64 (l.getD i z69).f1) ∧ w'.cell? ⟨(ad.add (i * 6)).block, (ad.add (i * 6)).off + 2, none⟩ = some (.int .i64 (l.getD i z69).f2) ∧ w'.cell? ⟨(ad.add (i * 6)).block, (ad.add (i * 6)).off + 3, none⟩ = some (.int .i64 (l.getD i z69).f3) ∧ w'.cell? ⟨(ad.add (i * 6)).block, (ad.add (i * 6)).off + 4, none⟩ = some (.int .i64 (l.getD i z69).f4) ∧ w'.cell? ⟨(ad.add (i * 6)).block, (ad.add (i * 6)).off + 5, none⟩ = some (.int .i64 (l.getD i z69).f5) := by
 obtain ⟨ad, e, h0, h1, h2, h3, h4, h5⟩ := at_T69 h (i : Int) (by omega) (by omega)
 have t : ∀ (w' : World) (a : Addr) (v : Value), Below w.heap.size w w' → w.cell? a = some v → w'.cell? a = some v := fun w' a v hb h => (hb.cell (blt w a h)).trans h
 exact ⟨ad, e, fun w' hb => ⟨t _ _ _ hb h0, t _ _ _ hb h1, t _ _ _ hb h2, t _ _ _ hb h3, t _ _ _ hb h4, t _ _ _ hb h5⟩⟩
section
inductive Tr where
 | nil
 | node (n : S69) (pl : Int) (l r : Tr)
def ndCells (n : S69) (pl : Int) (vl vr : Value) : Array Value := #[.int .i64 n.f0, .int .i64 n.f1, .int .i64 n.f2, .int .i64 n.f3, .int .i64 n.f4, .int .i64 n.f5, .int .i64 pl, vl, vr]
def Rep (S : Nat → Prop) (w : World) : Value → Tr → Prop
 | v, .nil => v = .pointer none
 | v, .node n pl l r => ∃ b vl vr, v = .pointer (some ⟨b, 0, none⟩) ∧ w.heap[b]? = some (.cells (ndCells n pl vl vr) 126 (0, 0)) ∧ Rep S w vl l ∧ Rep S w vr r ∧ S b
variable {S : Nat → Prop}
theorem Rep.keptS {S : Nat → Prop} {w w' : World} (hk : ∀ k, S k → k < w.heap.size → w'.heap[k]? = w.heap[k]?) : ∀ {v : Value} {T : Tr}, Rep S w v T → Rep S w' v T
 | _, .nil, h => h
 | _, .node .., ⟨b, vl, vr, e, hb, hl, hr, hs⟩ => ⟨b, vl, vr, e, (hk b hs (Array.getElem?_eq_some_iff.1 hb).1).trans hb, hl.keptS hk, hr.keptS hk, hs⟩
theorem Rep.kept {S : Nat → Prop} {w w' : World} {v : Value} {T : Tr} (hk : ∀ k, k < w.heap.size → w'.heap[k]? = w.heap[k]?) (h : Rep S w v T) : Rep S w' v T := Rep.keptS (fun k _ => hk k) h
theorem Rep.mono {S S' : Nat → Prop} {w : World} (hs : ∀ k, S k → S' k) : ∀ {v : Value} {T : Tr}, Rep S w v T → Rep S' w v T
 | _, .nil, h => h
 | _, .node .., ⟨b, vl, vr, e, hb, hl, hr, h⟩ => ⟨b, vl, vr, e, hb, hl.mono hs, hr.mono hs, hs b h⟩
theorem Rep.bound {S : Nat → Prop} {w : World} : ∀ {v : Value} {T : Tr}, Rep S w v T → Rep (fun k => S k ∧ k < w.heap.size) w v T
 | _, .nil, h => h
 | _, .node .., ⟨b, vl, vr, e, hb, hl, hr, h⟩ => ⟨b, vl, vr, e, hb, hl.bound, hr.bound, h, (Array.getElem?_eq_some_iff.1 hb).1⟩
theorem Rep.below {S : Nat → Prop} {w w' : World} {v : Value} {T : Tr} (h : Rep S w v T) (hb : Below w.heap.size w w') : Rep S w' v T := h.kept (fun k hk => hb.block k hk)
theorem Rep.ptr {S : Nat → Prop} {w : World} {v : Value} : ∀ {T : Tr}, Rep S w v T → ∃ p, v = .pointer p
 | .nil, h => ⟨none, h⟩
 | .node .., ⟨b, _, _, e, _⟩ => ⟨some ⟨b, 0, none⟩, e⟩
def wt : Tr → Int
 | .nil => -1
 | .node n _ _ _ => n.f2
def lT (m : Bool) : Tr → Tr
 | .nil => .nil
 | .node _ _ l r => if m then r else l
def rT (m : Bool) : Tr → Tr
 | .nil => .nil
 | .node _ _ l r => if m then l else r
theorem cell_of {w : World} {b : Nat} {c : Array Value} {t : TypeId} (h : w.heap[b]? = some (.cells c t (0, 0))) (i : Nat) : w.cell? ⟨b, i, none⟩ = c[i]? := by simp [World.cell?, h]
theorem weight_any (v : Value) (T : Tr) (w : World) (h : Rep S w v T) :
  Calls Tryz.prog 132 #[v] w fun e w' => e = .returned (.int .i64 (wt T)) ∧ w' = w := by
 cases T with
 | nil =>
  obtain rfl := h
  go_enter Tryz.func132, Tryz.ntmps132
  go_wp2
  go_ret
  exact ⟨rfl, rfl⟩
 | node n pl l r =>
  obtain ⟨b, vl, vr, rfl, hb, _, _, _⟩ := h
  have hc : w.cell? ⟨b, 2, none⟩ = some (.int .i64 n.f2) := (cell_of hb 2).trans rfl
  clear hb
  go_enter Tryz.func132, Tryz.ntmps132
  go_wp2
  go_ret
  exact ⟨rfl, rfl⟩
theorem red_any (v : Value) (T : Tr) (w : World) (h : Rep S w v T) :
  Calls Tryz.prog 127 #[v] w fun e w' => e = .returned (.bool (wt T == 0)) ∧ w' = w := by
 have H := Am h
 clear h
 go_enter Tryz.func127, Tryz.ntmps127
 exact dd74
theorem black_any (v : Value) (T : Tr) (w : World) (h : Rep S w v T) :
  Calls Tryz.prog 128 #[v] w fun e w' => e = .returned (.bool (decide (0 < wt T))) ∧ w' = w := by
 have H := Am h
 clear h
 go_enter Tryz.func128, Tryz.ntmps128
 exact dd74
def innerB : Tr → Bool
 | .nil => false
 | .node _ _ .nil _ => false
 | .node _ _ (.node ..) _ => true
theorem left_any (m rt : Bool) (x1 x2 x3 x4 x5 x6 x7 x8 x9 v : Value) (T : Tr) (w0 w : World) (h : Rep S w0 v T) (h0 : Below w0.heap.size w0 w) :
  Calls Tryz.prog 125 #[.agg #[.bool m, x1, x2, x3, x4, x5, x6, x7, x8, x9, .bool rt], v] w fun e w' => ∃ v', e = .returned v' ∧ Rep S w0 v' (lT m T) ∧ Below w.heap.size w w' := by
 have hu111 := Tryz.underlying121
 cases T with
 | nil =>
  obtain rfl := h
  go_enter Tryz.func125, Tryz.ntmps125
  exact dd91
 | node n pl l r =>
  obtain ⟨b, vl, vr, rfl, hb, hl, hr, _⟩ := h
  have hblt := (Array.getElem?_eq_some_iff.1 hb).1
  have hc7 : w.cell? ⟨b, 7, none⟩ = some vl := (h0.cell (p := ⟨b, 7, none⟩) hblt).trans ((cell_of hb 7).trans rfl)
  have hc8 : w.cell? ⟨b, 8, none⟩ = some vr := (h0.cell (p := ⟨b, 8, none⟩) hblt).trans ((cell_of hb 8).trans rfl)
  have HL := Am hl
  have HR := Am hr
  have hblw := Nat.lt_of_lt_of_le hblt h0.size
  clear hb hl hr h0 hblt
  cases m with
  | true =>
   have hfin : ∀ w', Below w.heap.size w w' → ∃ v', Ending.returned vr = .returned v' ∧ Rep S w0 v' (lT true (.node n pl l r)) ∧ Below w.heap.size w w' := fun w' hb => ⟨_, rfl, HR.out, hb⟩
   exact dd114
  | false =>
   have hfin : ∀ w', Below w.heap.size w w' → ∃ v', Ending.returned vl = .returned v' ∧ Rep S w0 v' (lT false (.node n pl l r)) ∧ Below w.heap.size w w' := fun w' hb => ⟨_, rfl, HL.out, hb⟩
   exact dd114
theorem right_any (m rt : Bool) (x1 x2 x3 x4 x5 x6 x7 x8 x9 v : Value) (T : Tr) (w0 w : World) (h : Rep S w0 v T) (h0 : Below w0.heap.size w0 w) :
  Calls Tryz.prog 126 #[.agg #[.bool m, x1, x2, x3, x4, x5, x6, x7, x8, x9, .bool rt], v] w fun e w' => ∃ v', e = .returned v' ∧ Rep S w0 v' (rT m T) ∧ Below w.heap.size w w' := by
 have hu111 := Tryz.underlying121
 cases T with
 | nil =>
  obtain rfl := h
  go_enter Tryz.func126, Tryz.ntmps126
  exact dd91
 | node n pl l r =>
  obtain ⟨b, vl, vr, rfl, hb, hl, hr, _⟩ := h
  have hblt := (Array.getElem?_eq_some_iff.1 hb).1
  have hc7 : w.cell? ⟨b, 7, none⟩ = some vl := (h0.cell (p := ⟨b, 7, none⟩) hblt).trans ((cell_of hb 7).trans rfl)
  have hc8 : w.cell? ⟨b, 8, none⟩ = some vr := (h0.cell (p := ⟨b, 8, none⟩) hblt).trans ((cell_of hb 8).trans rfl)
  have HL := Am hl
  have HR := Am hr
  have hblw := Nat.lt_of_lt_of_le hblt h0.size
  clear hb hl hr h0 hblt
  cases m with
  | true =>
   have hfin : ∀ w', Below w.heap.size w w' → ∃ v', Ending.returned vl = .returned v' ∧ Rep S w0 v' (rT true (.node n pl l r)) ∧ Below w.heap.size w w' := fun w' hb => ⟨_, rfl, HL.out, hb⟩
   exact dd113
  | false =>
   have hfin : ∀ w', Below w.heap.size w w' → ∃ v', Ending.returned vr = .returned v' ∧ Rep S w0 v' (rT false (.node n pl l r)) ∧ Below w.heap.size w w' := fun w' hb => ⟨_, rfl, HR.out, hb⟩
   exact dd113
end
section
variable {S : Nat → Prop}
def TopRep (S : Nat → Prop) (w w' : World) (v : Value) (T : Tr) : Prop := ∃ b n pl L R vl vr, v = .pointer (some ⟨b, 0, none⟩) ∧ T = .node n pl L R ∧ w.heap.size ≤ b ∧ w'.heap[b]? = some (.cells (ndCells n pl vl vr) 126 (0, 0)) ∧ Rep S w vl L ∧ Rep S w vr R ∧ S b
theorem TopRep.rep {w w' : World} {v : Value} {T : Tr} (h : TopRep S w w' v T) (hb : Below w.heap.size w w') : Rep S w' v T := by
 obtain ⟨b, n, pl, L, R, vl, vr, rfl, rfl, _, h1, h2, h3, h4⟩ := h
 exact ⟨b, vl, vr, rfl, h1, h2.below hb, h3.below hb, h4⟩
theorem TopRep.ptr {w w' : World} {v : Value} {T : Tr} (h : TopRep S w w' v T) : ∃ p, v = .pointer p := by
 obtain ⟨b, n, pl, L, R, vl, vr, rfl, _⟩ := h
 exact ⟨_, rfl⟩
def asT (x : Int) : Tr → Tr
 | .nil => .nil
 | .node n _ l r => .node ⟨n.f0, n.f1, x, n.f3, n.f4, n.f5⟩ 0 l r
def lessT (T : Tr) : Tr := asT (wrap64 (wt T - 1)) T
def putT (m : Bool) (key x : Int) (L R : Tr) : Tr := .node ⟨key, 0, x, 0, 0, 0⟩ 0 (if m then R else L) (if m then L else R)
theorem put_any (m rt : Bool) (x1 x2 x3 x4 x5 x6 x7 x8 x9 vk vl vr : Value) (n : S69) (pl : Int) (lk rk : Tr) (x : Int) (L R : Tr) (w : World) (hS : ∀ k, w.heap.size ≤ k → S k) (h : Rep S w vk (.node n pl lk rk)) (hl : Rep S w vl L) (hr : Rep S w vr R) :
  Calls Tryz.prog 133 #[.agg #[.bool m, x1, x2, x3, x4, x5, x6, x7, x8, x9, .bool rt], vk, .int .i64 x, vl, vr] w fun e w' => ∃ v', e = .returned v' ∧ TopRep S w w' v' (putT m n.f0 x L R) ∧ Below w.heap.size w w' := by
 have hu34 := Tryz.underlying69
 have hu116 := Tryz.underlying126
 have hu111 := Tryz.underlying121
 obtain ⟨b, kl, kr, rfl, hb, _, _, _⟩ := h
 have hblt := (Array.getElem?_eq_some_iff.1 hb).1
 have hc0 : w.cell? ⟨b, 0, none⟩ = some (.int .i64 n.f0) := (cell_of hb 0).trans rfl
 have HL := Am hl
 have HR := Am hr
 obtain ⟨pL, epL⟩ := hl.ptr
 obtain ⟨pR, epR⟩ := hr.ptr
 subst epL
 subst epR
 have HSS := Am hS
 clear hb hl hr hS
 cases m with
 | false =>
  go_enter Tryz.func133, Tryz.ntmps133
  go_wp2
  go_ret
  have hB : Below w.heap.size w ((w.alloc (.cells #[.bool false, x1, x2, x3, x4, x5, x6, x7, x8, x9, .bool rt] 121)).alloc (.cells (ndCells ⟨n.f0, 0, x, 0, 0, 0⟩ 0 (.pointer pL) (.pointer pR)) 126)) := ((Below.refl _ _).alloc (Nat.le_refl _) _).alloc (by simp) _
  exact ⟨_, rfl, ⟨w.heap.size + 1, _, _, _, _, _, _, rfl, rfl, Nat.le_succ _, by have := heap_alloc_new (w.alloc (.cells #[.bool false, x1, x2, x3, x4, x5, x6, x7, x8, x9, .bool rt] 121)) (.cells (ndCells ⟨n.f0, 0, x, 0, 0, 0⟩ 0 (.pointer pL) (.pointer pR)) 126); rw [World.size_alloc] at this; exact this, HL.out, HR.out, HSS.out _ (Nat.le_succ _)⟩, hB⟩
 | true =>
  go_enter Tryz.func133, Tryz.ntmps133
  go_wp2
  go_ret
  have hB : Below w.heap.size w ((w.alloc (.cells #[.bool true, x1, x2, x3, x4, x5, x6, x7, x8, x9, .bool rt] 121)).alloc (.cells (ndCells ⟨n.f0, 0, x, 0, 0, 0⟩ 0 (.pointer pR) (.pointer pL)) 126)) := ((Below.refl _ _).alloc (Nat.le_refl _) _).alloc (by simp) _
  exact ⟨_, rfl, ⟨w.heap.size + 1, _, _, _, _, _, _, rfl, rfl, Nat.le_succ _, by have := heap_alloc_new (w.alloc (.cells #[.bool true, x1, x2, x3, x4, x5, x6, x7, x8, x9, .bool rt] 121)) (.cells (ndCells ⟨n.f0, 0, x, 0, 0, 0⟩ 0 (.pointer pR) (.pointer pL)) 126); rw [World.size_alloc] at this; exact this, HR.out, HL.out, HSS.out _ (Nat.le_succ _)⟩, hB⟩
end
section
variable {S : Nat → Prop}
def LookPost (S : Nat → Prop) (w : World) (p : Option Addr) (T : Tr) (m rt : Bool) (e : Ending) (w' : World) : Prop :=
 ∃ pl pr pll plr prl prr pa pb, e = .returned (.agg #[.bool m, .pointer p, .pointer pl, .pointer pr, .pointer pll, .pointer plr, .pointer prl, .pointer prr, .pointer pa, .pointer pb, .bool rt]) ∧ Below w.heap.size w w' ∧
  Rep S w (.pointer pl) (lT m T) ∧ Rep S w (.pointer pr) (rT m T) ∧ Rep S w (.pointer pll) (lT m (lT m T)) ∧ Rep S w (.pointer plr) (rT m (lT m T)) ∧ Rep S w (.pointer prl) (lT m (rT m T)) ∧ Rep S w (.pointer prr) (rT m (rT m T)) ∧
  Rep S w (.pointer pa) (lT m (lT m (rT m T))) ∧ Rep S w (.pointer pb) (rT m (lT m (rT m T)))
theorem frz_of {w : World} {b : Nat} {c : Array Value} {t : TypeId} (h : w.heap[b]? = some (.cells c t (0, 0))) (i : Nat) : w.frozen? ⟨b, i, none⟩ = false := by simp [World.frozen?, h]
theorem cell_al {W : World} {a : Addr} {v : Value} (o : Obj) (h : W.cell? a = some v) : (W.alloc o).cell? a = some v := (World.cell?_alloc_lt _ _ _ (blt W a h)).trans h
theorem put_blk {w : World} {g : Nat} {cs : Array Value} {t : TypeId} (h : w.heap[g]? = some (.cells cs t (0, 0))) (i : Nat) (v : Value) : (w.setCell ⟨g, i, none⟩ v).heap[g]? = some (.cells (cs.setIfInBounds i v) t (0, 0)) := by
 simp [World.setCell, Array.getElem?_modify, h]
theorem put_blk_ne {w : World} {g k : Nat} (h : k ≠ g) (i : Nat) (v : Value) : (w.setCell ⟨g, i, none⟩ v).heap[k]? = w.heap[k]? := Below.heap_setCell w ⟨g, i, none⟩ v k h
theorem put11 {w : World} {g : Nat} {t : TypeId} {c0 c1 c2 c3 c4 c5 c6 c7 c8 c9 c10 : Value} (h : w.heap[g]? = some (.cells #[c0, c1, c2, c3, c4, c5, c6, c7, c8, c9, c10] t (0, 0))) (v0 v1 v2 v3 v4 v5 v6 v7 v8 v9 v10 : Value) :
  ((((((((((((w.setCell ⟨g, 0, none⟩ v0).setCell ⟨g, 1, none⟩ v1).setCell ⟨g, 2, none⟩ v2).setCell ⟨g, 3, none⟩ v3).setCell ⟨g, 4, none⟩ v4).setCell ⟨g, 5, none⟩ v5).setCell ⟨g, 6, none⟩ v6).setCell ⟨g, 7, none⟩ v7).setCell ⟨g, 8, none⟩ v8).setCell ⟨g, 9, none⟩ v9).setCell ⟨g, 10, none⟩ v10).heap[g]? = some (.cells #[v0, v1, v2, v3, v4, v5, v6, v7, v8, v9, v10] t (0, 0))) := by
 have h0 := put_blk h 0 v0
 simp only [sI, sZ, sS] at h0
 have h1 := put_blk h0 1 v1
 simp only [sI, sZ, sS] at h1
 have h2 := put_blk h1 2 v2
 simp only [sI, sZ, sS] at h2
 have h3 := put_blk h2 3 v3
 simp only [sI, sZ, sS] at h3
 have h4 := put_blk h3 4 v4
 simp only [sI, sZ, sS] at h4
 have h5 := put_blk h4 5 v5
 simp only [sI, sZ, sS] at h5
 have h6 := put_blk h5 6 v6
 simp only [sI, sZ, sS] at h6
 have h7 := put_blk h6 7 v7
 simp only [sI, sZ, sS] at h7
 have h8 := put_blk h7 8 v8
 simp only [sI, sZ, sS] at h8
 have h9 := put_blk h8 9 v9
 simp only [sI, sZ, sS] at h9
 have h10 := put_blk h9 10 v10
 simp only [sI, sZ, sS] at h10
 exact h10
theorem below11 {B : Nat} {a w : World} {g : Nat} (h : Below B a w) (hg : B ≤ g) (v0 v1 v2 v3 v4 v5 v6 v7 v8 v9 v10 : Value) : Below B a (((((((((((w.setCell ⟨g, 0, none⟩ v0).setCell ⟨g, 1, none⟩ v1).setCell ⟨g, 2, none⟩ v2).setCell ⟨g, 3, none⟩ v3).setCell ⟨g, 4, none⟩ v4).setCell ⟨g, 5, none⟩ v5).setCell ⟨g, 6, none⟩ v6).setCell ⟨g, 7, none⟩ v7).setCell ⟨g, 8, none⟩ v8).setCell ⟨g, 9, none⟩ v9).setCell ⟨g, 10, none⟩ v10) := (((((((((((h.setCell (p := ⟨g, 0, none⟩) hg v0).setCell (p := ⟨g, 1, none⟩) hg v1).setCell (p := ⟨g, 2, none⟩) hg v2).setCell (p := ⟨g, 3, none⟩) hg v3).setCell (p := ⟨g, 4, none⟩) hg v4).setCell (p := ⟨g, 5, none⟩) hg v5).setCell (p := ⟨g, 6, none⟩) hg v6).setCell (p := ⟨g, 7, none⟩) hg v7).setCell (p := ⟨g, 8, none⟩) hg v8).setCell (p := ⟨g, 9, none⟩) hg v9).setCell (p := ⟨g, 10, none⟩) hg v10)
theorem look_fin {w w5 : World} {T : Tr} {m rt : Bool} {p pl pr pll plr prl prr pa pb : Option Addr} {g6 : Nat} (hb : Below w.heap.size w w5) (_h6 : w.heap.size ≤ g6) (h1 : Rep S w (.pointer pl) (lT m T)) (h2 : Rep S w (.pointer pr) (rT m T)) (h3 : Rep S w (.pointer pll) (lT m (lT m T))) (h4 : Rep S w (.pointer plr) (rT m (lT m T)))
  (h5 : Rep S w (.pointer prl) (lT m (rT m T))) (h6 : Rep S w (.pointer prr) (rT m (rT m T))) (h7 : Rep S w (.pointer pa) (lT m (lT m (rT m T)))) (h8 : Rep S w (.pointer pb) (rT m (lT m (rT m T)))) :
  ∀ w', Below w.heap.size w w' → LookPost S w p T m rt (.returned (.agg #[.bool m, .pointer p, .pointer pl, .pointer pr, .pointer pll, .pointer plr, .pointer prl, .pointer prr, .pointer pa, .pointer pb, .bool rt])) w' :=
 fun _ hb' => ⟨pl, pr, pll, plr, prl, prr, pa, pb, rfl, hb', h1, h2, h3, h4, h5, h6, h7, h8⟩
theorem look_any (p : Option Addr) (T : Tr) (k : Int) (m rt : Bool) (w : World) (h : Rep S w (.pointer p) T) :
  Calls Tryz.prog 71 #[.pointer p, .agg #[.int .i64 k, .bool m], .bool rt] w fun e w' => LookPost S w p T m rt e w' := by
 have hu62 := Tryz.underlying49
 have hu111 := Tryz.underlying121
 have HRp := Am h
 clear h
 go_enter Tryz.func71, Tryz.ntmps71
 go_wp2
 have HV : Aside0 ((((w.alloc (.cells #[.int .i64 k, .bool m] 49)).alloc (.cells #[.bool false, .pointer none, .pointer none, .pointer none, .pointer none, .pointer none, .pointer none, .pointer none, .pointer none, .pointer none, .bool false] 121)).alloc (.cells #[.bool m, .pointer p, .pointer none, .pointer none, .pointer none, .pointer none, .pointer none, .pointer none, .pointer none, .pointer none, .bool rt] 121)).heap[w.heap.size + 1 + 1]? = some (.cells #[.bool m, .pointer p, .pointer none, .pointer none, .pointer none, .pointer none, .pointer none, .pointer none, .pointer none, .pointer none, .bool rt] 121 (0, 0))) := ⟨by have := heap_alloc_new ((w.alloc (.cells #[.int .i64 k, .bool m] 49)).alloc (.cells #[.bool false, .pointer none, .pointer none, .pointer none, .pointer none, .pointer none, .pointer none, .pointer none, .pointer none, .pointer none, .bool false] 121)) (.cells #[.bool m, .pointer p, .pointer none, .pointer none, .pointer none, .pointer none, .pointer none, .pointer none, .pointer none, .pointer none, .bool rt] 121); rw [World.size_alloc, World.size_alloc] at this; exact this⟩
 have HG : Aside0 ((((w.alloc (.cells #[.int .i64 k, .bool m] 49)).alloc (.cells #[.bool false, .pointer none, .pointer none, .pointer none, .pointer none, .pointer none, .pointer none, .pointer none, .pointer none, .pointer none, .bool false] 121)).alloc (.cells #[.bool m, .pointer p, .pointer none, .pointer none, .pointer none, .pointer none, .pointer none, .pointer none, .pointer none, .pointer none, .bool rt] 121)).heap[w.heap.size + 1]? = some (.cells #[.bool false, .pointer none, .pointer none, .pointer none, .pointer none, .pointer none, .pointer none, .pointer none, .pointer none, .pointer none, .bool false] 121)) := ⟨by rw [Below.heap_alloc _ _ _ (by simp)]; have := heap_alloc_new (w.alloc (.cells #[.int .i64 k, .bool m] 49)) (.cells #[.bool false, .pointer none, .pointer none, .pointer none, .pointer none, .pointer none, .pointer none, .pointer none, .pointer none, .pointer none, .bool false] 121); rw [World.size_alloc] at this; exact this⟩
 have HB : Aside0 (Below w.heap.size w (((w.alloc (.cells #[.int .i64 k, .bool m] 49)).alloc (.cells #[.bool false, .pointer none, .pointer none, .pointer none, .pointer none, .pointer none, .pointer none, .pointer none, .pointer none, .pointer none, .bool false] 121)).alloc (.cells #[.bool m, .pointer p, .pointer none, .pointer none, .pointer none, .pointer none, .pointer none, .pointer none, .pointer none, .pointer none, .bool rt] 121))) := ⟨(((Below.refl _ _).alloc (Nat.le_refl _) _).alloc (by simp) _).alloc (by simp; omega) _⟩
 have HGE : Aside0 (w.heap.size ≤ w.heap.size + 1 + 1) := ⟨by omega⟩
 have HG6 : Aside0 (w.heap.size ≤ w.heap.size + 1) := ⟨by omega⟩
 have HNE : Aside0 (w.heap.size + 1 ≠ w.heap.size + 1 + 1) := ⟨by omega⟩
 generalize ((w.alloc (.cells #[.int .i64 k, .bool m] 49)).alloc (.cells #[.bool false, .pointer none, .pointer none, .pointer none, .pointer none, .pointer none, .pointer none, .pointer none, .pointer none, .pointer none, .bool false] 121)).alloc (.cells #[.bool m, .pointer p, .pointer none, .pointer none, .pointer none, .pointer none, .pointer none, .pointer none, .pointer none, .pointer none, .bool rt] 121) = w1 at HV HG HB ⊢
 generalize w.heap.size + 1 + 1 = g at HV HGE HNE ⊢
 generalize w.heap.size + 1 = g6 at HG HG6 HNE ⊢
 have HB0 := Am (bd HB.out)
 have HV0 : Aside0 (w1.drew.heap[g]? = some (.cells #[.bool m, .pointer p, .pointer none, .pointer none, .pointer none, .pointer none, .pointer none, .pointer none, .pointer none, .pointer none, .bool rt] 121 (0, 0))) := ⟨HV.out⟩
 have HG0 : Aside0 (w1.drew.heap[g6]? = some (.cells #[.bool false, .pointer none, .pointer none, .pointer none, .pointer none, .pointer none, .pointer none, .pointer none, .pointer none, .pointer none, .bool false] 121)) := ⟨HG.out⟩
 clear HB HV HG
 refine sT 10 [7, 9] (S := fun w' => w'.cell? ⟨g, 0, none⟩ = some (.bool m) ∧ w'.cell? ⟨g, 1, none⟩ = some (.pointer p) ∧ w'.cell? ⟨g, 2, none⟩ = some (.pointer none) ∧ w'.cell? ⟨g, 3, none⟩ = some (.pointer none) ∧ w'.cell? ⟨g, 4, none⟩ = some (.pointer none) ∧ w'.cell? ⟨g, 5, none⟩ = some (.pointer none) ∧ w'.cell? ⟨g, 6, none⟩ = some (.pointer none) ∧ w'.cell? ⟨g, 7, none⟩ = some (.pointer none) ∧ w'.cell? ⟨g, 8, none⟩ = some (.pointer none) ∧ w'.cell? ⟨g, 9, none⟩ = some (.pointer none) ∧ w'.cell? ⟨g, 10, none⟩ = some (.bool rt)) (vc11 HV0.out) fun hHeld => ?_
 refine pu 1 14 ?_
 refine pu 4 17 ?_
 refine ta 0 13 hHeld ?_
 refine ta 3 16 hHeld ?_
 refine on 2 15 fun K hK => ?_
 refine gO Tryz.func125 #[.agg #[.bool m, .pointer p, .pointer none, .pointer none, .pointer none, .pointer none, .pointer none, .pointer none, .pointer none, .pointer none, .bool rt], .pointer p] ?_
 with_reducible refine (left_any _ _ _ _ _ _ _ _ _ _ _ _ _ w _ HRp.out HB0.out).mono ?_
 rintro e w21 ⟨v', rfl, h1, h2⟩
 obtain ⟨pl, rfl⟩ := h1.ptr
 have HRpl := Am h1
 have HB1 := Am (HB0.out.trans (h2.mono HB0.out.size))
 have HV1 := Am ((h2.block _ (Array.getElem?_eq_some_iff.1 HV0.out).1).trans HV0.out)
 have HG1 := Am ((h2.block _ (Array.getElem?_eq_some_iff.1 HG0.out).1).trans HG0.out)
 clear h1 h2 HB0 HV0 HG0
 refine ⟨_, rfl, ?_⟩
 refine hK.out _ _ (vc11 HV1.out) (fun hHeld => ?_)
 clear hK K
 refine nm 15 ?_
 refine pu 6 19 ?_
 refine on 5 18 fun K hK => ?_
 refine gO Tryz.func126 #[.agg #[.bool m, .pointer p, .pointer none, .pointer none, .pointer none, .pointer none, .pointer none, .pointer none, .pointer none, .pointer none, .bool rt], .pointer p] ?_
 with_reducible refine (right_any _ _ _ _ _ _ _ _ _ _ _ _ _ w _ HRp.out HB1.out).mono ?_
 rintro e w22 ⟨v', rfl, h1, h2⟩
 obtain ⟨pr, rfl⟩ := h1.ptr
 have HRpr := Am h1
 have HB2 := Am (HB1.out.trans (h2.mono HB1.out.size))
 have HV2 := Am ((h2.block _ (Array.getElem?_eq_some_iff.1 HV1.out).1).trans HV1.out)
 have HG2 := Am ((h2.block _ (Array.getElem?_eq_some_iff.1 HG1.out).1).trans HG1.out)
 clear h1 h2 HB1 HV1 HG1
 have hfa := frz_of HV2.out 2
 have hfb := frz_of HV2.out 3
 refine ⟨_, rfl, ?_⟩
 refine hK.out _ _ (vc11 HV2.out) (fun hHeld => ?_)
 clear hK K
 refine nm 18 ?_
 refine la0 7 (fun K hK => ?_)
 refine sk ?_
 refine hK.out _ _ ?_
 clear hK K
 refine pu 8 20 ?_
 refine la0 9 (fun K hK => ?_)
 refine sk ?_
 refine hK.out _ _ ?_
 clear hK K
 refine done_ (by kernel_rfl) ?_
 have HB := Am ((HB2.out.setCell (p := ⟨g, 2, none⟩) HGE.out (.pointer pl)).setCell (p := ⟨g, 3, none⟩) HGE.out (.pointer pr))
 have HV : Aside0 (((w22.setCell ⟨g, 2, none⟩ (.pointer pl)).setCell ⟨g, 3, none⟩ (.pointer pr)).heap[g]? = some (.cells #[.bool m, .pointer p, .pointer pl, .pointer pr, .pointer none, .pointer none, .pointer none, .pointer none, .pointer none, .pointer none, .bool rt] 121 (0, 0))) := ⟨put_blk (put_blk HV2.out 2 _) 3 _⟩
 have HG : Aside0 (((w22.setCell ⟨g, 2, none⟩ (.pointer pl)).setCell ⟨g, 3, none⟩ (.pointer pr)).heap[g6]? = some (.cells #[.bool false, .pointer none, .pointer none, .pointer none, .pointer none, .pointer none, .pointer none, .pointer none, .pointer none, .pointer none, .bool false] 121)) := ⟨(put_blk_ne HNE.out _ _).trans ((put_blk_ne HNE.out _ _).trans HG2.out)⟩
 clear HB2 HV2 HG2 hfa hfb
 generalize ((w22.setCell ⟨g, 2, none⟩ (.pointer pl)).setCell ⟨g, 3, none⟩ (.pointer pr)) = w2 at HB HV HG ⊢
 obtain ⟨hv20, hv21, hv22, hv23, hv24, hv25, hv26, hv27, hv28, hv29, hv210⟩ := vc11 HV.out
 go_wp2
 clear hv20 hv21 hv22 hv23 hv24 hv25 hv26 hv27 hv28 hv29 hv210
 have HB0 := Am (bd HB.out)
 have HV0 : Aside0 (w2.drew.heap[g]? = some (.cells #[.bool m, .pointer p, .pointer pl, .pointer pr, .pointer none, .pointer none, .pointer none, .pointer none, .pointer none, .pointer none, .bool rt] 121 (0, 0))) := ⟨HV.out⟩
 have HG0 : Aside0 (w2.drew.heap[g6]? = some (.cells #[.bool false, .pointer none, .pointer none, .pointer none, .pointer none, .pointer none, .pointer none, .pointer none, .pointer none, .pointer none, .bool false] 121)) := ⟨HG.out⟩
 clear HB HV HG
 refine sT 12 [9, 11] (S := fun w' => w'.cell? ⟨g, 0, none⟩ = some (.bool m) ∧ w'.cell? ⟨g, 1, none⟩ = some (.pointer p) ∧ w'.cell? ⟨g, 2, none⟩ = some (.pointer pl) ∧ w'.cell? ⟨g, 3, none⟩ = some (.pointer pr) ∧ w'.cell? ⟨g, 4, none⟩ = some (.pointer none) ∧ w'.cell? ⟨g, 5, none⟩ = some (.pointer none) ∧ w'.cell? ⟨g, 6, none⟩ = some (.pointer none) ∧ w'.cell? ⟨g, 7, none⟩ = some (.pointer none) ∧ w'.cell? ⟨g, 8, none⟩ = some (.pointer none) ∧ w'.cell? ⟨g, 9, none⟩ = some (.pointer none) ∧ w'.cell? ⟨g, 10, none⟩ = some (.bool rt)) (vc11 HV0.out) fun hHeld => ?_
 refine pu 1 22 ?_
 refine pu 5 26 ?_
 refine ta 0 21 hHeld ?_
 refine ta 2 23 hHeld ?_
 refine ta 4 25 hHeld ?_
 refine ta 6 27 hHeld ?_
 refine on 3 24 fun K hK => ?_
 refine gO Tryz.func125 #[.agg #[.bool m, .pointer p, .pointer pl, .pointer pr, .pointer none, .pointer none, .pointer none, .pointer none, .pointer none, .pointer none, .bool rt], .pointer pl] ?_
 with_reducible refine (left_any _ _ _ _ _ _ _ _ _ _ _ _ _ w _ HRpl.out HB0.out).mono ?_
 rintro e w31 ⟨v', rfl, h1, h2⟩
 obtain ⟨pll, rfl⟩ := h1.ptr
 have HRpll := Am h1
 have HB1 := Am (HB0.out.trans (h2.mono HB0.out.size))
 have HV1 := Am ((h2.block _ (Array.getElem?_eq_some_iff.1 HV0.out).1).trans HV0.out)
 have HG1 := Am ((h2.block _ (Array.getElem?_eq_some_iff.1 HG0.out).1).trans HG0.out)
 clear h1 h2 HB0 HV0 HG0
 refine ⟨_, rfl, ?_⟩
 refine hK.out _ _ (vc11 HV1.out) (fun hHeld => ?_)
 clear hK K
 refine nm 24 ?_
 refine pu 8 29 ?_
 refine on 7 28 fun K hK => ?_
 refine gO Tryz.func126 #[.agg #[.bool m, .pointer p, .pointer pl, .pointer pr, .pointer none, .pointer none, .pointer none, .pointer none, .pointer none, .pointer none, .bool rt], .pointer pl] ?_
 with_reducible refine (right_any _ _ _ _ _ _ _ _ _ _ _ _ _ w _ HRpl.out HB1.out).mono ?_
 rintro e w32 ⟨v', rfl, h1, h2⟩
 obtain ⟨plr, rfl⟩ := h1.ptr
 have HRplr := Am h1
 have HB2 := Am (HB1.out.trans (h2.mono HB1.out.size))
 have HV2 := Am ((h2.block _ (Array.getElem?_eq_some_iff.1 HV1.out).1).trans HV1.out)
 have HG2 := Am ((h2.block _ (Array.getElem?_eq_some_iff.1 HG1.out).1).trans HG1.out)
 clear h1 h2 HB1 HV1 HG1
 have hfa := frz_of HV2.out 4
 have hfb := frz_of HV2.out 5
 refine ⟨_, rfl, ?_⟩
 refine hK.out _ _ (vc11 HV2.out) (fun hHeld => ?_)
 clear hK K
 refine nm 28 ?_
 refine la0 9 (fun K hK => ?_)
 refine sk ?_
 refine hK.out _ _ ?_
 clear hK K
 refine pu 10 30 ?_
 refine la0 11 (fun K hK => ?_)
 refine sk ?_
 refine hK.out _ _ ?_
 clear hK K
 refine done_ (by kernel_rfl) ?_
 have HB := Am ((HB2.out.setCell (p := ⟨g, 4, none⟩) HGE.out (.pointer pll)).setCell (p := ⟨g, 5, none⟩) HGE.out (.pointer plr))
 have HV : Aside0 (((w32.setCell ⟨g, 4, none⟩ (.pointer pll)).setCell ⟨g, 5, none⟩ (.pointer plr)).heap[g]? = some (.cells #[.bool m, .pointer p, .pointer pl, .pointer pr, .pointer pll, .pointer plr, .pointer none, .pointer none, .pointer none, .pointer none, .bool rt] 121 (0, 0))) := ⟨put_blk (put_blk HV2.out 4 _) 5 _⟩
 have HG : Aside0 (((w32.setCell ⟨g, 4, none⟩ (.pointer pll)).setCell ⟨g, 5, none⟩ (.pointer plr)).heap[g6]? = some (.cells #[.bool false, .pointer none, .pointer none, .pointer none, .pointer none, .pointer none, .pointer none, .pointer none, .pointer none, .pointer none, .bool false] 121)) := ⟨(put_blk_ne HNE.out _ _).trans ((put_blk_ne HNE.out _ _).trans HG2.out)⟩
 clear HB2 HV2 HG2 hfa hfb
 generalize ((w32.setCell ⟨g, 4, none⟩ (.pointer pll)).setCell ⟨g, 5, none⟩ (.pointer plr)) = w3 at HB HV HG ⊢
 obtain ⟨hv30, hv31, hv32, hv33, hv34, hv35, hv36, hv37, hv38, hv39, hv310⟩ := vc11 HV.out
 go_wp2
 clear hv30 hv31 hv32 hv33 hv34 hv35 hv36 hv37 hv38 hv39 hv310
 have HB0 := Am (bd HB.out)
 have HV0 : Aside0 (w3.drew.heap[g]? = some (.cells #[.bool m, .pointer p, .pointer pl, .pointer pr, .pointer pll, .pointer plr, .pointer none, .pointer none, .pointer none, .pointer none, .bool rt] 121 (0, 0))) := ⟨HV.out⟩
 have HG0 : Aside0 (w3.drew.heap[g6]? = some (.cells #[.bool false, .pointer none, .pointer none, .pointer none, .pointer none, .pointer none, .pointer none, .pointer none, .pointer none, .pointer none, .bool false] 121)) := ⟨HG.out⟩
 clear HB HV HG
 refine sT 12 [9, 11] (S := fun w' => w'.cell? ⟨g, 0, none⟩ = some (.bool m) ∧ w'.cell? ⟨g, 1, none⟩ = some (.pointer p) ∧ w'.cell? ⟨g, 2, none⟩ = some (.pointer pl) ∧ w'.cell? ⟨g, 3, none⟩ = some (.pointer pr) ∧ w'.cell? ⟨g, 4, none⟩ = some (.pointer pll) ∧ w'.cell? ⟨g, 5, none⟩ = some (.pointer plr) ∧ w'.cell? ⟨g, 6, none⟩ = some (.pointer none) ∧ w'.cell? ⟨g, 7, none⟩ = some (.pointer none) ∧ w'.cell? ⟨g, 8, none⟩ = some (.pointer none) ∧ w'.cell? ⟨g, 9, none⟩ = some (.pointer none) ∧ w'.cell? ⟨g, 10, none⟩ = some (.bool rt)) (vc11 HV0.out) fun hHeld => ?_
 refine pu 1 32 ?_
 refine pu 5 36 ?_
 refine ta 0 31 hHeld ?_
 refine ta 2 33 hHeld ?_
 refine ta 4 35 hHeld ?_
 refine ta 6 37 hHeld ?_
 refine on 3 34 fun K hK => ?_
 refine gO Tryz.func125 #[.agg #[.bool m, .pointer p, .pointer pl, .pointer pr, .pointer pll, .pointer plr, .pointer none, .pointer none, .pointer none, .pointer none, .bool rt], .pointer pr] ?_
 with_reducible refine (left_any _ _ _ _ _ _ _ _ _ _ _ _ _ w _ HRpr.out HB0.out).mono ?_
 rintro e w41 ⟨v', rfl, h1, h2⟩
 obtain ⟨prl, rfl⟩ := h1.ptr
 have HRprl := Am h1
 have HB1 := Am (HB0.out.trans (h2.mono HB0.out.size))
 have HV1 := Am ((h2.block _ (Array.getElem?_eq_some_iff.1 HV0.out).1).trans HV0.out)
 have HG1 := Am ((h2.block _ (Array.getElem?_eq_some_iff.1 HG0.out).1).trans HG0.out)
 clear h1 h2 HB0 HV0 HG0
 refine ⟨_, rfl, ?_⟩
 refine hK.out _ _ (vc11 HV1.out) (fun hHeld => ?_)
 clear hK K
 refine nm 34 ?_
 refine pu 8 39 ?_
 refine on 7 38 fun K hK => ?_
 refine gO Tryz.func126 #[.agg #[.bool m, .pointer p, .pointer pl, .pointer pr, .pointer pll, .pointer plr, .pointer none, .pointer none, .pointer none, .pointer none, .bool rt], .pointer pr] ?_
 with_reducible refine (right_any _ _ _ _ _ _ _ _ _ _ _ _ _ w _ HRpr.out HB1.out).mono ?_
 rintro e w42 ⟨v', rfl, h1, h2⟩
 obtain ⟨prr, rfl⟩ := h1.ptr
 have HRprr := Am h1
 have HB2 := Am (HB1.out.trans (h2.mono HB1.out.size))
 have HV2 := Am ((h2.block _ (Array.getElem?_eq_some_iff.1 HV1.out).1).trans HV1.out)
 have HG2 := Am ((h2.block _ (Array.getElem?_eq_some_iff.1 HG1.out).1).trans HG1.out)
 clear h1 h2 HB1 HV1 HG1
 have hfa := frz_of HV2.out 6
 have hfb := frz_of HV2.out 7
 refine ⟨_, rfl, ?_⟩
 refine hK.out _ _ (vc11 HV2.out) (fun hHeld => ?_)
 clear hK K
 refine nm 38 ?_
 refine la0 9 (fun K hK => ?_)
 refine sk ?_
 refine hK.out _ _ ?_
 clear hK K
 refine pu 10 40 ?_
 refine la0 11 (fun K hK => ?_)
 refine sk ?_
 refine hK.out _ _ ?_
 clear hK K
 refine done_ (by kernel_rfl) ?_
 have HB := Am ((HB2.out.setCell (p := ⟨g, 6, none⟩) HGE.out (.pointer prl)).setCell (p := ⟨g, 7, none⟩) HGE.out (.pointer prr))
 have HV : Aside0 (((w42.setCell ⟨g, 6, none⟩ (.pointer prl)).setCell ⟨g, 7, none⟩ (.pointer prr)).heap[g]? = some (.cells #[.bool m, .pointer p, .pointer pl, .pointer pr, .pointer pll, .pointer plr, .pointer prl, .pointer prr, .pointer none, .pointer none, .bool rt] 121 (0, 0))) := ⟨put_blk (put_blk HV2.out 6 _) 7 _⟩
 have HG : Aside0 (((w42.setCell ⟨g, 6, none⟩ (.pointer prl)).setCell ⟨g, 7, none⟩ (.pointer prr)).heap[g6]? = some (.cells #[.bool false, .pointer none, .pointer none, .pointer none, .pointer none, .pointer none, .pointer none, .pointer none, .pointer none, .pointer none, .bool false] 121)) := ⟨(put_blk_ne HNE.out _ _).trans ((put_blk_ne HNE.out _ _).trans HG2.out)⟩
 clear HB2 HV2 HG2 hfa hfb
 generalize ((w42.setCell ⟨g, 6, none⟩ (.pointer prl)).setCell ⟨g, 7, none⟩ (.pointer prr)) = w4 at HB HV HG ⊢
 obtain ⟨hv40, hv41, hv42, hv43, hv44, hv45, hv46, hv47, hv48, hv49, hv410⟩ := vc11 HV.out
 go_wp2
 clear hv40 hv41 hv42 hv43 hv44 hv45 hv46 hv47 hv48 hv49 hv410
 have HB0 := Am (bd HB.out)
 have HV0 : Aside0 (w4.drew.heap[g]? = some (.cells #[.bool m, .pointer p, .pointer pl, .pointer pr, .pointer pll, .pointer plr, .pointer prl, .pointer prr, .pointer none, .pointer none, .bool rt] 121 (0, 0))) := ⟨HV.out⟩
 have HG0 : Aside0 (w4.drew.heap[g6]? = some (.cells #[.bool false, .pointer none, .pointer none, .pointer none, .pointer none, .pointer none, .pointer none, .pointer none, .pointer none, .pointer none, .bool false] 121)) := ⟨HG.out⟩
 clear HB HV HG
 refine sT 12 [9, 11] (S := fun w' => w'.cell? ⟨g, 0, none⟩ = some (.bool m) ∧ w'.cell? ⟨g, 1, none⟩ = some (.pointer p) ∧ w'.cell? ⟨g, 2, none⟩ = some (.pointer pl) ∧ w'.cell? ⟨g, 3, none⟩ = some (.pointer pr) ∧ w'.cell? ⟨g, 4, none⟩ = some (.pointer pll) ∧ w'.cell? ⟨g, 5, none⟩ = some (.pointer plr) ∧ w'.cell? ⟨g, 6, none⟩ = some (.pointer prl) ∧ w'.cell? ⟨g, 7, none⟩ = some (.pointer prr) ∧ w'.cell? ⟨g, 8, none⟩ = some (.pointer none) ∧ w'.cell? ⟨g, 9, none⟩ = some (.pointer none) ∧ w'.cell? ⟨g, 10, none⟩ = some (.bool rt)) (vc11 HV0.out) fun hHeld => ?_
 refine pu 1 42 ?_
 refine pu 5 46 ?_
 refine ta 0 41 hHeld ?_
 refine ta 2 43 hHeld ?_
 refine ta 4 45 hHeld ?_
 refine ta 6 47 hHeld ?_
 refine on 3 44 fun K hK => ?_
 refine gO Tryz.func125 #[.agg #[.bool m, .pointer p, .pointer pl, .pointer pr, .pointer pll, .pointer plr, .pointer prl, .pointer prr, .pointer none, .pointer none, .bool rt], .pointer prl] ?_
 with_reducible refine (left_any _ _ _ _ _ _ _ _ _ _ _ _ _ w _ HRprl.out HB0.out).mono ?_
 rintro e w51 ⟨v', rfl, h1, h2⟩
 obtain ⟨pa, rfl⟩ := h1.ptr
 have HRpa := Am h1
 have HB1 := Am (HB0.out.trans (h2.mono HB0.out.size))
 have HV1 := Am ((h2.block _ (Array.getElem?_eq_some_iff.1 HV0.out).1).trans HV0.out)
 have HG1 := Am ((h2.block _ (Array.getElem?_eq_some_iff.1 HG0.out).1).trans HG0.out)
 clear h1 h2 HB0 HV0 HG0
 refine ⟨_, rfl, ?_⟩
 refine hK.out _ _ (vc11 HV1.out) (fun hHeld => ?_)
 clear hK K
 refine nm 44 ?_
 refine pu 8 49 ?_
 refine on 7 48 fun K hK => ?_
 refine gO Tryz.func126 #[.agg #[.bool m, .pointer p, .pointer pl, .pointer pr, .pointer pll, .pointer plr, .pointer prl, .pointer prr, .pointer none, .pointer none, .bool rt], .pointer prl] ?_
 with_reducible refine (right_any _ _ _ _ _ _ _ _ _ _ _ _ _ w _ HRprl.out HB1.out).mono ?_
 rintro e w52 ⟨v', rfl, h1, h2⟩
 obtain ⟨pb, rfl⟩ := h1.ptr
 have HRpb := Am h1
 have HB2 := Am (HB1.out.trans (h2.mono HB1.out.size))
 have HV2 := Am ((h2.block _ (Array.getElem?_eq_some_iff.1 HV1.out).1).trans HV1.out)
 have HG2 := Am ((h2.block _ (Array.getElem?_eq_some_iff.1 HG1.out).1).trans HG1.out)
 clear h1 h2 HB1 HV1 HG1
 have hfa := frz_of HV2.out 8
 have hfb := frz_of HV2.out 9
 refine ⟨_, rfl, ?_⟩
 refine hK.out _ _ (vc11 HV2.out) (fun hHeld => ?_)
 clear hK K
 refine nm 48 ?_
 refine la0 9 (fun K hK => ?_)
 refine sk ?_
 refine hK.out _ _ ?_
 clear hK K
 refine pu 10 50 ?_
 refine la0 11 (fun K hK => ?_)
 refine sk ?_
 refine hK.out _ _ ?_
 clear hK K
 refine done_ (by kernel_rfl) ?_
 have HB := Am ((HB2.out.setCell (p := ⟨g, 8, none⟩) HGE.out (.pointer pa)).setCell (p := ⟨g, 9, none⟩) HGE.out (.pointer pb))
 have HV : Aside0 (((w52.setCell ⟨g, 8, none⟩ (.pointer pa)).setCell ⟨g, 9, none⟩ (.pointer pb)).heap[g]? = some (.cells #[.bool m, .pointer p, .pointer pl, .pointer pr, .pointer pll, .pointer plr, .pointer prl, .pointer prr, .pointer pa, .pointer pb, .bool rt] 121 (0, 0))) := ⟨put_blk (put_blk HV2.out 8 _) 9 _⟩
 have HG : Aside0 (((w52.setCell ⟨g, 8, none⟩ (.pointer pa)).setCell ⟨g, 9, none⟩ (.pointer pb)).heap[g6]? = some (.cells #[.bool false, .pointer none, .pointer none, .pointer none, .pointer none, .pointer none, .pointer none, .pointer none, .pointer none, .pointer none, .bool false] 121)) := ⟨(put_blk_ne HNE.out _ _).trans ((put_blk_ne HNE.out _ _).trans HG2.out)⟩
 clear HB2 HV2 HG2 hfa hfb
 generalize ((w52.setCell ⟨g, 8, none⟩ (.pointer pa)).setCell ⟨g, 9, none⟩ (.pointer pb)) = w5 at HB HV HG ⊢
 obtain ⟨hv50, hv51, hv52, hv53, hv54, hv55, hv56, hv57, hv58, hv59, hv510⟩ := vc11 HV.out
 have hz0 : w5.cell? ⟨g6, 0, none⟩ = some (.bool false) := (cell_of HG.out 0).trans rfl
 have hf0 := frz_of HG.out 0
 have hz1 : w5.cell? ⟨g6, 1, none⟩ = some (.pointer none) := (cell_of HG.out 1).trans rfl
 have hf1 := frz_of HG.out 1
 have hz2 : w5.cell? ⟨g6, 2, none⟩ = some (.pointer none) := (cell_of HG.out 2).trans rfl
 have hf2 := frz_of HG.out 2
 have hz3 : w5.cell? ⟨g6, 3, none⟩ = some (.pointer none) := (cell_of HG.out 3).trans rfl
 have hf3 := frz_of HG.out 3
 have hz4 : w5.cell? ⟨g6, 4, none⟩ = some (.pointer none) := (cell_of HG.out 4).trans rfl
 have hf4 := frz_of HG.out 4
 have hz5 : w5.cell? ⟨g6, 5, none⟩ = some (.pointer none) := (cell_of HG.out 5).trans rfl
 have hf5 := frz_of HG.out 5
 have hz6 : w5.cell? ⟨g6, 6, none⟩ = some (.pointer none) := (cell_of HG.out 6).trans rfl
 have hf6 := frz_of HG.out 6
 have hz7 : w5.cell? ⟨g6, 7, none⟩ = some (.pointer none) := (cell_of HG.out 7).trans rfl
 have hf7 := frz_of HG.out 7
 have hz8 : w5.cell? ⟨g6, 8, none⟩ = some (.pointer none) := (cell_of HG.out 8).trans rfl
 have hf8 := frz_of HG.out 8
 have hz9 : w5.cell? ⟨g6, 9, none⟩ = some (.pointer none) := (cell_of HG.out 9).trans rfl
 have hf9 := frz_of HG.out 9
 have hz10 : w5.cell? ⟨g6, 10, none⟩ = some (.bool false) := (cell_of HG.out 10).trans rfl
 have hf10 := frz_of HG.out 10
 have hfin := look_fin HB.out HG6.out HRpl.out HRpr.out HRpll.out HRplr.out HRprl.out HRprr.out HRpa.out HRpb.out (m := m) (p := p) (rt := rt)
 have HF := Am hfin
 clear hfin
 go_wp2
 have hG := put11 HG.out (.bool m) (.pointer p) (.pointer pl) (.pointer pr) (.pointer pll) (.pointer plr) (.pointer prl) (.pointer prr) (.pointer pa) (.pointer pb) (.bool rt)
 have hBF := below11 HB.out HG6.out (.bool m) (.pointer p) (.pointer pl) (.pointer pr) (.pointer pll) (.pointer plr) (.pointer prl) (.pointer prr) (.pointer pa) (.pointer pb) (.bool rt)
 clear HG HB HV
 generalize (((((((((((w5.setCell ⟨g6, 0, none⟩ (.bool m)).setCell ⟨g6, 1, none⟩ (.pointer p)).setCell ⟨g6, 2, none⟩ (.pointer pl)).setCell ⟨g6, 3, none⟩ (.pointer pr)).setCell ⟨g6, 4, none⟩ (.pointer pll)).setCell ⟨g6, 5, none⟩ (.pointer plr)).setCell ⟨g6, 6, none⟩ (.pointer prl)).setCell ⟨g6, 7, none⟩ (.pointer prr)).setCell ⟨g6, 8, none⟩ (.pointer pa)).setCell ⟨g6, 9, none⟩ (.pointer pb)).setCell ⟨g6, 10, none⟩ (.bool rt)) = w6 at hG hBF ⊢
 obtain ⟨hs0, hs1, hs2, hs3, hs4, hs5, hs6, hs7, hs8, hs9, hs10⟩ := vc11 hG
 refine bodyPost_ret (v := .agg #[.bool m, .pointer p, .pointer pl, .pointer pr, .pointer pll, .pointer plr, .pointer prl, .pointer prr, .pointer pa, .pointer pb, .bool rt]) (by simp [results, Tryz.results71, go_sem, hs0, hs1, hs2, hs3, hs4, hs5, hs6, hs7, hs8, hs9, hs10]) rfl (HF.out _ hBF)
end
def nb (B : Nat) (j : Nat) : Option Addr := some ⟨B + 2 + 2 * j, 0, none⟩
def lpV (B : Nat) (t : List S69) (j : Nat) : Option Addr := if 0 ≤ (t.getD j z69).f4 then nb B (t.getD j z69).f4.toNat else none
def rpV (B : Nat) (t : List S69) (j : Nat) : Option Addr := if 0 ≤ (t.getD j z69).f4 then nb B (t.getD j z69).f5.toNat else none
structure Forest (w W : World) (t : List S69) (n1 n2 : Nat) : Prop where
 ptrs : W.rowIs w.heap.size 119 t.length (fun j => .pointer (if j < n1 then nb w.heap.size j else none))
 nodes : ∀ j, j < n1 → W.heap[w.heap.size + 2 + 2 * j]? = some (.cells (ndCells (t.getD j z69) j (.pointer (if j < n2 then lpV w.heap.size t j else none)) (.pointer (if j < n2 then rpV w.heap.size t j else none))) 126 (0, 0))
 bel : Below w.heap.size w W
theorem rowIs_put {w : World} {b : Nat} {t : TypeId} {n : Nat} {f : Nat → Value} (h : w.rowIs b t n f) (i : Nat) (v : Value) : (w.setCell ⟨b, i, none⟩ v).rowIs b t n (fun j => if j = i then v else f j) := by
 obtain ⟨c, hb, hc, hf⟩ := h
 refine ⟨c.setIfInBounds i v, put_blk hb i v, by simpa using hc, fun j hj => ?_⟩
 rw [Array.getElem?_setIfInBounds]
 by_cases e : i = j
 ·subst e; simp [hc, hj]
 ·rw [if_neg e]; simp only [if_neg (show ¬ j = i from fun h => e h.symm)]; exact hf j hj
theorem rowIs_blk {w w' : World} {b : Nat} {t : TypeId} {n : Nat} {f : Nat → Value} (h : w.rowIs b t n f) (hb : w'.heap[b]? = w.heap[b]?) : w'.rowIs b t n f := by
 obtain ⟨c, h1, h2⟩ := h
 exact ⟨c, hb.trans h1, h2⟩
theorem rowIs_cell {w : World} {b : Nat} {t : TypeId} {n : Nat} {f : Nat → Value} (h : w.rowIs b t n f) (i : Nat) (hi : i < n) : w.cell? ⟨b, i, none⟩ = some (f i) := by
 obtain ⟨c, h1, h2, h3⟩ := h
 exact (cell_of h1 i).trans (h3 i hi)
theorem rowIs_frz {w : World} {b : Nat} {t : TypeId} {n : Nat} {f : Nat → Value} (h : w.rowIs b t n f) (i : Nat) : w.frozen? ⟨b, i, none⟩ = false := by
 obtain ⟨c, h1, _⟩ := h
 exact frz_of h1 i
theorem rowIs_lt {w : World} {b : Nat} {t : TypeId} {n : Nat} {f : Nat → Value} (h : w.rowIs b t n f) : b < w.heap.size := by
 obtain ⟨c, h1, _⟩ := h
 exact (Array.getElem?_eq_some_iff.1 h1).1
theorem rowIs_congr {w : World} {b : Nat} {t : TypeId} {n : Nat} {f g : Nat → Value} (h : w.rowIs b t n f) (hfg : ∀ j, j < n → f j = g j) : w.rowIs b t n g := by
 obtain ⟨c, h1, h2, h3⟩ := h
 exact ⟨c, h1, h2, fun i hi => (h3 i hi).trans (by rw [hfg i hi])⟩
theorem forest_start (w : World) (t : List S69) : Forest w (w.alloc (.cells (madeCells #[.pointer none] t.length) 119)) t 0 0 := by
 refine ⟨?_, fun j h => absurd h (Nat.not_lt_zero _), (Below.refl _ _).alloc (Nat.le_refl _) _⟩
 have h := World.rowIs_made w (.pointer none) t.length 119
 exact rowIs_congr h (fun j _ => by simp)
theorem forest_step1 {w wr : World} {t : List S69} {i : Nat} (hi : i < t.length) (h : Forest w wr t i 0) (hs : wr.heap.size = w.heap.size + 1 + 2 * i) (o : Obj) :
  Forest w (((wr.setCell ⟨w.heap.size, i, none⟩ (.pointer (some ⟨wr.heap.size + 1, 0, none⟩))).alloc o).alloc (.cells (ndCells (t.getD i z69) i (.pointer none) (.pointer none)) 126)) t (i + 1) 0
  ∧ (((wr.setCell ⟨w.heap.size, i, none⟩ (.pointer (some ⟨wr.heap.size + 1, 0, none⟩))).alloc o).alloc (.cells (ndCells (t.getD i z69) i (.pointer none) (.pointer none)) 126)).heap.size = w.heap.size + 1 + 2 * (i + 1) := by
 have hsz : (wr.setCell ⟨w.heap.size, i, none⟩ (.pointer (some ⟨wr.heap.size + 1, 0, none⟩))).heap.size = wr.heap.size := by simp [World.setCell]
 refine ⟨⟨?_, fun j hj => ?_, ?_⟩, ?_⟩
 ·have h1 := rowIs_put h.ptrs i (.pointer (some ⟨wr.heap.size + 1, 0, none⟩))
  refine rowIs_congr (rowIs_blk h1 ?_) (fun j hj => ?_)
  ·rw [Below.heap_alloc _ _ _ (by rw [World.size_alloc, hsz]; omega), Below.heap_alloc _ _ _ (by rw [hsz]; omega)]
  ·by_cases e : j = i
   ·subst e; simp only [if_pos (show j < j + 1 by omega), nb, hs]; rw [show w.heap.size + 1 + 2 * j + 1 = w.heap.size + 2 + 2 * j by omega]; simp
   ·by_cases e2 : j < i
    ·simp only [if_neg e, if_pos e2, if_pos (show j < i + 1 by omega)]
    ·simp only [if_neg e, if_neg e2, if_neg (show ¬ j < i + 1 by omega)]
 ·by_cases e : j = i
  ·subst e
   have h2 := heap_alloc_new ((wr.setCell ⟨w.heap.size, j, none⟩ (.pointer (some ⟨wr.heap.size + 1, 0, none⟩))).alloc o) (.cells (ndCells (t.getD j z69) j (.pointer none) (.pointer none)) 126)
   rw [World.size_alloc, hsz, hs] at h2
   rw [show w.heap.size + 2 + 2 * j = w.heap.size + 1 + 2 * j + 1 by omega]
   rw [hs]
   exact h2
  ·rw [Below.heap_alloc _ _ _ (by rw [World.size_alloc, hsz]; omega), Below.heap_alloc _ _ _ (by rw [hsz]; omega), Below.heap_setCell _ _ _ _ (by show _ ≠ w.heap.size; omega)]
   exact h.nodes j (by omega)
 ·exact ((h.bel.setCell (p := ⟨w.heap.size, i, none⟩) (Nat.le_refl _) _).alloc (by rw [hsz]; omega) _).alloc (by rw [World.size_alloc, hsz]; omega) _
 ·rw [World.size_alloc, World.size_alloc, hsz]; omega
theorem forest_skip {w wr : World} {t : List S69} {i : Nat} (h : Forest w wr t t.length i) (hl : ¬ 0 ≤ (t.getD i z69).f4) (o : Obj) : Forest w (wr.alloc o) t t.length (i + 1) := by
 have hB := rowIs_lt h.ptrs
 refine ⟨rowIs_blk h.ptrs (Below.heap_alloc _ _ _ hB), fun j hj => ?_, h.bel.alloc h.bel.size _⟩
 have hn := h.nodes j hj
 rw [Below.heap_alloc _ _ _ (Array.getElem?_eq_some_iff.1 hn).1, hn]
 by_cases e : j < i
 ·simp only [if_pos e, if_pos (show j < i + 1 by omega)]
 ·by_cases e2 : j = i
  ·subst e2; simp only [if_neg e, if_pos (show j < j + 1 by omega), lpV, rpV, if_neg hl]
  ·simp only [if_neg e, if_neg (show ¬ j < i + 1 by omega)]
theorem forest_alloc {w wr : World} {t : List S69} {n1 n2 : Nat} (h : Forest w wr t n1 n2) (o : Obj) : Forest w (wr.alloc o).drew t n1 n2 :=
 ⟨rowIs_blk h.ptrs (Below.heap_alloc _ _ _ (rowIs_lt h.ptrs)), fun j hj => (Below.heap_alloc _ _ _ (Array.getElem?_eq_some_iff.1 (h.nodes j hj)).1).trans (h.nodes j hj), (h.bel.alloc h.bel.size _).drew⟩
theorem forest_link {w wr : World} {t : List S69} {i : Nat} (h : Forest w wr t t.length i) (hl : 0 ≤ (t.getD i z69).f4) :
  Forest w ((wr.setCell ⟨w.heap.size + 2 + 2 * i, 7, none⟩ (.pointer (nb w.heap.size (t.getD i z69).f4.toNat))).setCell ⟨w.heap.size + 2 + 2 * i, 8, none⟩ (.pointer (nb w.heap.size (t.getD i z69).f5.toNat))) t t.length (i + 1) := by
 refine ⟨rowIs_blk h.ptrs ?_, fun j hj => ?_, ?_⟩
 ·rw [Below.heap_setCell _ _ _ _ (by show _ ≠ _; simp; omega), Below.heap_setCell _ _ _ _ (by show _ ≠ _; simp; omega)]
 ·have hn2 := h.nodes j hj
  by_cases e2 : j = i
  ·subst e2
   have h3 := put_blk (put_blk hn2 7 (.pointer (nb w.heap.size (t.getD j z69).f4.toNat))) 8 (.pointer (nb w.heap.size (t.getD j z69).f5.toNat))
   rw [h3]
   simp only [if_pos (show j < j + 1 by omega), lpV, rpV, if_pos hl]
   rfl
  ·rw [Below.heap_setCell _ _ _ _ (by show _ ≠ _; simp; omega), Below.heap_setCell _ _ _ _ (by show _ ≠ _; simp; omega), hn2]
   by_cases e : j < i
   ·simp only [if_pos e, if_pos (show j < i + 1 by omega)]
   ·simp only [if_neg e, if_neg (show ¬ j < i + 1 by omega)]
 ·exact (h.bel.setCell (p := ⟨w.heap.size + 2 + 2 * i, 7, none⟩) (by simp; omega) _).setCell (p := ⟨w.heap.size + 2 + 2 * i, 8, none⟩) (by simp; omega) _
theorem info119 : (Tryz.prog.info? 119).map (fun i => (i.zero, i.size, i.bytes)) = some (some (.pointer none), 1, 8) := by kernel_rfl
def GrowPost (w : World) (t : List S69) (e : Ending) (w' : World) : Prop := e = .returned (.slice (some ⟨w.heap.size, 0, none⟩) t.length t.length) ∧ Forest w w' t t.length t.length
def ndL' (n : S69) : List Value := [.int .i64 n.f0, .int .i64 n.f1, .int .i64 n.f2, .int .i64 n.f3, .int .i64 n.f4, .int .i64 n.f5]
theorem grow_any (A0 : Option Addr) (c0 : Nat) (t : List S69) (w : World) (hr0 : Kd.C k69 w A0 t.length t) (hn : t.length ≤ 1000000)
  (hc : ∀ i, i < t.length → 0 ≤ (t.getD i z69).f4 → (t.getD i z69).f4 < t.length ∧ 0 ≤ (t.getD i z69).f5 ∧ (t.getD i z69).f5 < t.length) :
  Calls Tryz.prog 124 #[.slice A0 t.length c0] w fun e w' => GrowPost w t e w' := by
 have hu34 := Tryz.underlying69
 have hu116 := Tryz.underlying126
 have HR0 := Am hr0
 have HC := Am hc
 clear hr0 hc
 have hmk := fun W => run_make_row' (P := Tryz.prog) 116 119 (.pointer none) 8 Tryz.underlying116 info119 rfl .i64 .i64 t.length (by omega) (by omega) W
 have hfin : ∀ w', Forest w w' t t.length t.length → GrowPost w t (.returned (.slice (some ⟨w.heap.size, 0, none⟩) t.length t.length)) w' := fun w' h => ⟨rfl, h⟩
 have HF := Am hfin
 clear hfin
 go_enter Tryz.func124, Tryz.ntmps124
 go_wp2
 go_loopg [13] t.length (fun gk vi wr => ∃ i : Nat, vi = .int .i64 (i : Int) ∧ i ≤ t.length ∧ Aside0 (gk + i = t.length) ∧ Aside0 (Forest w wr t i 0) ∧ Aside0 (wr.heap.size = w.heap.size + 1 + 2 * i))
 case atStart => exact ⟨0, rfl, Nat.zero_le _, ⟨rfl⟩, ⟨forest_start w t⟩, ⟨by simp⟩⟩
 case round =>
  clear hmk
  obtain ⟨i, rfl, hil, HK, HFo, HS⟩ := hrel
  by_cases hlt : i < t.length
  ·have HBL := Am HFo.out.bel
   obtain ⟨adX, eX, hx0, hx1, hx2, hx3, hx4, hx5⟩ := at_T69 HR0.out (i : Int) (by omega) (by omega)
   cases eX
   replace hx0 := (HBL.out.cell (blt w _ hx0)).trans hx0
   replace hx1 := (HBL.out.cell (blt w _ hx1)).trans hx1
   replace hx2 := (HBL.out.cell (blt w _ hx2)).trans hx2
   replace hx3 := (HBL.out.cell (blt w _ hx3)).trans hx3
   replace hx4 := (HBL.out.cell (blt w _ hx4)).trans hx4
   replace hx5 := (HBL.out.cell (blt w _ hx5)).trans hx5
   simp only [Int.toNat_natCast] at hx0 hx1 hx2 hx3 hx4 hx5
   have hcB : wr.cell? ⟨w.heap.size, i, none⟩ = some (.pointer none) := (rowIs_cell HFo.out.ptrs i hlt).trans (by simp)
   have hfB : wr.frozen? ⟨w.heap.size, i, none⟩ = false := rowIs_frz HFo.out.ptrs i
   have hBl : w.heap.size < wr.heap.size := rowIs_lt HFo.out.ptrs
   have dlt : decide (i < t.length) = true := decide_eq_true hlt
   have hst := forest_step1 hlt HFo.out HS.out (.cells (ndL' (rd_T69 t i)).toArray 69)
   have HST := Am hst
   clear hst
   go_wp2
   go_roundg (gk - 1)
   case measure => have := HK.out; omega
   case rel => exact ⟨i + 1, by go_num, by omega, ⟨by have := HK.out; omega⟩, ⟨HST.out.1⟩, ⟨HST.out.2⟩⟩
  ·obtain rfl : i = t.length := by omega
   have dlt : decide (t.length < t.length) = false := decide_eq_false (Nat.lt_irrefl _)
   clear hlt
   go_wp2
   go_loopg [28] t.length (fun gk vi wr => ∃ i : Nat, vi = .int .i64 (i : Int) ∧ i ≤ t.length ∧ Aside0 (gk + i = t.length) ∧ Aside0 (Forest w wr t t.length i))
   case atStart => exact ⟨0, rfl, Nat.zero_le _, ⟨rfl⟩, HFo⟩
   case round =>
    clear dlt HFo HS HK
    obtain ⟨i, rfl, hil, HK, HFo⟩ := hrel
    by_cases hlt : i < t.length
    ·have HBL := Am HFo.out.bel
     obtain ⟨adX, eX, hx0, hx1, hx2, hx3, hx4, hx5⟩ := at_T69 HR0.out (i : Int) (by omega) (by omega)
     cases eX
     replace hx0 := (HBL.out.cell (blt w _ hx0)).trans hx0
     replace hx1 := (HBL.out.cell (blt w _ hx1)).trans hx1
     replace hx2 := (HBL.out.cell (blt w _ hx2)).trans hx2
     replace hx3 := (HBL.out.cell (blt w _ hx3)).trans hx3
     replace hx4 := (HBL.out.cell (blt w _ hx4)).trans hx4
     replace hx5 := (HBL.out.cell (blt w _ hx5)).trans hx5
     simp only [Int.toNat_natCast] at hx0 hx1 hx2 hx3 hx4 hx5
     have dlt : decide (i < t.length) = true := decide_eq_true hlt
     have hBl : w.heap.size < wr.heap.size := rowIs_lt HFo.out.ptrs
     by_cases hL : 0 ≤ (rd_T69 t i).f4
     ·have dL : decide (0 ≤ (rd_T69 t i).f4) = true := decide_eq_true hL
      obtain ⟨hL2, hR1, hR2⟩ : (rd_T69 t i).f4 < t.length ∧ 0 ≤ (rd_T69 t i).f5 ∧ (rd_T69 t i).f5 < t.length := HC.out i hlt hL
      have HEL := Am (show (t.getD i z69).f4 = (rd_T69 t i).f4 from rfl)
      have HER := Am (show (t.getD i z69).f5 = (rd_T69 t i).f5 from rfl)
      have hpI : wr.cell? ⟨w.heap.size, i, none⟩ = some (.pointer (some ⟨w.heap.size + 2 + 2 * i, 0, none⟩)) := (rowIs_cell HFo.out.ptrs (i) (by omega)).trans (by rw [if_pos (by omega)]; rfl)
      have hpL : wr.cell? ⟨w.heap.size, (rd_T69 t i).f4.toNat, none⟩ = some (.pointer (some ⟨w.heap.size + 2 + 2 * (rd_T69 t i).f4.toNat, 0, none⟩)) := (rowIs_cell HFo.out.ptrs ((rd_T69 t i).f4.toNat) (by omega)).trans (by rw [if_pos (by omega)]; rfl)
      have hpR : wr.cell? ⟨w.heap.size, (rd_T69 t i).f5.toNat, none⟩ = some (.pointer (some ⟨w.heap.size + 2 + 2 * (rd_T69 t i).f5.toNat, 0, none⟩)) := (rowIs_cell HFo.out.ptrs ((rd_T69 t i).f5.toNat) (by omega)).trans (by rw [if_pos (by omega)]; rfl)
      have hnI := HFo.out.nodes i hlt
      have hIl : w.heap.size + 2 + 2 * i < wr.heap.size := (Array.getElem?_eq_some_iff.1 hnI).1
      have hlk := fun o => forest_alloc (forest_link HFo.out hL) o
      have HLK := Am hlk
      have HNI := Am hnI
      clear hlk hnI
      go_wp2_with (fail)
      have hbd : Below wr.heap.size wr (wr.alloc (.cells #[.int .i64 (rd_T69 t i).f0, .int .i64 (rd_T69 t i).f1, .int .i64 (rd_T69 t i).f2, .int .i64 (rd_T69 t i).f3, .int .i64 (rd_T69 t i).f4, .int .i64 (rd_T69 t i).f5] 69)).drew := (((Below.refl _ _).alloc (Nat.le_refl _) _).drew)
      have HBD := Am hbd
      clear hbd
      have hf7 := frz_of HNI.out 7
      have hf8 := frz_of HNI.out 8
      have ho7 : wr.cell? ⟨w.heap.size + 2 + 2 * i, 7, none⟩ = some (.pointer none) := (cell_of HNI.out 7).trans (by simp [ndCells])
      have ho8 : wr.cell? ⟨w.heap.size + 2 + 2 * i, 8, none⟩ = some (.pointer none) := (cell_of HNI.out 8).trans (by simp [ndCells])
      have hsa : (wr.alloc (.cells #[.int .i64 (rd_T69 t i).f0, .int .i64 (rd_T69 t i).f1, .int .i64 (rd_T69 t i).f2, .int .i64 (rd_T69 t i).f3, .int .i64 (rd_T69 t i).f4, .int .i64 (rd_T69 t i).f5] 69)).drew.cell? ⟨w.heap.size, i, none⟩ = some (.pointer (some ⟨w.heap.size + 2 + 2 * i, 0, none⟩)) := cell_al _ hpI
      have hsb : (wr.alloc (.cells #[.int .i64 (rd_T69 t i).f0, .int .i64 (rd_T69 t i).f1, .int .i64 (rd_T69 t i).f2, .int .i64 (rd_T69 t i).f3, .int .i64 (rd_T69 t i).f4, .int .i64 (rd_T69 t i).f5] 69)).drew.cell? ⟨w.heap.size, (rd_T69 t i).f4.toNat, none⟩ = some (.pointer (some ⟨w.heap.size + 2 + 2 * (rd_T69 t i).f4.toNat, 0, none⟩)) := cell_al _ hpL
      have hsc : (wr.alloc (.cells #[.int .i64 (rd_T69 t i).f0, .int .i64 (rd_T69 t i).f1, .int .i64 (rd_T69 t i).f2, .int .i64 (rd_T69 t i).f3, .int .i64 (rd_T69 t i).f4, .int .i64 (rd_T69 t i).f5] 69)).drew.cell? ⟨w.heap.size, (rd_T69 t i).f5.toNat, none⟩ = some (.pointer (some ⟨w.heap.size + 2 + 2 * (rd_T69 t i).f5.toNat, 0, none⟩)) := cell_al _ hpR
      have hsd : (wr.alloc (.cells #[.int .i64 (rd_T69 t i).f0, .int .i64 (rd_T69 t i).f1, .int .i64 (rd_T69 t i).f2, .int .i64 (rd_T69 t i).f3, .int .i64 (rd_T69 t i).f4, .int .i64 (rd_T69 t i).f5] 69)).drew.cell? ⟨wr.heap.size, 4, none⟩ = some (.int .i64 (rd_T69 t i).f4) := World.cell?_alloc_at _ _ _ _ rfl
      have hse : (wr.alloc (.cells #[.int .i64 (rd_T69 t i).f0, .int .i64 (rd_T69 t i).f1, .int .i64 (rd_T69 t i).f2, .int .i64 (rd_T69 t i).f3, .int .i64 (rd_T69 t i).f4, .int .i64 (rd_T69 t i).f5] 69)).drew.cell? ⟨wr.heap.size, 5, none⟩ = some (.int .i64 (rd_T69 t i).f5) := World.cell?_alloc_at _ _ _ _ rfl
      skip
      refine sT 24 [20, 23] (S := fun w' => w'.cell? ⟨w.heap.size, i, none⟩ = some (.pointer (some ⟨w.heap.size + 2 + 2 * i, 0, none⟩)) ∧ w'.cell? ⟨w.heap.size, (rd_T69 t i).f4.toNat, none⟩ = some (.pointer (some ⟨w.heap.size + 2 + 2 * (rd_T69 t i).f4.toNat, 0, none⟩)) ∧ w'.cell? ⟨w.heap.size, (rd_T69 t i).f5.toNat, none⟩ = some (.pointer (some ⟨w.heap.size + 2 + 2 * (rd_T69 t i).f5.toNat, 0, none⟩)) ∧ w'.cell? ⟨wr.heap.size, 4, none⟩ = some (.int .i64 (rd_T69 t i).f4) ∧ w'.cell? ⟨wr.heap.size, 5, none⟩ = some (.int .i64 (rd_T69 t i).f5)) ⟨hsa, hsb, hsc, hsd, hse⟩ fun hHeld => ?_
      refine pu 0 36 ?_
      refine pu 1 37 ?_
      refine pu 2 38 ?_
      refine pu 4 40 ?_
      refine pu 5 41 ?_
      refine pu 6 42 ?_
      refine pu 8 44 ?_
      refine pu 9 45 ?_
      refine pu 13 49 ?_
      refine pu 14 50 ?_
      refine ta 3 39 hHeld ?_
      refine ta 7 43 hHeld ?_
      refine ta 10 46 hHeld ?_
      refine pu 11 47 ?_
      refine ta 12 48 hHeld ?_
      refine ta 15 51 hHeld ?_
      refine pu 16 52 ?_
      refine ta 17 53 hHeld ?_
      refine pu 18 54 ?_
      refine pu 19 55 ?_
      refine la0 20 (fun K hK => ?_)
      refine sk ?_
      refine hK.out _ _ ?_
      clear hK K
      refine pu 21 56 ?_
      refine pu 22 57 ?_
      refine la0 23 (fun K hK => ?_)
      refine sk ?_
      refine hK.out _ _ ?_
      clear hK K
      refine done_ (by kernel_rfl) ?_
      go_wp2
      go_roundg (gk - 1)
      case measure => have := HK.out; omega
      case rel => exact ⟨i + 1, by go_num, by omega, ⟨by have := HK.out; omega⟩, ⟨HLK.out _⟩⟩
     ·have dL : decide (0 ≤ (rd_T69 t i).f4) = false := decide_eq_false hL
      have hsk := forest_skip HFo.out hL (.cells (ndL' (rd_T69 t i)).toArray 69)
      have HSK := Am hsk
      clear hsk
      go_wp2
      go_roundg (gk - 1)
      case measure => have := HK.out; omega
      case rel => exact ⟨i + 1, by go_num, by omega, ⟨by have := HK.out; omega⟩, ⟨HSK.out⟩⟩
    ·obtain rfl : i = t.length := by omega
     have dlt : decide (t.length < t.length) = false := decide_eq_false (Nat.lt_irrefl _)
     clear hlt
     go_wp2
     go_ret
     exact HF.out _ HFo.out
def mkT (t : List S69) : Nat → Nat → Option Tr
 | 0, _ => none
 | k + 1, i => if i < t.length then (if 0 ≤ (t.getD i z69).f4 then (mkT t k (t.getD i z69).f4.toNat).bind fun l => (mkT t k (t.getD i z69).f5.toNat).bind fun r => some (.node (t.getD i z69) i l r) else some (.node (t.getD i z69) i .nil .nil)) else none
def mkR (t : List S69) (c : Nat) (R : Tr) : Nat → Nat → Option Tr
 | 0, _ => none
 | k + 1, i => if i < t.length then (if 0 ≤ (t.getD i z69).f4 then (if (t.getD i z69).f4.toNat = c then some R else mkR t c R k (t.getD i z69).f4.toNat).bind fun l => (if (t.getD i z69).f5.toNat = c then some R else mkR t c R k (t.getD i z69).f5.toNat).bind fun r => some (.node (t.getD i z69) i l r) else some (.node (t.getD i z69) i .nil .nil)) else none
theorem mkT_mono (t : List S69) : ∀ (k i : Nat) (T : Tr), mkT t k i = some T → mkT t (k + 1) i = some T := by
 intro k
 induction k with
 | zero => intro i T h; simp [mkT] at h
 | succ k ih =>
  intro i T h
  rw [mkT] at h ⊢
  split at h
  ·rename_i h1
   rw [if_pos h1]
   split at h
   ·rename_i h2
    rw [if_pos h2]
    obtain ⟨l, hl, h⟩ := Option.bind_eq_some_iff.1 h
    obtain ⟨r, hr, h⟩ := Option.bind_eq_some_iff.1 h
    rw [ih _ _ hl, Option.bind_some, ih _ _ hr, Option.bind_some]
    exact h
   ·rename_i h2
    rw [if_neg h2]
    exact h
  ·exact absurd h (by simp)
theorem mkT_le (t : List S69) {k k' i : Nat} {T : Tr} (hk : k ≤ k') (h : mkT t k i = some T) : mkT t k' i = some T := by
 induction hk with
 | refl => exact h
 | step _ ih => exact mkT_mono t _ _ _ ih
theorem mkT_fun (t : List S69) {k k' i : Nat} {T T' : Tr} (h : mkT t k i = some T) (h' : mkT t k' i = some T') : T = T' := by
 rcases Nat.le_total k k' with hk | hk
 ·have := mkT_le t hk h; rw [this] at h'; exact Option.some.inj h'
 ·have := mkT_le t hk h'; rw [this] at h; exact (Option.some.inj h).symm
def sizeN : Tr → Nat
 | .nil => 0
 | .node _ _ l r => 1 + sizeN l + sizeN r
def childOf (t : List S69) (i c : Nat) : Prop := 0 ≤ (t.getD i z69).f4 ∧ ((t.getD i z69).f4.toNat = c ∨ (t.getD i z69).f5.toNat = c)
def SetC (B : Nat) (t : List S69) (c : Nat) (b : Nat) : Prop := ∃ j, b = B + 2 + 2 * j ∧ j < t.length ∧ ¬ childOf t j c
theorem forest_rep {wg W : World} {t : List S69} (hf : Forest wg W t t.length t.length) {c K : Nat} {X : Tr} (hX : mkT t K c = some X) :
  ∀ (k i : Nat) (T : Tr), mkT t k i = some T → sizeN T ≤ sizeN X → Rep (SetC wg.heap.size t c) W (.pointer (nb wg.heap.size i)) T := by
 intro k
 induction k with
 | zero => intro i T h; simp [mkT] at h
 | succ k ih =>
  intro i T h hs
  have h0 := h
  rw [mkT] at h
  split at h
  ·rename_i h1
   have hn := hf.nodes i h1
   simp only [if_pos h1] at hn
   split at h
   ·rename_i h2
    obtain ⟨l, hl, h⟩ := Option.bind_eq_some_iff.1 h
    obtain ⟨r, hr, h⟩ := Option.bind_eq_some_iff.1 h
    obtain rfl := Option.some.inj h
    simp only [sizeN] at hs
    refine ⟨_, _, _, rfl, hn, ?_, ?_, i, rfl, h1, ?_⟩
    ·rw [lpV, if_pos h2]; exact ih _ _ hl (by omega)
    ·rw [rpV, if_pos h2]; exact ih _ _ hr (by omega)
    ·rintro ⟨_, hc | hc⟩
     ·rw [hc] at hl; have := mkT_fun t hl hX; subst this; omega
     ·rw [hc] at hr; have := mkT_fun t hr hX; subst this; omega
   ·rename_i h2
    obtain rfl := Option.some.inj h
    refine ⟨_, _, _, rfl, hn, ?_, ?_, i, rfl, h1, fun hc => h2 hc.1⟩
    ·rw [lpV, if_neg h2]; rfl
    ·rw [rpV, if_neg h2]; rfl
  ·exact absurd h (by simp)
structure Forest2 (w W : World) (t : List S69) (c : Nat) (q : Option Addr) (n2 : Nat) : Prop where
 ptrs : W.rowIs w.heap.size 119 t.length (fun j => .pointer (nb w.heap.size j))
 nodes : ∀ j, j < t.length → W.heap[w.heap.size + 2 + 2 * j]? = some (.cells (ndCells (t.getD j z69) j (.pointer (if j < n2 ∧ 0 ≤ (t.getD j z69).f4 ∧ (t.getD j z69).f4.toNat = c then q else lpV w.heap.size t j)) (.pointer (if j < n2 ∧ 0 ≤ (t.getD j z69).f4 ∧ (t.getD j z69).f5.toNat = c then q else rpV w.heap.size t j))) 126 (0, 0))
 bel : Below w.heap.size w W
theorem forest2_start {w W : World} {t : List S69} (h : Forest w W t t.length t.length) (c : Nat) (q : Option Addr) : Forest2 w W t c q 0 :=
 ⟨rowIs_congr h.ptrs (fun j hj => by simp only [if_pos hj]), fun j hj => by
  have := h.nodes j hj
  simp only [if_pos hj] at this
  rw [this, if_neg (fun h => Nat.not_lt_zero _ h.1), if_neg (fun h => Nat.not_lt_zero _ h.1)], h.bel⟩
theorem rep_repl {w W : World} {t : List S69} {c : Nat} {q : Option Addr} {R : Tr} {S : Nat → Prop} (hf : Forest2 w W t c q t.length) (hR : Rep S W (.pointer q) R) :
  ∀ (k i : Nat) (T : Tr), mkR t c R k i = some T → Rep (fun _ => True) W (.pointer (nb w.heap.size i)) T := by
 intro k
 induction k with
 | zero => intro i T h; simp [mkR] at h
 | succ k ih =>
  intro i T h
  rw [mkR] at h
  split at h
  ·rename_i h1
   have hn := hf.nodes i h1
   split at h
   ·rename_i h2
    obtain ⟨l, hl, h⟩ := Option.bind_eq_some_iff.1 h
    obtain ⟨r, hr, h⟩ := Option.bind_eq_some_iff.1 h
    obtain rfl := Option.some.inj h
    refine ⟨_, _, _, rfl, hn, ?_, ?_, trivial⟩
    ·by_cases e : (t.getD i z69).f4.toNat = c
     ·rw [if_pos e] at hl; obtain rfl := Option.some.inj hl
      rw [if_pos ⟨h1, h2, e⟩]; exact hR.mono (fun _ _ => trivial)
     ·rw [if_neg e] at hl
      rw [if_neg (fun h => e h.2.2), lpV, if_pos h2]; exact ih _ _ hl
    ·by_cases e : (t.getD i z69).f5.toNat = c
     ·rw [if_pos e] at hr; obtain rfl := Option.some.inj hr
      rw [if_pos ⟨h1, h2, e⟩]; exact hR.mono (fun _ _ => trivial)
     ·rw [if_neg e] at hr
      rw [if_neg (fun h => e h.2.2), rpV, if_pos h2]; exact ih _ _ hr
   ·rename_i h2
    obtain rfl := Option.some.inj h
    refine ⟨_, _, _, rfl, hn, ?_, ?_, trivial⟩
    ·rw [if_neg (fun h => h2 h.2.1), lpV, if_neg h2]; rfl
    ·rw [if_neg (fun h => h2 h.2.1), rpV, if_neg h2]; rfl
  ·exact absurd h (by simp)
theorem forest2_skip {w W : World} {t : List S69} {c : Nat} {q : Option Addr} {i : Nat} (h : Forest2 w W t c q i) (hc : ¬ childOf t i c) : Forest2 w W t c q (i + 1) := by
 refine ⟨h.ptrs, fun j hj => ?_, h.bel⟩
 rw [h.nodes j hj]
 by_cases e : j = i
 ·subst e
  have e1 : ¬ (0 ≤ (t.getD j z69).f4 ∧ (t.getD j z69).f4.toNat = c) := fun h => hc ⟨h.1, .inl h.2⟩
  have e2 : ¬ (0 ≤ (t.getD j z69).f4 ∧ (t.getD j z69).f5.toNat = c) := fun h => hc ⟨h.1, .inr h.2⟩
  simp only [e1, e2, and_false, if_false]
 ·have e3 : j < i + 1 ↔ j < i := by omega
  simp only [e3]
theorem forest2_left {w W : World} {t : List S69} {c : Nat} {q : Option Addr} {i : Nat} (h : Forest2 w W t c q i) (h4 : 0 ≤ (t.getD i z69).f4) (hl : (t.getD i z69).f4.toNat = c) (hr : (t.getD i z69).f5.toNat ≠ c) : Forest2 w (W.setCell ⟨w.heap.size + 2 + 2 * i, 7, none⟩ (.pointer q)) t c q (i + 1) := by
 refine ⟨rowIs_blk h.ptrs (Below.heap_setCell _ _ _ _ (by show _ ≠ _; simp; omega)), fun j hj => ?_, h.bel.setCell (p := ⟨w.heap.size + 2 + 2 * i, 7, none⟩) (by simp; omega) _⟩
 have hn := h.nodes j hj
 by_cases e : j = i
 ·subst e
  rw [put_blk hn 7 _]
  simp only [Nat.lt_irrefl, false_and, if_false, if_pos (show j < j + 1 ∧ 0 ≤ (t.getD j z69).f4 ∧ (t.getD j z69).f4.toNat = c from ⟨by omega, h4, hl⟩), if_neg (show ¬ (j < j + 1 ∧ 0 ≤ (t.getD j z69).f4 ∧ (t.getD j z69).f5.toNat = c) from fun h => hr h.2.2)]
  rfl
 ·exact dd71
theorem forest2_right {w W : World} {t : List S69} {c : Nat} {q : Option Addr} {i : Nat} (h : Forest2 w W t c q i) (h4 : 0 ≤ (t.getD i z69).f4) (hl : (t.getD i z69).f4.toNat ≠ c) (hr : (t.getD i z69).f5.toNat = c) : Forest2 w (W.setCell ⟨w.heap.size + 2 + 2 * i, 8, none⟩ (.pointer q)) t c q (i + 1) := by
 refine ⟨rowIs_blk h.ptrs (Below.heap_setCell _ _ _ _ (by show _ ≠ _; simp; omega)), fun j hj => ?_, h.bel.setCell (p := ⟨w.heap.size + 2 + 2 * i, 8, none⟩) (by simp; omega) _⟩
 have hn := h.nodes j hj
 by_cases e : j = i
 ·subst e
  rw [put_blk hn 8 _]
  simp only [Nat.lt_irrefl, false_and, if_false, if_neg (show ¬ (j < j + 1 ∧ 0 ≤ (t.getD j z69).f4 ∧ (t.getD j z69).f4.toNat = c) from fun h => hl h.2.2), if_pos (show j < j + 1 ∧ 0 ≤ (t.getD j z69).f4 ∧ (t.getD j z69).f5.toNat = c from ⟨by omega, h4, hr⟩)]
  rfl
 ·exact dd71
theorem forest_kept {w W W' : World} {t : List S69} {n1 n2 : Nat} (h : Forest w W t n1 n2) (hb : Below W.heap.size W W') : Forest w W' t n1 n2 :=
 ⟨rowIs_blk h.ptrs (hb.block _ (rowIs_lt h.ptrs)), fun j hj => (hb.block _ (Array.getElem?_eq_some_iff.1 (h.nodes j hj)).1).trans (h.nodes j hj), h.bel.trans (hb.mono h.bel.size)⟩
def setW : Tr → Int → Tr
 | .nil, _ => .nil
 | .node n p l r, x => .node ⟨n.f0, n.f1, x, n.f3, n.f4, n.f5⟩ p l r
theorem top_set {S : Nat → Prop} {W w' : World} {v : Value} {R : Tr} (h : TopRep S W w' v R) (hb : Below W.heap.size W w') (x : Int) :
  ∃ b, v = .pointer (some ⟨b, 0, none⟩) ∧ W.heap.size ≤ b ∧ (∃ u, w'.cell? ⟨b, 2, none⟩ = some u) ∧ w'.frozen? ⟨b, 2, none⟩ = false ∧ Rep S (w'.setCell ⟨b, 2, none⟩ (.int .i64 x)) v (setW R x) := by
 obtain ⟨b, n, pl, L, R', vl, vr, rfl, rfl, hge, h1, h2, h3, h4⟩ := h
 refine ⟨b, rfl, hge, ⟨_, (cell_of h1 2).trans rfl⟩, frz_of h1 2, b, vl, vr, rfl, put_blk h1 2 _, ?_, ?_, h4⟩
 ·exact ((h2.bound.below hb).keptS (fun k hk _ => Below.heap_setCell _ _ _ _ (by show k ≠ b; have := hk.2; omega))).mono (fun k hk => hk.1)
 ·exact ((h3.bound.below hb).keptS (fun k hk _ => Below.heap_setCell _ _ _ _ (by show k ≠ b; have := hk.2; omega))).mono (fun k hk => hk.1)
def plT : Tr → List Int
 | .nil => []
 | .node _ p l r => p :: (plT l ++ plT r)
def plF (t : List S69) (k : Nat) : List Int → Option (List Int)
 | [] => some []
 | i :: s => if 0 ≤ i then (mkT t k i.toNat).bind fun T => (plF t k s).map (plT T ++ ·) else none
def FormT (t : List S69) : Prop := ∀ i, i < t.length → ((t.getD i z69).f4 = -1 ∧ (t.getD i z69).f5 = -1) ∨ (0 ≤ (t.getD i z69).f4 ∧ (t.getD i z69).f4 < t.length ∧ 0 ≤ (t.getD i z69).f5 ∧ (t.getD i z69).f5 < t.length)
theorem plF_mono {t : List S69} {k : Nat} : ∀ {s ps : List Int}, plF t k s = some ps → plF t (k + 1) s = some ps := by
 intro s
 induction s with
 | nil => intro ps h; exact h
 | cons i s ih =>
  intro ps h
  rw [plF] at h ⊢
  split at h
  ·rename_i h0
   rw [if_pos h0]
   obtain ⟨T, hT, h⟩ := Option.bind_eq_some_iff.1 h
   obtain ⟨q, hq, h⟩ := Option.map_eq_some_iff.1 h
   rw [mkT_mono t _ _ _ hT, Option.bind_some, ih hq, Option.map_some, h]
  ·exact absurd h (by simp)
theorem plT_mem {t : List S69} : ∀ (k i : Nat) (T : Tr), mkT t k i = some T → (i : Int) ∈ plT T ∧ ∀ p ∈ plT T, 0 ≤ p ∧ p < t.length := by
 intro k
 induction k with
 | zero => intro i T h; simp [mkT] at h
 | succ k ih =>
  intro i T h
  rw [mkT] at h
  split at h
  case isFalse => exact absurd h (by simp)
  rename_i hi
  split at h
  ·obtain ⟨l, hl, h⟩ := Option.bind_eq_some_iff.1 h
   obtain ⟨r, hr, h⟩ := Option.bind_eq_some_iff.1 h
   obtain rfl := Option.some.inj h
   refine ⟨List.mem_cons_self, fun p hp => ?_⟩
   simp only [plT, List.mem_cons, List.mem_append] at hp
   rcases hp with rfl | hp | hp
   ·omega
   ·exact (ih _ _ hl).2 p hp
   ·exact (ih _ _ hr).2 p hp
  ·obtain rfl := Option.some.inj h
   refine ⟨List.mem_cons_self, fun p hp => ?_⟩
   simp only [plT, List.append_nil, List.mem_cons, List.not_mem_nil, or_false] at hp
   omega
theorem plF_cons {t : List S69} {k : Nat} {i : Int} {s ps : List Int} (h : plF t k (i :: s) = some ps) : ∃ T q, 0 ≤ i ∧ mkT t k i.toNat = some T ∧ plF t k s = some q ∧ ps = plT T ++ q := by
 rw [plF] at h
 split at h
 ·rename_i h0
  obtain ⟨T, hT, h⟩ := Option.bind_eq_some_iff.1 h
  obtain ⟨q, hq, h⟩ := Option.map_eq_some_iff.1 h
  exact ⟨T, q, h0, hT, hq, h.symm⟩
 ·exact absurd h (by simp)
theorem plF_mk {t : List S69} {k : Nat} {i : Int} {s q : List Int} {T : Tr} (h0 : 0 ≤ i) (hT : mkT t k i.toNat = some T) (hq : plF t k s = some q) : plF t k (i :: s) = some (plT T ++ q) := by
 rw [plF, if_pos h0, hT, Option.bind_some, hq, Option.map_some]
theorem plF_mem {t : List S69} {k : Nat} : ∀ {s ps : List Int}, plF t k s = some ps → ∀ p ∈ ps, 0 ≤ p ∧ p < t.length := by
 intro s
 induction s with
 | nil => intro ps h p hp; rw [plF] at h; injection h with h; rw [← h] at hp; exact absurd hp (by simp)
 | cons i s ih =>
  intro ps h p hp
  obtain ⟨T, q, h0, hT, hq, rfl⟩ := plF_cons h
  rcases List.mem_append.1 hp with hp | hp
  ·exact (plT_mem _ _ _ hT).2 p hp
  ·exact ih hq p hp
theorem plF_len {t : List S69} {k : Nat} : ∀ {s ps : List Int}, plF t k s = some ps → s.length ≤ ps.length := by
 intro s
 induction s with
 | nil => intro ps h; exact Nat.zero_le _
 | cons i s ih =>
  intro ps h
  obtain ⟨T, q, h0, hT, hq, rfl⟩ := plF_cons h
  have h1 := List.length_pos_of_mem (plT_mem _ _ _ hT).1
  have h2 := ih hq
  rw [List.length_append, List.length_cons]
  omega
theorem order_nil (k : Nat) (t : List S69) (met : List Bool) (out : List Int) : table_order.l0 (k + 1) t met out [] = some out := by
 rw [table_order.l0]
 exact if_neg (by simp)
theorem leaf_f (n : S69) : table_isLeaf.f n.f0 n.f1 n.f2 n.f3 n.f4 n.f5 = some (decide (n.f4 = -1 ∧ n.f5 = -1)) := by
 unfold table_isLeaf.f
 by_cases h : n.f4 = -1
 ·rw [if_pos h]
  by_cases h5 : n.f5 = -1
  ·simp [h, h5]
  ·simp [h, h5]
 ·rw [if_neg h]
  simp [h]
theorem order_step (k : Nat) (t : List S69) (met : List Bool) (out : List Int) (i : Int) (s : List Int) (hs : s.length < 17592186044416) :
  table_order.l0 (k + 1) t met out (i :: s).reverse =
   if 0 ≤ i then (if i < met.length then (if met.getD i.toNat false = true then some [] else (if out.length < 17592186044416 then (if i < t.length then
    (if (t.getD i.toNat z69).f4 = -1 ∧ (t.getD i.toNat z69).f5 = -1 then table_order.l0 k t (met.set i.toNat true) (out ++ [i]) s.reverse
     else if s.length + 2 < 17592186044416 then table_order.l0 k t (met.set i.toNat true) (out ++ [i]) ((t.getD i.toNat z69).f4 :: (t.getD i.toNat z69).f5 :: s).reverse else none) else none) else none)) else none) else none := by
 have e : (i :: s).reverse = s.reverse ++ [i] := List.reverse_cons
 have e2 : ((t.getD i.toNat z69).f4 :: (t.getD i.toNat z69).f5 :: s).reverse = s.reverse ++ [(t.getD i.toNat z69).f5, (t.getD i.toNat z69).f4] := by simp
 rw [e, e2]
 generalize hr : s.reverse = s'
 have hl : s'.length = s.length := by rw [← hr, List.length_reverse]
 rw [← hl] at hs ⊢
 have h1 : wrap64 (((s' ++ [i]).length : Int) - 1) = s'.length := by rw [List.length_append, List.length_singleton, Go.IntWalk.wrap64_in _ (by omega)]; omega
 have h2 : rd (s' ++ [i]) (s'.length : Int) = i := by simp [rd]
 have h3 : (s' ++ [i]).take ((s'.length : Int)).toNat = s' := by simp
 rw [table_order.l0, h1, h2, h3]
 rw [if_pos (by rw [List.length_append, List.length_singleton]; omega), if_pos (by omega), if_pos (by rw [List.length_append, List.length_singleton]; omega), if_pos (by rw [List.length_append, List.length_singleton]; omega)]
 simp only [rd_T69, rdOf, leaf_f, Option.bind_some, decide_eq_true_eq]
 simp only [List.length_cons, List.length_nil]
theorem getD_set_ne {α : Type} (l : List α) (d x : α) {i j : Nat} (h : i ≠ j) : (l.set i x).getD j d = l.getD j d := by
 simp only [List.getD, List.getElem?_set, if_neg h]
theorem getD_set_eq {α : Type} (l : List α) (d x : α) {i : Nat} (h : i < l.length) : (l.set i x).getD i d = x := by
 simp [List.getD, h]
theorem order_inv (t : List S69) (hf : FormT t) : ∀ (k : Nat) (met : List Bool) (out s res : List Int), met.length = t.length → s.length < 17592186044416 → table_order.l0 k t met out s.reverse = some res → res = [] ∨
  ∃ ps, plF t k s = some ps ∧ res = out ++ ps ∧ ps.Nodup ∧ ∀ p ∈ ps, met.getD p.toNat false = false ∧ 0 ≤ p ∧ p < t.length := by
 intro k
 induction k with
 | zero => intro met out s res _ _ h; simp [table_order.l0] at h
 | succ k ih =>
  intro met out s res hm hsl h
  cases s with
  | nil =>
   rw [List.reverse_nil, order_nil] at h
   injection h with h
   exact .inr ⟨[], rfl, by rw [← h, List.append_nil], List.nodup_nil, fun p hp => absurd hp (by simp)⟩
  | cons i s =>
   have hsl' : s.length < 17592186044416 := by rw [List.length_cons] at hsl; omega
   rw [order_step _ _ _ _ _ _ hsl'] at h
   split at h
   case isFalse => exact absurd h (by simp)
   rename_i h0
   split at h
   case isFalse => exact absurd h (by simp)
   rename_i h1
   split at h
   ·injection h with h; exact .inl h.symm
   rename_i hmet
   rw [Bool.not_eq_true] at hmet
   split at h
   case isFalse => exact absurd h (by simp)
   split at h
   case isFalse => exact absurd h (by simp)
   rename_i h2
   have hi : i.toNat < t.length := by omega
   split at h
   ·rename_i hlf
    rcases ih _ _ s res (by rw [List.length_set, hm]) hsl' h with e | ⟨ps, hp, hr, hn, hu⟩
    ·exact .inl e
    ·have hT : mkT t (k + 1) i.toNat = some (.node (t.getD i.toNat z69) i.toNat .nil .nil) := by rw [mkT, if_pos hi, if_neg (by omega)]
     refine .inr ⟨_, plF_mk h0 hT (plF_mono hp), ?_, ?_, ?_⟩
     ·exact dd77
     ·simp only [plT, List.nil_append, List.cons_append, List.nodup_cons]
      exact dd69
     ·intro p hp'
      simp only [plT, List.nil_append, List.cons_append, List.mem_cons] at hp'
      exact dd52
   ·rename_i hlf
    split at h
    case isFalse => exact absurd h (by simp)
    rename_i hs2
    have hk := hf i.toNat hi
    rcases ih _ _ (_ :: _ :: s) res (by rw [List.length_set, hm]) (by simp only [List.length_cons]; omega) h with e | ⟨ps, hp, hr, hn, hu⟩
    ·exact .inl e
    ·obtain ⟨Tl, q1, g0, hl, hp1, rfl⟩ := plF_cons hp
     obtain ⟨Tr', q2, g1, hr', hp2, rfl⟩ := plF_cons hp1
     have hT : mkT t (k + 1) i.toNat = some (.node (t.getD i.toNat z69) i.toNat Tl Tr') := by rw [mkT, if_pos hi, if_pos g0, hl, Option.bind_some, hr', Option.bind_some]
     refine .inr ⟨_, plF_mk h0 hT (plF_mono hp2), ?_, ?_, ?_⟩
     ·exact dd77
     ·simp only [plT, List.cons_append, List.nodup_cons, List.append_assoc]
      exact dd69
     ·intro p hp'
      simp only [plT, List.cons_append, List.mem_cons, List.append_assoc] at hp'
      exact dd52
theorem order_tree (t : List S69) (hlen : t.length ≤ 100000) (hf : FormT t) (K : Nat) : ∀ (k : Nat) (met : List Bool) (out s ps : List Int), met.length = t.length → plF t K s = some ps → ps.Nodup → (∀ p ∈ ps, met.getD p.toNat false = false) → ps.length < k → out.length + ps.length ≤ 1000000 →
  table_order.l0 k t met out s.reverse = some (out ++ ps) := by
 intro k
 induction k with
 | zero => intro met out s ps _ _ _ _ h; exact absurd h (by omega)
 | succ k ih =>
  intro met out s ps hm hp hn hu hk ho
  cases s with
  | nil =>
   rw [plF] at hp
   injection hp with hp
   subst hp
   rw [List.reverse_nil, order_nil, List.append_nil]
  | cons i s =>
   obtain ⟨T, q, h0, hT, hq, rfl⟩ := plF_cons hp
   have hsl := plF_len hp
   rw [List.length_cons, List.length_append] at hsl
   have hsl2 := plF_len hq
   rw [List.length_append] at hk ho
   rw [order_step _ _ _ _ _ _ (by omega), if_pos h0]
   cases K with
   | zero => simp [mkT] at hT
   | succ K =>
    have hT0 := hT
    rw [mkT] at hT
    split at hT
    case isFalse => exact absurd hT (by simp)
    rename_i hi
    split at hT
    ·rename_i h4
     obtain ⟨Tl, hl, hT⟩ := Option.bind_eq_some_iff.1 hT
     obtain ⟨Tr', hr, hT⟩ := Option.bind_eq_some_iff.1 hT
     obtain rfl := Option.some.inj hT
     simp only [plT, List.cons_append, List.nodup_cons, List.append_assoc, List.length_cons, List.length_append] at hn hk ho hsl ⊢
     have hmi := hu i.toNat (by simp [plT])
     rw [Int.toNat_natCast] at hmi
     have h5 : 0 ≤ (t.getD i.toNat z69).f5 := by have := hf i.toNat hi; omega
     rw [if_pos (by omega), if_neg (by rw [hmi]; simp), if_pos (by omega), if_pos (by omega), if_neg (by omega), if_pos (by omega)]
     rw [ih _ _ (_ :: _ :: s) _ (by rw [List.length_set, hm]) (plF_mk h4 (mkT_mono t _ _ _ hl) (plF_mk h5 (mkT_mono t _ _ _ hr) hq)) hn.2 ?_ (by simp only [List.length_append]; omega) (by simp only [List.length_append, List.length_singleton]; omega)]
     ·rw [Int.toNat_of_nonneg h0]; simp
     ·intro p hp'
      by_cases e : i.toNat = p.toNat
      ·exfalso
       have hnn := (plF_mem hp p (by simp only [plT, List.cons_append, List.append_assoc]; exact List.mem_cons_of_mem _ hp')).1
       exact dd92
      ·rw [getD_set_ne _ _ _ e]
       exact hu p (by simp only [plT, List.cons_append, List.append_assoc]; exact List.mem_cons_of_mem _ hp')
    ·rename_i h4
     obtain rfl := Option.some.inj hT
     simp only [plT, List.cons_append, List.nodup_cons, List.nil_append, List.length_cons] at hn hk ho hsl ⊢
     have hmi := hu i.toNat (by simp [plT])
     rw [Int.toNat_natCast] at hmi
     have h45 := hf i.toNat hi
     rw [if_pos (by omega), if_neg (by rw [hmi]; simp), if_pos (by omega), if_pos (by omega), if_pos (by omega)]
     rw [ih _ _ s _ (by rw [List.length_set, hm]) hq hn.2 ?_ (by omega) (by simp only [List.length_append, List.length_singleton]; omega)]
     ·rw [Int.toNat_of_nonneg h0]; simp
     ·intro p hp'
      by_cases e : i.toNat = p.toNat
      ·exfalso
       have hnn := (plF_mem hq p hp').1
       exact dd92
      ·rw [getD_set_ne _ _ _ e]
       exact hu p (by simp only [plT, List.cons_append, List.nil_append]; exact List.mem_cons_of_mem _ hp')
def cntT : List Bool → Nat
 | [] => 0
 | b :: l => (if b then 1 else 0) + cntT l
theorem cntT_le : ∀ l, cntT l ≤ l.length
 | [] => Nat.le_refl _
 | b :: l => by have := cntT_le l; rw [cntT, List.length_cons]; split <;> omega
theorem cntT_set : ∀ (l : List Bool) (i : Nat), i < l.length → l.getD i false = false → cntT (l.set i true) = cntT l + 1
 | [], _, h, _ => absurd h (by simp)
 | b :: l, 0, _, h => by
  simp only [List.getD_cons_zero] at h
  subst h
  simp only [sZ, cntT, if_true]
  rw [if_neg (by simp)]
  omega
 | b :: l, i + 1, h, h' => by
  rw [List.getD_cons_succ] at h'
  rw [sS, cntT, cntT, cntT_set l i (by rw [List.length_cons] at h; omega) h']
  omega
theorem order_total (t : List S69) (hlen : t.length ≤ 100000) (hf : FormT t) : ∀ (k : Nat) (met : List Bool) (out s : List Int), met.length = t.length → (∀ i ∈ s, 0 ≤ i ∧ i < t.length) → cntT met = out.length → s.length ≤ out.length + 1 → t.length + 1 ≤ k + out.length → 0 < k → ∃ res, table_order.l0 k t met out s.reverse = some res := by
 intro k
 induction k with
 | zero => intro met out s _ _ _ _ _ h; exact absurd h (by omega)
 | succ k ih =>
  intro met out s hm hr hc hs hk _
  have hcl := cntT_le met
  cases s with
  | nil => exact ⟨out, by rw [List.reverse_nil, order_nil]⟩
  | cons i s =>
   rw [List.length_cons] at hs
   have hi := hr i List.mem_cons_self
   rw [order_step _ _ _ _ _ _ (by omega), if_pos hi.1, if_pos (by omega)]
   by_cases hmet : met.getD i.toNat false = true
   ·exact ⟨[], by rw [if_pos hmet]⟩
   ·rw [if_neg hmet, if_pos (by omega), if_pos hi.2]
    rw [Bool.not_eq_true] at hmet
    have hcs := cntT_set met i.toNat (by omega) hmet
    have hcl2 := cntT_le (met.set i.toNat true)
    rw [List.length_set] at hcl2
    have hk1 := hf i.toNat (by omega)
    by_cases hlf : (t.getD i.toNat z69).f4 = -1 ∧ (t.getD i.toNat z69).f5 = -1
    ·rw [if_pos hlf]
     by_cases hk0 : 0 < k
     ·exact ih _ _ s (by rw [List.length_set, hm]) (fun j hj => hr j (List.mem_cons_of_mem _ hj)) (by rw [hcs, List.length_append, List.length_singleton, hc]) (by rw [List.length_append, List.length_singleton]; omega) (by rw [List.length_append, List.length_singleton]; omega) hk0
     ·omega
    ·rw [if_neg hlf, if_pos (by omega)]
     exact ih _ _ (_ :: _ :: s) (by rw [List.length_set, hm]) (fun j hj => by
      simp only [List.mem_cons] at hj
      rcases hj with rfl | rfl | hj
      ·omega
      ·omega
      ·exact hr j (List.mem_cons_of_mem _ hj)) (by rw [hcs, List.length_append, List.length_singleton, hc]) (by simp only [List.length_append, List.length_singleton, List.length_cons]; omega) (by rw [List.length_append, List.length_singleton]; omega) (by omega)
structure Bx (w : World) (g : Nat) (v : Value) (xs : List S69) (cs : Array Value) (W : World) : Prop where
 ge : w.heap.size ≤ g
 r : Kd.R k69 69 W w.heap.size (fun k => True ∧ k ≠ g) v xs
 b : Below w.heap.size w W
 k : W.heap[g]? = some (.cells cs 69 (0, 0))
section
def lB (n : S69) (b : S140) : S140 := if n.f1 = 0 then (if b.f3 = false ∨ n.f0 < b.f1 then ⟨b.f0, n.f0, b.f2, true⟩ else b) else b
def rB (n : S69) (b : S140) : S140 := if n.f1 = 0 then (if b.f2 = false ∨ n.f0 > b.f0 then ⟨n.f0, b.f1, true, b.f3⟩ else b) else b
def outB (n : S69) (b : S140) (s : Bool) : Bool := n.f1 == 0 && (s || (b.f2 && decide (n.f0 < b.f0)) || (b.f3 && decide (n.f0 ≥ b.f1)))
def ordL (t : List S69) : List Int → List S140 → List Bool → Bool
 | [], _, _ => true
 | p :: ps, A, B => if (t.getD p.toNat z69).f4 = -1 ∧ (t.getD p.toNat z69).f5 = -1 then (if outB (t.getD p.toNat z69) (A.getD p.toNat z140) (B.getD p.toNat false) then false else ordL t ps A B)
  else ordL t ps ((A.set (t.getD p.toNat z69).f4.toNat (lB (t.getD p.toNat z69) (A.getD p.toNat z140))).set (t.getD p.toNat z69).f5.toNat (rB (t.getD p.toNat z69) (A.getD p.toNat z140)))
   ((B.set (t.getD p.toNat z69).f4.toNat (B.getD p.toNat false)).set (t.getD p.toNat z69).f5.toNat (B.getD p.toNat false || (t.getD p.toNat z69).f1 == 1))
theorem ordL_at {t : List S69} {j : Nat} {ps : List Int} {A : List S140} {B : List Bool} {n : S69} {b : S140} {s E : Bool} (h : ordL t ((j : Int) :: ps) A B = E) (hn : t.getD j z69 = n) (hb : A.getD j z140 = b) (hs : B.getD j false = s) :
  (n.f4 = -1 ∧ n.f5 = -1 → (outB n b s = true → E = false) ∧ (outB n b s = false → ordL t ps A B = E)) ∧ (¬ (n.f4 = -1 ∧ n.f5 = -1) → ordL t ps ((A.set n.f4.toNat (lB n b)).set n.f5.toNat (rB n b)) ((B.set n.f4.toNat s).set n.f5.toNat (s || n.f1 == 1)) = E) := by
 subst hn hb hs
 rw [ordL, Int.toNat_natCast] at h
 refine ⟨fun hl => ?_, fun hl => ?_⟩
 ·rw [if_pos hl] at h
  exact ⟨fun ho => by rw [if_pos ho] at h; exact h.symm, fun ho => by rw [ho, if_neg (by simp)] at h; exact h⟩
 ·rw [if_neg hl] at h; exact h
structure Os (w : World) (n ga ca gs cs : Nat) (Ap : Option Addr) (cp : Nat) (ps : List Int) (A : List S140) (B : List Bool) (W : World) : Prop where
 b : Below w.heap.size w W
 la : A.length = n
 lb : B.length = n
 ra : Kd.R k140 140 W w.heap.size (fun _ => True) (.slice (some ⟨ga, 0, none⟩) n ca) A
 rb : Kd.R Kd.bool 4 W w.heap.size (fun _ => True) (.slice (some ⟨gs, 0, none⟩) n cs) B
 rp : Kd.R (Kd.int .i64) 3 W w.heap.size (fun _ => True) (.slice Ap ps.length cp) ps
abbrev zB : Value := .agg #[.int .i64 0, .int .i64 0, .bool false, .bool false]
section
variable {w W W1 : World} {n ga ca gs cs cp : Nat} {Ap : Option Addr} {ps : List Int} {A : List S140} {B : List Bool}
theorem os_below (h : Os w n ga ca gs cs Ap cp ps A B W) (hb : Below W.heap.size W W1) : Os w n ga ca gs cs Ap cp ps A B W1 :=
 ⟨h.b.trans (hb.mono h.b.size), h.la, h.lb, Kd.R_below h.ra hb, Kd.R_below h.rb hb, Kd.R_below h.rp hb⟩
theorem os_box (h : Os w n ga ca gs cs Ap cp ps A B W) {g t : Nat} {c : Array Value} (hg : w.heap.size ≤ g) (hb : W.heap[g]? = some (.cells c t (0, 0))) (hne : g ≠ ga) (h4 : (4 == t) = false) (h3 : (3 == t) = false) (i : Nat) (u : Value) :
  Os w n ga ca gs cs Ap cp ps A B (W.setCell ⟨g, i, none⟩ u) :=
 ⟨below_set h.b hg, h.la, h.lb, Kd.R_drop (Kd.R_far (p := ⟨g, i, none⟩) (Kd.R_far1 h.ra rfl (g := g) (by simpa [Value.ownBlock] using hne)) (fun _ hk => hk.2) u),
  Kd.R_set h.rb hb (fun q hq => by
   rcases List.mem_cons.1 hq with rfl | hq
   ·simpa using h4
   ·exact absurd hq (by simp [show Kd.bool.E = [] from rfl])) i u,
  Kd.R_set h.rp hb (fun q hq => by
   rcases List.mem_cons.1 hq with rfl | hq
   ·simpa using h3
   ·exact absurd hq (by simp [show (Kd.int .i64).E = [] from rfl])) i u⟩
theorem os_a (h : Os w n ga ca gs cs Ap cp ps A B W) {j : Nat} (hj : j < n) :
  W.cell? ⟨ga, j * 4, none⟩ = some (.int .i64 (A.getD j z140).f0) ∧ W.cell? ⟨ga, j * 4 + 1, none⟩ = some (.int .i64 (A.getD j z140).f1) ∧ W.cell? ⟨ga, j * 4 + 2, none⟩ = some (.bool (A.getD j z140).f2) ∧ W.cell? ⟨ga, j * 4 + 3, none⟩ = some (.bool (A.getD j z140).f3) ∧
  W.frozen? ⟨ga, j * 4, none⟩ = false ∧ W.frozen? ⟨ga, j * 4 + 1, none⟩ = false ∧ W.frozen? ⟨ga, j * 4 + 2, none⟩ = false ∧ W.frozen? ⟨ga, j * 4 + 3, none⟩ = false := by
 obtain ⟨ce, hcl, hM, hcc, hfr⟩ := Kd.R_elem h.ra z140 (j : Int) (by omega) (by omega)
 obtain rfl := k140_openM hM
 exact ⟨hcc 0 _ rfl, hcc 1 _ rfl, hcc 2 _ rfl, hcc 3 _ rfl, hfr 0, hfr 1, hfr 2, hfr 3⟩
theorem os_b (h : Os w n ga ca gs cs Ap cp ps A B W) {j : Nat} (hj : j < n) : W.cell? ⟨gs, j, none⟩ = some (.bool (B.getD j false)) ∧ W.frozen? ⟨gs, j, none⟩ = false := by
 have := Kd.R_celln false h.rb (j : Int) (by omega) (by omega)
 exact this
theorem os_ga (h : Os w n ga ca gs cs Ap cp ps A B W) (hn : 0 < n) : w.heap.size ≤ ga ∧ ∃ c, W.heap[ga]? = some (.cells c 140 (0, 0)) := by
 obtain ⟨g', c', e, h1, _, h2⟩ := Kd.R_form h.ra (by rw [h.la]; omega)
 exact dd81
theorem os_gs (h : Os w n ga ca gs cs Ap cp ps A B W) (hn : 0 < n) : w.heap.size ≤ gs ∧ ∃ c, W.heap[gs]? = some (.cells c 4 (0, 0)) := by
 obtain ⟨g', c', e, h1, _, h2⟩ := Kd.R_form h.rb (by rw [h.lb]; omega)
 exact dd81
theorem os_setA (h : Os w n ga ca gs cs Ap cp ps A B W) {j : Nat} (hj : j < n) (x : S140) :
  Os w n ga ca gs cs Ap cp ps (A.set j x) B ((((W.setCell ⟨ga, j * 4, none⟩ (.int .i64 x.f0)).setCell ⟨ga, j * 4 + 1, none⟩ (.int .i64 x.f1)).setCell ⟨ga, j * 4 + 2, none⟩ (.bool x.f2)).setCell ⟨ga, j * 4 + 3, none⟩ (.bool x.f3)) ∧
  ∀ g o, W.heap[g]? = some o → g ≠ ga → ((((W.setCell ⟨ga, j * 4, none⟩ (.int .i64 x.f0)).setCell ⟨ga, j * 4 + 1, none⟩ (.int .i64 x.f1)).setCell ⟨ga, j * 4 + 2, none⟩ (.bool x.f2)).setCell ⟨ga, j * 4 + 3, none⟩ (.bool x.f3)).heap[g]? = some o := by
 obtain ⟨ce, hcl, hM, hcc, hfr⟩ := Kd.R_elem h.ra z140 (j : Int) (by omega) (by omega)
 obtain ⟨hs, hgr⟩ := Kd.R_seg h.ra (j : Int) (by omega) (by omega) (seg := [.int .i64 x.f0, .int .i64 x.f1, .bool x.f2, .bool x.f3]) (j := 0) hcl hcc (show 4 ≤ 4 from by decide) (x' := x) (okp := fun _ => False) (by
  obtain rfl := k140_openM hM
  exact k140_mkM _ _ _ x) (fun _ hk => hk.elim)
 obtain ⟨hga, cl, hcl⟩ := os_ga h (by omega)
 have t4 : ∀ q, q ∈ 4 :: Kd.bool.E → q ≠ 140 := fun q hq => by
  rcases List.mem_cons.1 hq with rfl | hq
  ·decide
  ·exact absurd hq (by simp [show Kd.bool.E = [] from rfl])
 have t3 : ∀ q, q ∈ 3 :: (Kd.int .i64).E → q ≠ 140 := fun q hq => by
  exact dd75
 have b1 := blk_set hcl (j * 4) (.int .i64 x.f0)
 have b2 := blk_set b1 (j * 4 + 1) (.int .i64 x.f1)
 have b3 := blk_set b2 (j * 4 + 2) (.bool x.f2)
 refine ⟨⟨below_set (below_set (below_set (below_set h.b hga) hga) hga) hga, by rw [List.length_set]; exact h.la, h.lb, hs, ?_, ?_⟩, fun g o hg hne => ?_⟩
 ·exact Kd.R_set (Kd.R_set (Kd.R_set (Kd.R_set h.rb hcl t4 _ _) b1 t4 _ _) b2 t4 _ _) b3 t4 _ _
 ·exact Kd.R_set (Kd.R_set (Kd.R_set (Kd.R_set h.rp hcl t3 _ _) b1 t3 _ _) b2 t3 _ _) b3 t3 _ _
 ·exact (Below.heap_setCell _ _ _ _ hne).trans ((Below.heap_setCell _ _ _ _ hne).trans ((Below.heap_setCell _ _ _ _ hne).trans ((Below.heap_setCell _ _ _ _ hne).trans hg)))
theorem os_setB (h : Os w n ga ca gs cs Ap cp ps A B W) {j : Nat} (hj : j < n) (x : Bool) :
  Os w n ga ca gs cs Ap cp ps A (B.set j x) (W.setCell ⟨gs, j, none⟩ (.bool x)) ∧ ∀ g o, W.heap[g]? = some o → g ≠ gs → (W.setCell ⟨gs, j, none⟩ (.bool x)).heap[g]? = some o := by
 obtain ⟨hgs, cl, hcl⟩ := os_gs h (by omega)
 have t1 : ∀ q, q ∈ 140 :: k140.E → q ≠ 4 := fun q hq => by
  rcases List.mem_cons.1 hq with rfl | hq
  ·decide
  ·exact absurd hq (by simp [show k140.E = [] from rfl])
 have t3 : ∀ q, q ∈ 3 :: (Kd.int .i64).E → q ≠ 4 := fun q hq => by
  exact dd75
 exact ⟨⟨below_set h.b hgs, h.la, by rw [List.length_set]; exact h.lb, Kd.R_set h.ra hcl t1 _ _, Kd.R_putn h.rb (j : Int) x, Kd.R_set h.rp hcl t3 _ _⟩, fun g o hg hne => (Below.heap_setCell _ _ _ _ hne).trans hg⟩
structure Ob (w : World) (n ga ca gs cs : Nat) (Ap : Option Addr) (cp : Nat) (ps : List Int) (A : List S140) (B : List Bool) (g9 g10 : Nat) (c9 c10 : Array Value) (W : World) : Prop where
 os : Os w n ga ca gs cs Ap cp ps A B W
 k9 : W.heap[g9]? = some (.cells c9 69 (0, 0))
 k10 : W.heap[g10]? = some (.cells c10 140 (0, 0))
 h9 : w.heap.size ≤ g9
 h10 : w.heap.size ≤ g10
 d9 : g9 ≠ ga
 d10 : g10 ≠ ga
theorem ob_below {g9 g10 : Nat} {c9 c10 : Array Value} (h : Ob w n ga ca gs cs Ap cp ps A B g9 g10 c9 c10 W) (hb : Below W.heap.size W W1) : Ob w n ga ca gs cs Ap cp ps A B g9 g10 c9 c10 W1 :=
 ⟨os_below h.os hb, blk_below h.k9 hb, blk_below h.k10 hb, h.h9, h.h10, h.d9, h.d10⟩
theorem ob_9 {g9 g10 : Nat} {c9 c10 : Array Value} (h : Ob w n ga ca gs cs Ap cp ps A B g9 g10 c9 c10 W) (i : Nat) (u : Value) : Ob w n ga ca gs cs Ap cp ps A B g9 g10 (c9.setIfInBounds i u) c10 (W.setCell ⟨g9, i, none⟩ u) :=
 ⟨os_box h.os h.h9 h.k9 h.d9 rfl rfl i u, blk_set h.k9 i u, blk_far h.k10 (blk_ne h.k10 h.k9 (by decide)) u, h.h9, h.h10, h.d9, h.d10⟩
theorem ob_10 {g9 g10 : Nat} {c9 c10 : Array Value} (h : Ob w n ga ca gs cs Ap cp ps A B g9 g10 c9 c10 W) (i : Nat) (u : Value) : Ob w n ga ca gs cs Ap cp ps A B g9 g10 c9 (c10.setIfInBounds i u) (W.setCell ⟨g10, i, none⟩ u) :=
 ⟨os_box h.os h.h10 h.k10 h.d10 rfl rfl i u, blk_far h.k9 (blk_ne h.k9 h.k10 (by decide)) u, blk_set h.k10 i u, h.h9, h.h10, h.d9, h.d10⟩
theorem ob_cells9 {g9 g10 : Nat} {a b c d e f : Value} {c10 : Array Value} (h : Ob w n ga ca gs cs Ap cp ps A B g9 g10 #[a, b, c, d, e, f] c10 W) : W.cell? ⟨g9, 0, none⟩ = some a ∧ W.cell? ⟨g9, 1, none⟩ = some b ∧ W.cell? ⟨g9, 2, none⟩ = some c ∧ W.cell? ⟨g9, 3, none⟩ = some d ∧ W.cell? ⟨g9, 4, none⟩ = some e ∧ W.cell? ⟨g9, 5, none⟩ = some f ∧ W.frozen? ⟨g9, 0, none⟩ = false ∧ W.frozen? ⟨g9, 1, none⟩ = false ∧ W.frozen? ⟨g9, 2, none⟩ = false ∧ W.frozen? ⟨g9, 3, none⟩ = false ∧ W.frozen? ⟨g9, 4, none⟩ = false ∧ W.frozen? ⟨g9, 5, none⟩ = false :=
 ⟨(blk_cell h.k9 0).trans rfl, (blk_cell h.k9 1).trans rfl, (blk_cell h.k9 2).trans rfl, (blk_cell h.k9 3).trans rfl, (blk_cell h.k9 4).trans rfl, (blk_cell h.k9 5).trans rfl, blk_frozen h.k9 0, blk_frozen h.k9 1, blk_frozen h.k9 2, blk_frozen h.k9 3, blk_frozen h.k9 4, blk_frozen h.k9 5⟩
theorem c4_of {g : Nat} {a b c d : Value} (h : W.heap[g]? = some (.cells #[a, b, c, d] 140 (0, 0))) : W.cell? ⟨g, 0, none⟩ = some a ∧ W.cell? ⟨g, 1, none⟩ = some b ∧ W.cell? ⟨g, 2, none⟩ = some c ∧ W.cell? ⟨g, 3, none⟩ = some d ∧ W.frozen? ⟨g, 0, none⟩ = false ∧ W.frozen? ⟨g, 1, none⟩ = false ∧ W.frozen? ⟨g, 2, none⟩ = false ∧ W.frozen? ⟨g, 3, none⟩ = false :=
 ⟨(blk_cell h 0).trans rfl, (blk_cell h 1).trans rfl, (blk_cell h 2).trans rfl, (blk_cell h 3).trans rfl, blk_frozen h 0, blk_frozen h 1, blk_frozen h 2, blk_frozen h 3⟩
theorem ob_cells10 {g9 g10 : Nat} {a b c d : Value} {c9 : Array Value} (h : Ob w n ga ca gs cs Ap cp ps A B g9 g10 c9 #[a, b, c, d] W) : W.cell? ⟨g10, 0, none⟩ = some a ∧ W.cell? ⟨g10, 1, none⟩ = some b ∧ W.cell? ⟨g10, 2, none⟩ = some c ∧ W.cell? ⟨g10, 3, none⟩ = some d ∧ W.frozen? ⟨g10, 0, none⟩ = false ∧ W.frozen? ⟨g10, 1, none⟩ = false ∧ W.frozen? ⟨g10, 2, none⟩ = false ∧ W.frozen? ⟨g10, 3, none⟩ = false := c4_of h.k10
theorem ob_two {g9 g10 : Nat} {c9 c10 : Array Value} (h : Os w n ga ca gs cs Ap cp ps A B W) (hn : 0 < n) (hb : Below W.heap.size W W1) (k9 : W1.heap[g9]? = some (.cells c9 69 (0, 0))) (k10 : W1.heap[g10]? = some (.cells c10 140 (0, 0))) (h9 : W.heap.size ≤ g9) (h10 : W.heap.size ≤ g10) : Ob w n ga ca gs cs Ap cp ps A B g9 g10 c9 c10 W1 := by
 obtain ⟨_, c, hc⟩ := os_ga h hn
 have := blk_lt hc
 have := h.b.size
 exact ⟨os_below h hb, k9, k10, by omega, by omega, by omega, by omega⟩
theorem os_ab (h : Os w n ga ca gs cs Ap cp ps A B W) {j : Nat} (hj : j < n) {b : S140} (e : A.getD j z140 = b) :
  W.cell? ⟨ga, j * 4, none⟩ = some (.int .i64 b.f0) ∧ W.cell? ⟨ga, j * 4 + 1, none⟩ = some (.int .i64 b.f1) ∧ W.cell? ⟨ga, j * 4 + 2, none⟩ = some (.bool b.f2) ∧ W.cell? ⟨ga, j * 4 + 3, none⟩ = some (.bool b.f3) := by
 subst e
 obtain ⟨h0, h1, h2, h3, -⟩ := os_a h hj
 exact ⟨h0, h1, h2, h3⟩
theorem os_bb (h : Os w n ga ca gs cs Ap cp ps A B W) {j : Nat} (hj : j < n) {s : Bool} (e : B.getD j false = s) : W.cell? ⟨gs, j, none⟩ = some (.bool s) := by
 subst e
 exact (os_b h hj).1
structure Oc (w : World) (n ga ca gs cs : Nat) (Ap : Option Addr) (cp : Nat) (ps : List Int) (A : List S140) (B : List Bool) (g9 g10 g11 g12 : Nat) (c9 c10 c11 c12 : Array Value) (W : World) : Prop where
 ob : Ob w n ga ca gs cs Ap cp ps A B g9 g10 c9 c10 W
 k11 : W.heap[g11]? = some (.cells c11 140 (0, 0))
 k12 : W.heap[g12]? = some (.cells c12 140 (0, 0))
 h11 : w.heap.size ≤ g11
 h12 : w.heap.size ≤ g12
 d11 : g11 ≠ ga
 d12 : g12 ≠ ga
 e11 : g11 ≠ g10
 e12 : g12 ≠ g10
 e : g11 ≠ g12
variable {g9 g10 g11 g12 : Nat} {c9 c10 c11 c12 : Array Value}
theorem oc_below (h : Oc w n ga ca gs cs Ap cp ps A B g9 g10 g11 g12 c9 c10 c11 c12 W) (hb : Below W.heap.size W W1) : Oc w n ga ca gs cs Ap cp ps A B g9 g10 g11 g12 c9 c10 c11 c12 W1 :=
 ⟨ob_below h.ob hb, blk_below h.k11 hb, blk_below h.k12 hb, h.h11, h.h12, h.d11, h.d12, h.e11, h.e12, h.e⟩
theorem ob_far (h : Ob w n ga ca gs cs Ap cp ps A B g9 g10 c9 c10 W) {g : Nat} {c : Array Value} (k : W.heap[g]? = some (.cells c 140 (0, 0))) (hg : w.heap.size ≤ g) (d : g ≠ ga) (e : g ≠ g10) (i : Nat) (u : Value) : Ob w n ga ca gs cs Ap cp ps A B g9 g10 c9 c10 (W.setCell ⟨g, i, none⟩ u) :=
 ⟨os_box h.os hg k d rfl rfl i u, blk_far h.k9 (blk_ne h.k9 k (by decide)) u, blk_far h.k10 (Ne.symm e) u, h.h9, h.h10, h.d9, h.d10⟩
theorem oc_11 (h : Oc w n ga ca gs cs Ap cp ps A B g9 g10 g11 g12 c9 c10 c11 c12 W) (i : Nat) (u : Value) : Oc w n ga ca gs cs Ap cp ps A B g9 g10 g11 g12 c9 c10 (c11.setIfInBounds i u) c12 (W.setCell ⟨g11, i, none⟩ u) :=
 ⟨ob_far h.ob h.k11 h.h11 h.d11 h.e11 i u, blk_set h.k11 i u, blk_far h.k12 (Ne.symm h.e) u, h.h11, h.h12, h.d11, h.d12, h.e11, h.e12, h.e⟩
theorem oc_12 (h : Oc w n ga ca gs cs Ap cp ps A B g9 g10 g11 g12 c9 c10 c11 c12 W) (i : Nat) (u : Value) : Oc w n ga ca gs cs Ap cp ps A B g9 g10 g11 g12 c9 c10 c11 (c12.setIfInBounds i u) (W.setCell ⟨g12, i, none⟩ u) :=
 ⟨ob_far h.ob h.k12 h.h12 h.d12 h.e12 i u, blk_far h.k11 h.e u, blk_set h.k12 i u, h.h11, h.h12, h.d11, h.d12, h.e11, h.e12, h.e⟩
theorem oc_two (h : Ob w n ga ca gs cs Ap cp ps A B g9 g10 c9 c10 W) (hn : 0 < n) (hb : Below W.heap.size W W1) (k11 : W1.heap[g11]? = some (.cells c11 140 (0, 0))) (k12 : W1.heap[g12]? = some (.cells c12 140 (0, 0))) (h11 : W.heap.size ≤ g11) (h12 : W.heap.size ≤ g12) (e : g11 ≠ g12) : Oc w n ga ca gs cs Ap cp ps A B g9 g10 g11 g12 c9 c10 c11 c12 W1 := by
 obtain ⟨_, c, hc⟩ := os_ga h.os hn
 have := blk_lt hc
 have := blk_lt h.k10
 have := h.os.b.size
 exact ⟨ob_below h hb, k11, k12, by omega, by omega, by omega, by omega, by omega, by omega, e⟩
theorem oc_setA (h : Oc w n ga ca gs cs Ap cp ps A B g9 g10 g11 g12 c9 c10 c11 c12 W) {j : Nat} (hj : j < n) (x : S140) : Oc w n ga ca gs cs Ap cp ps (A.set j x) B g9 g10 g11 g12 c9 c10 c11 c12 ((((W.setCell ⟨ga, j * 4, none⟩ (.int .i64 x.f0)).setCell ⟨ga, j * 4 + 1, none⟩ (.int .i64 x.f1)).setCell ⟨ga, j * 4 + 2, none⟩ (.bool x.f2)).setCell ⟨ga, j * 4 + 3, none⟩ (.bool x.f3)) := by
 obtain ⟨h1, h2⟩ := os_setA h.ob.os hj x
 exact ⟨⟨h1, h2 _ _ h.ob.k9 h.ob.d9, h2 _ _ h.ob.k10 h.ob.d10, h.ob.h9, h.ob.h10, h.ob.d9, h.ob.d10⟩, h2 _ _ h.k11 h.d11, h2 _ _ h.k12 h.d12, h.h11, h.h12, h.d11, h.d12, h.e11, h.e12, h.e⟩
theorem oc_setB (h : Oc w n ga ca gs cs Ap cp ps A B g9 g10 g11 g12 c9 c10 c11 c12 W) {j : Nat} (hj : j < n) (x : Bool) : Oc w n ga ca gs cs Ap cp ps A (B.set j x) g9 g10 g11 g12 c9 c10 c11 c12 (W.setCell ⟨gs, j, none⟩ (.bool x)) := by
 obtain ⟨h1, h2⟩ := os_setB h.ob.os hj x
 obtain ⟨_, c, hc⟩ := os_gs h.ob.os (by omega)
 exact ⟨⟨h1, h2 _ _ h.ob.k9 (blk_ne h.ob.k9 hc (by decide)), h2 _ _ h.ob.k10 (blk_ne h.ob.k10 hc (by decide)), h.ob.h9, h.ob.h10, h.ob.d9, h.ob.d10⟩, h2 _ _ h.k11 (blk_ne h.k11 hc (by decide)), h2 _ _ h.k12 (blk_ne h.k12 hc (by decide)), h.h11, h.h12, h.d11, h.d12, h.e11, h.e12, h.e⟩
theorem gen_wp {P : Program} {c : Code} {Q : Exit → Act → World → Prop} {a : Act} {W : World} (S : World → Prop) (h : S W) (k : ∀ W', S W' → c.wp P Q a W') : c.wp P Q a W := k W h
theorem gen_q {Q : Exit → Act → World → Prop} {e : Exit} {a : Act} {W : World} (S : World → Prop) (h : S W) (k : ∀ W', S W' → Q e a W') : Q e a W := k W h
theorem gen_any {P : Program} {md : Region.Mode} {ops : Array Oper} {Q : Exit → Act → World → Prop} {T : World → Prop} {ds : List Nat} {f : Nat} {l : Array Bool} {a : Act} {W : World} (S : World → Prop) (h : S W) (k : ∀ W', S W' → wpAnyLast P md ops Q T ds f l a W') : wpAnyLast P md ops Q T ds f l a W := k W h
theorem lrB_no {n : S69} (b : S140) (h : (n.f1 == 0) = false) : lB n b = b ∧ rB n b = b := by
 have : ¬ n.f1 = 0 := by simpa using h
 exact ⟨by rw [lB, if_neg this], by rw [rB, if_neg this]⟩
theorem lB_cases {n : S69} (h : (n.f1 == 0) = true) (b : S140) : (b.f3 = false ∧ lB n b = ⟨b.f0, n.f0, b.f2, true⟩) ∨ (b.f3 = true ∧ decide (n.f0 < b.f1) = true ∧ lB n b = ⟨b.f0, n.f0, b.f2, true⟩) ∨ (b.f3 = true ∧ decide (n.f0 < b.f1) = false ∧ lB n b = b) := by
 have : n.f1 = 0 := by simpa using h
 rw [lB, if_pos this]
 cases h3 : b.f3
 ·exact .inl ⟨rfl, if_pos (.inl rfl)⟩
 ·by_cases h4 : n.f0 < b.f1
  ·exact .inr (.inl ⟨rfl, decide_eq_true h4, if_pos (.inr h4)⟩)
  ·exact .inr (.inr ⟨rfl, decide_eq_false h4, if_neg (by simp [h4])⟩)
theorem rB_cases {n : S69} (h : (n.f1 == 0) = true) (b : S140) : (b.f2 = false ∧ rB n b = ⟨n.f0, b.f1, true, b.f3⟩) ∨ (b.f2 = true ∧ decide (n.f0 > b.f0) = true ∧ rB n b = ⟨n.f0, b.f1, true, b.f3⟩) ∨ (b.f2 = true ∧ decide (n.f0 > b.f0) = false ∧ rB n b = b) := by
 have : n.f1 = 0 := by simpa using h
 rw [rB, if_pos this]
 cases h3 : b.f2
 ·exact .inl ⟨rfl, if_pos (.inl rfl)⟩
 ·by_cases h4 : n.f0 > b.f0
  ·exact .inr (.inl ⟨rfl, decide_eq_true h4, if_pos (.inr h4)⟩)
  ·exact .inr (.inr ⟨rfl, decide_eq_false h4, if_neg (by simp [h4])⟩)
theorem gd_set {B : List Bool} {k j : Nat} {s : Bool} (h : B.getD j false = s) : (B.set k s).getD j false = s := by
 by_cases e : k = j
 ·subst e
  by_cases hl : k < B.length
  ·simp only [List.getD, List.getElem?_set_self hl, Option.getD_some]
  ·rw [List.set_eq_of_length_le (by omega)]; exact h
 ·simp only [List.getD, List.getElem?_set_ne e]
  exact h
end
end
theorem ordered_calls (k : Nat) (A0 : Option Addr) (c0 : Nat) (l0 : List S69) (ps : List Int) (w : World) (hr0 : Kd.C k69 w A0 l0.length l0) (hc0 : l0.length ≤ c0) (hck : table_Check.f k l0 = some 0) (ho : table_order.f k l0 0 = some ps)
  (hl0 : 0 < l0.length) (hl : l0.length ≤ 100000) (hpl : ps.length ≤ 1000000) (hps : ∀ p ∈ ps, ∃ j : Nat, p = j ∧ j < l0.length)
  (hkid : ∀ i, i < l0.length → ¬ ((l0.getD i z69).f4 = -1 ∧ (l0.getD i z69).f5 = -1) → ∃ a b : Nat, (l0.getD i z69).f4 = a ∧ (l0.getD i z69).f5 = b ∧ a < l0.length ∧ b < l0.length) :
  Calls Tryz.prog 43 #[.slice A0 l0.length c0] w (RB w (.tuple #[.bool (ordL l0 ps (List.replicate l0.length z140) (List.replicate l0.length false)), .int .i64 0])) := by
 have hu34 := Tryz.underlying69
 have hu125 := Tryz.underlying140
 have HR0 := Am hr0
 have HC0 := Am hc0
 have HCK := Am hck
 have HOR := Am ho
 have HL0 := Am hl0
 have HL := Am hl
 have HPL := Am hpl
 have HPS := Am hps
 have HKID := Am hkid
 clear hr0 hc0 hck ho hl0 hl hpl hps hkid
 go_enter Tryz.func43, Tryz.ntmps43
 go_wp2_with (fail)
 refine (table_Check.calls k A0 c0 l0 0 _ HR0.out HC0.out HCK.out).mono ?_
 rintro e w1 ⟨rfl, hb⟩
 have HB := Am hb
 clear hb
 go_wp2_with (first | ((with_reducible refine Gd 20 rfl ?_); refine Kd.R_make k140 _ 140 rfl (N := 20) rfl 137 _ _ rfl (l0.length : Int) rfl rfl Tryz.underlying137 zB 24 info140 rfl (by decide) (by omega) z140 (ok := fun _ => True) (okp := fun _ => True) (k140_mkM _ _ _ z140) (fun _ hk => hk) trivial (by omega) (by have := HL.out; omega) (Below.refl _ _) (Nat.le_refl _) ?_; intro v5 w2 ho hb hg_ hnew_; rw [Int.toNat_natCast] at ho; have HO := Am (Kd.R_lower ho HB.out.size); have HB2 := Am (HB.out.trans (hb.mono HB.out.size)); clear ho hb hg_ hnew_ HB) | ((with_reducible refine Gd 23 rfl ?_); refine Kd.R_make Kd.bool _ 4 rfl (N := 23) rfl 138 _ _ rfl (l0.length : Int) rfl rfl Tryz.underlying138 (.bool false) 1 info4 rfl (by decide) (by omega) false (ok := fun _ => True) (okp := fun _ => True) rfl (fun _ hk => hk) trivial (by omega) (by have := HL.out; omega) (Below.refl _ _) (Nat.le_refl _) ?_; intro v6 w3 ho hb hg_ hnew_; rw [Int.toNat_natCast] at ho; have HO6 := Am (Kd.R_lower ho HB2.out.size); have HO5 := Am (Kd.R_below HO.out hb); have HB3 := Am (HB2.out.trans (hb.mono HB2.out.size)); clear ho hb hg_ hnew_ HB2 HO))
 refine (table_order.calls k A0 c0 l0 0 ps _ (Kd.C_below HR0.out HB3.out) HC0.out HOR.out).mono ?_
 rintro e w4 ⟨v25, rfl, ho, hb⟩
 obtain ⟨Ap, cp, rfl⟩ := Kd.R_slice ho
 have HP := Am (Kd.R_lower ho HB3.out.size)
 have HO5' := Am (Kd.R_below HO5.out hb)
 have HO6' := Am (Kd.R_below HO6.out hb)
 have HB4 := Am (HB3.out.trans (hb.mono HB3.out.size))
 clear ho hb HO5 HO6 HB3 HCK HOR
 obtain ⟨ga, ca, rfl, -, -, -⟩ := Kd.R_form HO5'.out (by rw [List.length_replicate]; exact HL0.out)
 obtain ⟨gs, cs, rfl, -, -, -⟩ := Kd.R_form HO6'.out (by rw [List.length_replicate]; exact HL0.out)
 have HS : Aside0 (Os w l0.length ga ca gs cs Ap cp ps (List.replicate l0.length z140) (List.replicate l0.length false) w4) := ⟨⟨HB4.out, List.length_replicate, List.length_replicate, by simpa only [List.length_replicate] using HO5'.out, by simpa only [List.length_replicate] using HO6'.out, HP.out⟩⟩
 rw [List.length_replicate, List.length_replicate]
 clear HB4 HO5' HO6' HP
 obtain ⟨E, hE⟩ : ∃ E, ordL l0 ps (List.replicate l0.length z140) (List.replicate l0.length false) = E := ⟨_, rfl⟩
 have HE00 := Am hE
 have HE := Am hE
 clear hE
 go_wp2
 go_loopg [27] (ps.length + 1) (fun kq v27 w' => ∃ (i : Nat) (A : List S140) (B : List Bool), v27 = .int .i64 i ∧ Aside0 (i ≤ ps.length ∧ kq + i = ps.length + 1) ∧ Aside0 (Os w l0.length ga ca gs cs Ap cp ps A B w') ∧ Aside0 (ordL l0 (ps.drop i) A B = E))
 case atStart => exact ⟨0, _, _, rfl, ⟨Nat.zero_le _, rfl⟩, HS, HE⟩
 case round =>
  clear HS HE
  obtain ⟨i, A, B, rfl, HI, HS, HE⟩ := hrel
  have hpl := HPL.out
  obtain ⟨kq1, rfl⟩ : ∃ x, gk = x + 1 := ⟨gk - 1, by have := HI.out; omega⟩
  by_cases q1 : i < ps.length
  ·obtain ⟨j, hj, hjl⟩ := HPS.out _ (List.getElem_mem q1)
   have hd : ps.drop i = (j : Int) :: ps.drop (i + 1) := by rw [← hj]; exact List.drop_eq_getElem_cons q1
   have HE1 := HE.out
   rw [hd] at HE1
   obtain ⟨ad, ead, hz⟩ := rd_cells HR0.out hjl
   obtain ⟨z0, z1, z2, z3, z4, z5⟩ := hz _ HS.out.b
   obtain ⟨ap, eap, hp0⟩ := Kd.at_int (Kd.R_reads' HS.out.rp).2.2 (i : Int) (by omega) (by omega)
   have p5 : (0 ≤ (i : Int)) = True := eq_true (by omega)
   have p6 : ((i : Int) < (ps.length : Int)) = True := eq_true (by omega)
   have p7 : decide ((i : Int) < (ps.length : Int)) = true := decide_eq_true (by omega)
   have p8 : (0 ≤ (j : Int)) = True := eq_true (by omega)
   have p9 : ((j : Int) < (l0.length : Int)) = True := eq_true (by omega)
   have hp1 : rd ps (i : Int) = j := by rw [← hj]; simp [rd, List.getD, q1]
   rw [hp1, Int.toNat_natCast] at hp0
   cases ead
   cases eap
   have HJ := Am hjl
   have HE2 := Am HE1
   have HI1 := Am (show i < ps.length from q1)
   clear HE hj hd HE1 q1 hp1 hjl
   go_wp2
   obtain ⟨n, hn⟩ : ∃ n, l0.getD j z69 = n := ⟨_, rfl⟩
   obtain ⟨b, hbb⟩ : ∃ b, A.getD j z140 = b := ⟨_, rfl⟩
   obtain ⟨s, hss⟩ : ∃ s, B.getD j false = s := ⟨_, rfl⟩
   have hk := HKID.out j HJ.out
   have hE := ordL_at HE2.out hn hbb hss
   rw [hn] at hz hk
   have HSO := HS.out
   have HZ := Am hz
   have HBB := Am hbb
   have HSS := Am hss
   have HK := Am hk
   have HE3 := Am hE
   clear z0 z1 z2 z3 z4 z5 hz hn hbb hss hk hE HE2
   refine sT 12 [11] (S := fun w' => Os w l0.length ga ca gs cs (some ap) cp ps A B w') (os_below HSO ((Below.refl _ _).drew)) fun hHeld => ?_
   have hO := hHeld
   refine pu 0 31 ?_
   refine pu 1 32 ?_
   refine pu 2 33 ?_
   refine ta 3 34 hHeld (hy := by
    intro w' hs
    obtain ⟨z0, z1, z2, z3, z4, z5⟩ := HZ.out _ hs.b
    go_simp
    with_reducible rfl) ?_
   refine pu 4 35 ?_
   refine pu 5 36 ?_
   refine pu 6 37 ?_
   refine ta 7 38 hHeld (hy := by
    intro w' hs
    obtain ⟨a0, a1, a2, a3⟩ := os_ab hs HJ.out HBB.out
    go_simp
    with_reducible rfl) ?_
   refine join_ (σ := Nat × Nat) 2 #[true, true, true, true, true, true, true, true, true, true, false, false] (fun s => [(9, .pointer (some ⟨s.1, 0, none⟩)), (10, .pointer (some ⟨s.2, 0, none⟩))]) (fun s w' => Ob w l0.length ga ca gs cs (some ap) cp ps A B s.1 s.2 #[.int .i64 0, .int .i64 0, .int .i64 0, .int .i64 0, .int .i64 0, .int .i64 0] #[.int .i64 0, .int .i64 0, .bool false, .bool false] w') ?_ ?_
   rotate_left
   ·intro hCont
    refine two_ (i := 8) (j := 9) (Ni := some 9) (Nj := some 10) #[true, true, true, true, true, true, true, true, true, false, false, false] #[true, true, true, true, true, true, true, true, false, true, false, false] rfl rfl rfl rfl (by kernel_rfl) (by decide) (by decide) (fun K hK => ?_) (fun K hK => ?_)
    ·refine box_step (by rfl) (N := 9) rfl (cs := #[.int .i64 0, .int .i64 0, .int .i64 0, .int .i64 0, .int .i64 0, .int .i64 0]) (t := 69) ?hr ?_
     case hr => first | (go_simp; done) | (go_simp; rfl)
     intro g9 hg9 wA kg9 bg9
     refine hK.out _ _ (os_below hHeld bg9) (fun hHeld => ?_)
     clear hK K
     refine nm 9 ?_
     refine on 9 10 fun K hK => ?_
     refine box_step (by rfl) (N := 10) rfl (cs := #[.int .i64 0, .int .i64 0, .bool false, .bool false]) (t := 140) ?hr ?_
     case hr => first | (go_simp; done) | (go_simp; rfl)
     intro g10 hg10 wB kg10 bg10
     refine hK.out _ _ (os_below hHeld bg10) (fun hHeld => ?_)
     clear hK K
     refine nm 10 ?_
     exact norm_ (by simp only [putAll, Act.put, sI, sZ, sS]) (hCont (g9, g10) _ (ob_two hO HL0.out (bg9.trans (bg10.mono bg9.size)) (blk_below kg9 bg10) (kg10) (by have := bg9.size; omega) (by have := bg9.size; omega)))
    ·refine box_step (by rfl) (N := 10) rfl (cs := #[.int .i64 0, .int .i64 0, .bool false, .bool false]) (t := 140) ?hr ?_
     case hr => first | (go_simp; done) | (go_simp; rfl)
     intro g10 hg10 wA kg10 bg10
     refine hK.out _ _ (os_below hHeld bg10) (fun hHeld => ?_)
     clear hK K
     refine nm 10 ?_
     refine on 8 9 fun K hK => ?_
     refine box_step (by rfl) (N := 9) rfl (cs := #[.int .i64 0, .int .i64 0, .int .i64 0, .int .i64 0, .int .i64 0, .int .i64 0]) (t := 69) ?hr ?_
     case hr => first | (go_simp; done) | (go_simp; rfl)
     intro g9 hg9 wB kg9 bg9
     refine hK.out _ _ (os_below hHeld bg9) (fun hHeld => ?_)
     clear hK K
     refine nm 9 ?_
     exact norm_ (by simp only [putAll, Act.put, sI, sZ, sS]) (hCont (g9, g10) _ (ob_two hO HL0.out (bg10.trans (bg9.mono bg10.size)) (kg9) (blk_below kg10 bg9) (by have := bg10.size; omega) (by have := bg10.size; omega)))
   rintro ⟨g9, g10⟩ w5 hOb
   replace hOb : Ob w l0.length ga ca gs cs (some ap) cp ps A B g9 g10 #[.int .i64 0, .int .i64 0, .int .i64 0, .int .i64 0, .int .i64 0, .int .i64 0] #[.int .i64 0, .int .i64 0, .bool false, .bool false] w5 := hOb
   obtain ⟨y0, y1, y2, y3, y4, y5, f0, f1, f2, f3, f4, f5⟩ := ob_cells9 hOb
   have HOb := Am hOb
   clear hOb
   refine norm_ (a' := ?_) ?_ ?_
   rotate_left
   ·simp only [putAll, Act.put, sI, sZ, sS]
    rfl
   refine on0 10 (fun K hK => ?_)
   refine sk ?_
   have hOb : Ob w l0.length ga ca gs cs (some ap) cp ps A B g9 g10 #[.int .i64 n.f0, .int .i64 n.f1, .int .i64 n.f2, .int .i64 n.f3, .int .i64 n.f4, .int .i64 n.f5] #[.int .i64 0, .int .i64 0, .bool false, .bool false] _ := ob_9 (ob_9 (ob_9 (ob_9 (ob_9 (ob_9 HOb.out 0 (.int .i64 n.f0)) 1 (.int .i64 n.f1)) 2 (.int .i64 n.f2)) 3 (.int .i64 n.f3)) 4 (.int .i64 n.f4)) 5 (.int .i64 n.f5)
   refine hK.out _ _ hOb.os (fun hHeld => ?_)
   clear hK K y0 y1 y2 y3 y4 y5 f0 f1 f2 f3 f4 f5 HOb hHeld
   refine gen_any (fun W => Ob w l0.length ga ca gs cs (some ap) cp ps A B g9 g10 #[.int .i64 n.f0, .int .i64 n.f1, .int .i64 n.f2, .int .i64 n.f3, .int .i64 n.f4, .int .i64 n.f5] #[.int .i64 0, .int .i64 0, .bool false, .bool false] W) hOb (fun w6 hOb => ?_)
   obtain ⟨y0, y1, y2, y3, f0, f1, f2, f3⟩ := ob_cells10 hOb
   have HOb := Am hOb
   clear hOb
   refine la0 11 (fun K hK => ?_)
   refine sk ?_
   have hOb : Ob w l0.length ga ca gs cs (some ap) cp ps A B g9 g10 #[.int .i64 n.f0, .int .i64 n.f1, .int .i64 n.f2, .int .i64 n.f3, .int .i64 n.f4, .int .i64 n.f5] #[.int .i64 b.f0, .int .i64 b.f1, .bool b.f2, .bool b.f3] _ := ob_10 (ob_10 (ob_10 (ob_10 HOb.out 0 (.int .i64 b.f0)) 1 (.int .i64 b.f1)) 2 (.bool b.f2)) 3 (.bool b.f3)
   refine hK.out _ _ ?_
   clear hK K y0 y1 y2 y3 f0 f1 f2 f3 HOb hO HS HSO
   refine done_ (by kernel_rfl) ?_
   refine gen_q (fun W => Ob w l0.length ga ca gs cs (some ap) cp ps A B g9 g10 #[.int .i64 n.f0, .int .i64 n.f1, .int .i64 n.f2, .int .i64 n.f3, .int .i64 n.f4, .int .i64 n.f5] #[.int .i64 b.f0, .int .i64 b.f1, .bool b.f2, .bool b.f3] W) hOb (fun w7 hOb => ?_)
   obtain ⟨y0, y1, y2, y3, y4, y5, -⟩ := ob_cells9 hOb
   obtain ⟨x0, x1, x2, x3, -⟩ := ob_cells10 hOb
   have HOb := Am hOb
   clear hOb
   go_wp2_with (fail)
   refine (table_isLeaf.calls _ _ _ _ _ _ _ _ (leaf_f n)).mono ?_
   rintro e w8 ⟨rfl, hb⟩
   have hOb := ob_below HOb.out hb
   clear hb y0 y1 y2 y3 y4 y5 x0 x1 x2 x3 HOb
   obtain ⟨y0, y1, y2, y3, y4, y5, -⟩ := ob_cells9 hOb
   obtain ⟨x0, x1, x2, x3, -⟩ := ob_cells10 hOb
   have sh := os_bb hOb.os HJ.out HSS.out
   have HOb := Am hOb
   clear hOb
   by_cases hlf : n.f4 = -1 ∧ n.f5 = -1
   ·rw [show decide (n.f4 = -1 ∧ n.f5 = -1) = true from decide_eq_true hlf]
    have hE := HE3.out.1 hlf
    clear HE3 HK
    cases h1 : (n.f1 == 0)
    ·have HE4 := Am (hE.2 (by simp [outB, h1]))
     exact dd13
    ·cases s
     ·cases h2 : b.f2
      ·rw [h2] at x2
       cases h3 : b.f3
       ·rw [h3] at x3
        have HE4 := Am (hE.2 (by simp [outB, h1, h3, h2]))
        exact dd13
       ·rw [h3] at x3
        cases h4 : decide (n.f0 ≥ b.f1)
        ·have HE4 := Am (hE.2 (by simp [outB, h1, h3, h2, of_decide_eq_false h4]))
         exact dd13
        ·have hE0 := hE.1 (by simp [outB, h1, h3, h2, of_decide_eq_true h4])
         exact dd56
      ·rw [h2] at x2
       cases h5 : decide (n.f0 < b.f0)
       ·cases h3 : b.f3
        ·rw [h3] at x3
         have HE4 := Am (hE.2 (by simp [outB, h1, h3, h2, of_decide_eq_false h5]))
         exact dd13
        ·rw [h3] at x3
         cases h4 : decide (n.f0 ≥ b.f1)
         ·have HE4 := Am (hE.2 (by simp [outB, h1, h3, h2, of_decide_eq_false h5, of_decide_eq_false h4]))
          exact dd13
         ·have hE0 := hE.1 (by simp [outB, h1, h3, h2, of_decide_eq_false h5, of_decide_eq_true h4])
          exact dd56
       ·have hE0 := hE.1 (by simp [outB, h1, h2, of_decide_eq_true h5])
        exact dd56
     ·have hE0 := hE.1 (by simp [outB, h1])
      exact dd56
   ·rw [show decide (n.f4 = -1 ∧ n.f5 = -1) = false from decide_eq_false hlf]
    have hE := HE3.out.2 hlf
    obtain ⟨ka, kb, e4, e5, la, lb⟩ := HK.out hlf
    rw [e4, e5, Int.toNat_natCast, Int.toNat_natCast] at hE
    have HE4 := Am hE
    have E4 := Am e4
    have E5 := Am e5
    have LA := Am la
    have LB := Am lb
    clear HE3 HK hE e4 e5 la lb hlf
    go_wp2
    clear y0 y1 y2 y3 y4 y5 x0 x1 x2 x3 sh
    refine sT 6 [5] (S := fun w' => Ob w l0.length ga ca gs cs (some ap) cp ps A B g9 g10 #[.int .i64 n.f0, .int .i64 n.f1, .int .i64 n.f2, .int .i64 n.f3, .int .i64 n.f4, .int .i64 n.f5] #[.int .i64 b.f0, .int .i64 b.f1, .bool b.f2, .bool b.f3] w') (ob_below HOb.out ((Below.refl _ _).drew)) fun hHeld => ?_
    have hO := hHeld
    refine ta 0 72 hHeld (hy := by
     intro w' hs
     obtain ⟨x0, x1, x2, x3, -⟩ := ob_cells10 hs
     go_simp
     with_reducible rfl) ?_
    refine ta 1 73 hHeld (hy := by
     intro w' hs
     obtain ⟨x0, x1, x2, x3, -⟩ := ob_cells10 hs
     go_simp
     with_reducible rfl) ?_
    refine join_ (σ := Nat × Nat) 2 #[true, true, true, true, false, false] (fun s => [(11, .pointer (some ⟨s.1, 0, none⟩)), (12, .pointer (some ⟨s.2, 0, none⟩))]) (fun s w' => Oc w l0.length ga ca gs cs (some ap) cp ps A B g9 g10 s.1 s.2 #[.int .i64 n.f0, .int .i64 n.f1, .int .i64 n.f2, .int .i64 n.f3, .int .i64 n.f4, .int .i64 n.f5] #[.int .i64 b.f0, .int .i64 b.f1, .bool b.f2, .bool b.f3] #[.int .i64 0, .int .i64 0, .bool false, .bool false] #[.int .i64 0, .int .i64 0, .bool false, .bool false] w') ?_ ?_
    rotate_left
    ·intro hCont
     refine two_ (i := 2) (j := 3) (Ni := some 11) (Nj := some 12) #[true, true, true, false, false, false] #[true, true, false, true, false, false] rfl rfl rfl rfl (by kernel_rfl) (by decide) (by decide) (fun K hK => ?_) (fun K hK => ?_)
     ·refine box_step (by rfl) (N := 11) rfl (cs := #[.int .i64 0, .int .i64 0, .bool false, .bool false]) (t := 140) ?hr ?_
      case hr => first | (go_simp; done) | (go_simp; rfl)
      intro g11 hg11 wA kg11 bg11
      refine hK.out _ _ (ob_below hHeld bg11) (fun hHeld => ?_)
      clear hK K
      refine nm 11 ?_
      refine on 3 12 fun K hK => ?_
      refine box_step (by rfl) (N := 12) rfl (cs := #[.int .i64 0, .int .i64 0, .bool false, .bool false]) (t := 140) ?hr ?_
      case hr => first | (go_simp; done) | (go_simp; rfl)
      intro g12 hg12 wB kg12 bg12
      refine hK.out _ _ (ob_below hHeld bg12) (fun hHeld => ?_)
      clear hK K
      refine nm 12 ?_
      exact norm_ (by simp only [putAll, Act.put, sI, sZ, sS]) (hCont (g11, g12) _ (oc_two hO HL0.out (bg11.trans (bg12.mono bg11.size)) (blk_below kg11 bg12) (kg12) (by have := bg11.size; omega) (by have := bg11.size; omega) (by have := blk_lt kg11; omega)))
     ·refine box_step (by rfl) (N := 12) rfl (cs := #[.int .i64 0, .int .i64 0, .bool false, .bool false]) (t := 140) ?hr ?_
      case hr => first | (go_simp; done) | (go_simp; rfl)
      intro g12 hg12 wA kg12 bg12
      refine hK.out _ _ (ob_below hHeld bg12) (fun hHeld => ?_)
      clear hK K
      refine nm 12 ?_
      refine on 2 11 fun K hK => ?_
      refine box_step (by rfl) (N := 11) rfl (cs := #[.int .i64 0, .int .i64 0, .bool false, .bool false]) (t := 140) ?hr ?_
      case hr => first | (go_simp; done) | (go_simp; rfl)
      intro g11 hg11 wB kg11 bg11
      refine hK.out _ _ (ob_below hHeld bg11) (fun hHeld => ?_)
      clear hK K
      refine nm 11 ?_
      exact norm_ (by simp only [putAll, Act.put, sI, sZ, sS]) (hCont (g11, g12) _ (oc_two hO HL0.out (bg12.trans (bg11.mono bg12.size)) (kg11) (blk_below kg12 bg11) (by have := bg12.size; omega) (by have := bg12.size; omega) (by have := blk_lt kg12; omega)))
    rintro ⟨g11, g12⟩ w9 hOc
    replace hOc : Oc w l0.length ga ca gs cs (some ap) cp ps A B g9 g10 g11 g12 #[.int .i64 n.f0, .int .i64 n.f1, .int .i64 n.f2, .int .i64 n.f3, .int .i64 n.f4, .int .i64 n.f5] #[.int .i64 b.f0, .int .i64 b.f1, .bool b.f2, .bool b.f3] #[.int .i64 0, .int .i64 0, .bool false, .bool false] #[.int .i64 0, .int .i64 0, .bool false, .bool false] w9 := hOc
    obtain ⟨y0, y1, y2, y3, f0, f1, f2, f3⟩ := c4_of hOc.k11
    have HOc := Am hOc
    clear hOc
    refine norm_ (a' := ?_) ?_ ?_
    rotate_left
    ·simp only [putAll, Act.put, sI, sZ, sS]
     rfl
    refine on0 4 (fun K hK => ?_)
    refine sk ?_
    have hOc : Oc w l0.length ga ca gs cs (some ap) cp ps A B g9 g10 g11 g12 #[.int .i64 n.f0, .int .i64 n.f1, .int .i64 n.f2, .int .i64 n.f3, .int .i64 n.f4, .int .i64 n.f5] #[.int .i64 b.f0, .int .i64 b.f1, .bool b.f2, .bool b.f3] #[.int .i64 b.f0, .int .i64 b.f1, .bool b.f2, .bool b.f3] #[.int .i64 0, .int .i64 0, .bool false, .bool false] _ := oc_11 (oc_11 (oc_11 (oc_11 HOc.out 0 (.int .i64 b.f0)) 1 (.int .i64 b.f1)) 2 (.bool b.f2)) 3 (.bool b.f3)
    refine hK.out _ _ hOc.ob (fun hHeld => ?_)
    clear hK K y0 y1 y2 y3 f0 f1 f2 f3 HOc hHeld
    refine gen_any (fun W => Oc w l0.length ga ca gs cs (some ap) cp ps A B g9 g10 g11 g12 #[.int .i64 n.f0, .int .i64 n.f1, .int .i64 n.f2, .int .i64 n.f3, .int .i64 n.f4, .int .i64 n.f5] #[.int .i64 b.f0, .int .i64 b.f1, .bool b.f2, .bool b.f3] #[.int .i64 b.f0, .int .i64 b.f1, .bool b.f2, .bool b.f3] #[.int .i64 0, .int .i64 0, .bool false, .bool false] W) hOc (fun w10 hOc => ?_)
    obtain ⟨y0, y1, y2, y3, f0, f1, f2, f3⟩ := c4_of hOc.k12
    have HOc := Am hOc
    clear hOc
    refine la0 5 (fun K hK => ?_)
    refine sk ?_
    have hOc : Oc w l0.length ga ca gs cs (some ap) cp ps A B g9 g10 g11 g12 #[.int .i64 n.f0, .int .i64 n.f1, .int .i64 n.f2, .int .i64 n.f3, .int .i64 n.f4, .int .i64 n.f5] #[.int .i64 b.f0, .int .i64 b.f1, .bool b.f2, .bool b.f3] #[.int .i64 b.f0, .int .i64 b.f1, .bool b.f2, .bool b.f3] #[.int .i64 b.f0, .int .i64 b.f1, .bool b.f2, .bool b.f3] _ := oc_12 (oc_12 (oc_12 (oc_12 HOc.out 0 (.int .i64 b.f0)) 1 (.int .i64 b.f1)) 2 (.bool b.f2)) 3 (.bool b.f3)
    refine hK.out _ _ ?_
    clear hK K y0 y1 y2 y3 f0 f1 f2 f3 HOc hO HOb
    refine done_ (by kernel_rfl) ?_
    refine gen_q (fun W => Oc w l0.length ga ca gs cs (some ap) cp ps A B g9 g10 g11 g12 #[.int .i64 n.f0, .int .i64 n.f1, .int .i64 n.f2, .int .i64 n.f3, .int .i64 n.f4, .int .i64 n.f5] #[.int .i64 b.f0, .int .i64 b.f1, .bool b.f2, .bool b.f3] #[.int .i64 b.f0, .int .i64 b.f1, .bool b.f2, .bool b.f3] #[.int .i64 b.f0, .int .i64 b.f1, .bool b.f2, .bool b.f3] W) hOc (fun w11 hOc => ?_)
    obtain ⟨y0, y1, y2, y3, y4, y5, -⟩ := ob_cells9 hOc.ob
    obtain ⟨x0, x1, x2, x3, -⟩ := ob_cells10 hOc.ob
    obtain ⟨-, u1, -, u3, -, r1, -, r3⟩ := c4_of hOc.k11
    obtain ⟨v0, -, v2, -, s0, -, s2, -⟩ := c4_of hOc.k12
    have HOc := Am hOc
    clear hOc
    cases h1 : (n.f1 == 0)
    ·obtain ⟨hLB, hRB⟩ := lrB_no b h1
     exact dd2
    ·rcases lB_cases h1 b with ⟨h3, hLB⟩ | ⟨h3, h4, hLB⟩ | ⟨h3, h4, hLB⟩ <;> rcases rB_cases h1 b with ⟨h2, hRB⟩ | ⟨h2, h5, hRB⟩ | ⟨h2, h5, hRB⟩
     all_goals
      rw [h3] at x3
      rw [h2] at x2
      exact dd2
  ·have p7 : decide ((i : Int) < (ps.length : Int)) = false := decide_eq_false (by omega)
   have hE := HE.out
   rw [List.drop_eq_nil_of_le (by omega), ordL] at hE
   have hb := HS.out.b
   clear HE HS
   go_wp2
   go_ret2
   exact ⟨by rw [HE00.out, ← hE]; rfl, hb⟩
section
open Go.Proofs.YtaabbaemfnecgaaGreat.V
def okO (t : List S69) (ps : List Int) : Bool := decide (0 < t.length) && (decide (t.length ≤ 100000) && (decide (ps.length ≤ 1000000) && ((ps.all fun p => decide (0 ≤ p) && decide (p < t.length)) && inR t)))
def table_Ordered.f (k : Nat) (l0 : List S69) : Option (Bool × Int) := (table_Check.f k l0).bind fun e => if e = 0 then ((table_order.f k l0 0).bind fun ps => if okO l0 ps = true then some (ordL l0 ps (List.replicate l0.length z140) (List.replicate l0.length false), 0) else none) else some (false, e)
theorem table_Ordered.mono : ∀ a0 k, LeO (table_Ordered.f k a0) (table_Ordered.f (k + 1) a0) := by
 intro a0 k
 unfold table_Ordered.f
 refine LeO.bind (table_Check.mono _ _) (fun _ => LeO.ite (LeO.bind (table_order.mono _ _ _) (fun _ => LeO.refl _)) (LeO.refl _))
theorem table_Ordered.calls (k : Nat) (A0 : Option Addr) (c0 : Nat) (l0 : List (S69)) (r1 : Bool) (r2 : Int) (w : World) (hr0 : Kd.C k69 w A0 l0.length l0) (hc0 : l0.length ≤ c0) (h : table_Ordered.f k l0 = some (r1, r2)) :
  Calls Tryz.prog 43 #[.slice A0 l0.length c0] w (RB w (.tuple #[.bool r1, .int .i64 r2])) := by
 unfold table_Ordered.f at h
 obtain ⟨ec, hc, h⟩ := Option.bind_eq_some_iff.mp h
 by_cases q0 : ec = 0
 ·subst q0
  rw [if_pos rfl] at h
  obtain ⟨ps, ho, h⟩ := Option.bind_eq_some_iff.mp h
  by_cases q1 : okO l0 ps = true
  rotate_left
  ·rw [if_neg q1] at h; cases h
  rw [if_pos q1] at h
  injection h with h
  injection h with h1 h2
  subst h1 h2
  simp only [okO, Bool.and_eq_true, decide_eq_true_eq, List.all_eq_true] at q1
  obtain ⟨q2, q3, q4, q5, q6⟩ := q1
  exact ordered_calls k A0 c0 l0 ps w hr0 hc0 hc ho q2 q3 q4 (fun p hp => ⟨p.toNat, by have := q5 p hp; omega, by have := q5 p hp; omega⟩) (fun i hi hl => inR_at q6 hi hl)
 ·rw [if_neg q0] at h
  injection h with h
  injection h with h1 h2
  subst h1 h2
  have HR0 := Am hr0
  have HC0 := Am hc0
  have HCK := Am hc
  have q1 : (ec == 0) = false := by simpa using q0
  have q2 : (ec != 0) = true := by simpa using q0
  clear hr0 hc0 hc q0
  go_enter Tryz.func43, Tryz.ntmps43
  go_wp2_with (fail)
  refine (table_Check.calls k A0 c0 l0 ec _ HR0.out HC0.out HCK.out).mono ?_
  exact dd86
end
section
attribute [local go_sem] max2_int min2_int max_two min_two max_three min_three max_four min_four
def seq_Check.j0 : Nat → List (S69) → Bool → Option (Int)
 | 0, _, _ => none
 | k + 1, x0, x23 => if x23 = true then (some 3) else ((table_Ordered.f k x0).bind fun bt214 => (if bt214.1 = true then (some 0) else (some 3)))
def seq_Check.f (k : Nat) (l0 : List (S69)) : Option (Int) := (table_Check.f k l0).bind fun t211 => (if t211 = 0 then ((weigh_Sound.f k l0).bind fun bt212 => (if bt212.2 = 0 then (seq_Check.j0 k l0 (!bt212.1)) else (seq_Check.j0 k l0 true))) else (some t211))
theorem seq_Check.mono_l : ∀ k, (∀ y0 y1, LeO (seq_Check.j0 k y0 y1) (seq_Check.j0 (k + 1) y0 y1))
 | 0 => fun _ _ r h => by simp [seq_Check.j0] at h
 | k + 1 => by
  have ih0 := seq_Check.mono_l k
  ·intro y0 y1
   unfold seq_Check.j0
   repeat' with_reducible first | exact ih0 _ _ | exact table_Check.mono _ _ | exact table_Ordered.mono _ _ | exact weigh_Sound.mono _ _ | exact LeO.refl _ | exact LeO.none _ | refine LeO.ite ?_ ?_ | refine LeO.bind ?_ (fun _ => ?_)
theorem seq_Check.mono : ∀ a0 k, LeO (seq_Check.f k a0) (seq_Check.f (k + 1) a0) := by
 intro a0 k
 have ih0 := seq_Check.mono_l k
 unfold seq_Check.f
 repeat' with_reducible first | exact ih0 _ _ | exact table_Check.mono _ _ | exact table_Ordered.mono _ _ | exact weigh_Sound.mono _ _ | exact LeO.refl _ | exact LeO.none _ | refine LeO.ite ?_ ?_ | refine LeO.bind ?_ (fun _ => ?_)
theorem seq_Check.calls (k : Nat) (A0 : Option Addr) (c0 : Nat) (l0 : List (S69)) (r : Int) (w : World) (hr0 : Kd.C k69 w A0 l0.length l0) (hc0 : l0.length ≤ c0) (h : seq_Check.f k l0 = some r) :
  Calls Tryz.prog 20 #[.slice A0 l0.length c0] w (RB w (.int .i64 r)) := by
 have HR0 := Am hr0
 have HC0 := Am hc0
 clear hr0 hc0
 have HB := Br w
 have H := h
 unfold seq_Check.f at H
 clear h
 obtain ⟨t211, A2, H⟩ := bo H
 by_cases c3 : t211 = 0
 ·rw [if_pos c3] at H
  obtain ⟨c3b0, c3b1⟩ := eq2 c3
  clear c3
  obtain ⟨⟨t212, t213⟩, A4, H⟩ := bo H
  dsimp only at H
  have HC5 := Am H
  clear H
  go_enter Tryz.func20, Tryz.ntmps20
  go_upto_region 5 with (first | ((with_reducible refine Gc 55 rfl ?_); refine gL 9 Tryz.func55 #[.slice A0 l0.length c0] ?_; (with_reducible refine (table_Check.calls k _ _ l0 t211 _ (kc HR0.out) HC0.out A2.out).mono ?_); rintro e w6 ⟨rfl, hb⟩; refine ⟨_, rfl, ?_⟩; replace HB := Am (below_step bq hb); (try clear hb)) | ((with_reducible refine Gc 42 rfl ?_); refine gL 15 Tryz.func42 #[.slice A0 l0.length c0] ?_; (with_reducible refine (weigh_Sound.calls k _ _ l0 t212 t213 _ (kc (Kd.C_below HR0.out HB.out)) HC0.out A4.out).mono ?_); rintro e w7 ⟨rfl, hb⟩; refine ⟨_, rfl, ?_⟩; replace HB := Am (below_step bq hb); (try clear hb)))
  (try simp only [Act.put, sI, sZ, sS])
  go_cut [23] (fun v23 wc => ∃ (kq : Nat) (x23_4 : Bool), v23 = .bool x23_4 ∧ Aside0 (seq_Check.j0 kq l0 x23_4 = some r) ∧ Aside0 (kq ≤ k) ∧ Aside0 (Below w.heap.size w wc))
  case first =>
   have H := HC5.out
   clear HC5
   by_cases c8 : t213 = 0
   ·rw [if_pos c8] at H
    obtain ⟨c8b0, c8b1⟩ := eq2 c8
    clear c8
    (first | rw [c8b0] | (simp only [i64_w, i32_w]; rw [c8b0]) | skip)
    have H' := Am H
    clear H
    go_wp2
    go_meet
    case rel => exact ⟨_, (!t212), (by first | rfl | (simp; done) | (simp [*]; done)), H', ⟨by first | omega | exact Nat.le_refl _⟩, ⟨bq⟩⟩
   ·rw [if_neg c8] at H
    obtain ⟨c8b0, c8b1⟩ := ne2 c8
    (first | rw [c8b0] | (simp only [i64_w, i32_w]; rw [c8b0]) | skip)
    have H' := Am H
    clear H
    go_wp2
    exact dd68
  case rest =>
   clear HC5
   clear c3b0 c3b1
   obtain ⟨kq, x23_4, rfl, HA, HJ4, HB⟩ := hcut
   cases kq with
   | zero => exact absurd HA.out (by simp [seq_Check.j0])
   | succ kj4 =>
    have H := HA.out
    clear HA
    simp only [seq_Check.j0] at H
    by_cases c9 : x23_4 = true
    ·subst c9
     exact dd87
    ·replace c9 := Bool.eq_false_iff.mpr c9
     subst c9
     rw [if_neg nf] at H
     obtain ⟨⟨t214, t215⟩, A10, H⟩ := bo H
     dsimp only at H
     by_cases c11 : t214 = true
     ·subst c11
      rw [if_pos rfl] at H
      obtain rfl := Option.some.inj H
      go_wp2_with (first | ((with_reducible refine Gc 43 rfl ?_); refine gL 26 Tryz.func43 #[.slice A0 l0.length c0] ?_; (with_reducible refine (table_Ordered.calls kj4 _ _ l0 true t215 _ (kc (Kd.C_below HR0.out HB.out)) HC0.out A10.out).mono ?_); rintro e w12 ⟨rfl, hb⟩; refine ⟨_, rfl, ?_⟩; replace HB := Am (below_step bq hb); (try clear hb)))
      go_ret
      exact ⟨er, bq⟩
     ·replace c11 := Bool.eq_false_iff.mpr c11
      subst c11
      rw [if_neg nf] at H
      obtain rfl := Option.some.inj H
      go_wp2_with (first | ((with_reducible refine Gc 43 rfl ?_); refine gL 26 Tryz.func43 #[.slice A0 l0.length c0] ?_; (with_reducible refine (table_Ordered.calls kj4 _ _ l0 false t215 _ (kc (Kd.C_below HR0.out HB.out)) HC0.out A10.out).mono ?_); rintro e w13 ⟨rfl, hb⟩; refine ⟨_, rfl, ?_⟩; replace HB := Am (below_step bq hb); (try clear hb)))
      go_ret
      exact ⟨er, bq⟩
 ·rw [if_neg c3] at H
  obtain ⟨c3b0, c3b1⟩ := ne2 c3
  obtain rfl := Option.some.inj H
  go_enter Tryz.func20, Tryz.ntmps20
  go_wp2_with (first | ((with_reducible refine Gc 55 rfl ?_); refine gL 9 Tryz.func55 #[.slice A0 l0.length c0] ?_; (with_reducible refine (table_Check.calls k _ _ l0 t211 _ (kc HR0.out) HC0.out A2.out).mono ?_); rintro e w14 ⟨rfl, hb⟩; refine ⟨_, rfl, ?_⟩; replace HB := Am (below_step bq hb); (try clear hb)))
  go_ret
  exact ⟨er, bq⟩
mutual
def table_sub.l0 : Nat → List (S69) → List Int → List Int → List Int → Int → Int → Option ((List (S69)))
 | 0, _, _, _, _, _, _ => none
 | k + 1, x0, x5, x6, x19, x20, x21 => if x21 < x20 then (if 0 ≤ x21 then (if x21 < (x19.length : Int) then (if 0 ≤ (rd x19 x21) then (if (rd x19 x21) < (x6.length : Int) then (table_sub.l0 k x0 x5 (x6.set ((rd x19 x21) : Int).toNat x21) x19 x20 (wrap64 (x21 + 1))) else (none)) else (none)) else (none)) else (none)) else (if 0 ≤ (x5.length : Int) then (if ((x5.length : Int) : Int).toNat ≤ 5864062014805 then (table_sub.l1 k x0 x6 (([] : List (S69))) x5 (x5.length : Int) 0) else (none)) else (none))
def table_sub.l1 : Nat → List (S69) → List Int → List (S69) → List Int → Int → Int → Option ((List (S69)))
 | 0, _, _, _, _, _, _ => none
 | k + 1, x0, x6, x9, x34, x35, x36 => if x36 < x35 then (if 0 ≤ x36 then (if x36 < (x34.length : Int) then (if 0 ≤ (rd x34 x36) then (if (rd x34 x36) < (x0.length : Int) then ((table_isLeaf.f ((rd_T69 x0 (rd x34 x36)).f0) ((rd_T69 x0 (rd x34 x36)).f1) ((rd_T69 x0 (rd x34 x36)).f2) ((rd_T69 x0 (rd x34 x36)).f3) ((rd_T69 x0 (rd x34 x36)).f4) ((rd_T69 x0 (rd x34 x36)).f5)).bind fun t230 => (if t230 = true then (if x9.length < 2932031007402 then (table_sub.l1 k x0 x6 (x9 ++ [(⟨(rd_T69 x0 (rd x34 x36)).f0, (rd_T69 x0 (rd x34 x36)).f1, (rd_T69 x0 (rd x34 x36)).f2, (rd_T69 x0 (rd x34 x36)).f3, (rd_T69 x0 (rd x34 x36)).f4, (rd_T69 x0 (rd x34 x36)).f5⟩ : S69)]) x34 x35 (wrap64 (x36 + 1))) else (none)) else (if 0 ≤ ((rd_T69 x0 (rd x34 x36)).f4) then (if ((rd_T69 x0 (rd x34 x36)).f4) < (x6.length : Int) then (if 0 ≤ ((rd_T69 x0 (rd x34 x36)).f5) then (if ((rd_T69 x0 (rd x34 x36)).f5) < (x6.length : Int) then (if x9.length < 2932031007402 then (table_sub.l1 k x0 x6 (x9 ++ [(⟨(rd_T69 x0 (rd x34 x36)).f0, (rd_T69 x0 (rd x34 x36)).f1, (rd_T69 x0 (rd x34 x36)).f2, (rd_T69 x0 (rd x34 x36)).f3, rd x6 ((rd_T69 x0 (rd x34 x36)).f4), rd x6 ((rd_T69 x0 (rd x34 x36)).f5)⟩ : S69)]) x34 x35 (wrap64 (x36 + 1))) else (none)) else (none)) else (none)) else (none)) else (none)))) else (none)) else (none)) else (none)) else (none)) else (some x9)
end
def table_sub.f (k : Nat) (l0 : List (S69)) (a1 : Int) : Option ((List (S69))) := (table_order.f k l0 a1).bind fun t216 => (if 0 ≤ (l0.length : Int) then (if ((l0.length : Int) : Int).toNat ≤ 35184372088832 then (table_sub.l0 k l0 t216 (List.replicate ((l0.length : Int) : Int).toNat 0) t216 (t216.length : Int) 0) else (none)) else (none))
theorem table_sub.calls (k : Nat) (A0 : Option Addr) (c0 : Nat) (l0 : List (S69)) (a1 : Int) (r : List (S69)) (w : World) (hr0 : Kd.C k69 w A0 l0.length l0) (hc0 : l0.length ≤ c0) (h : table_sub.f k l0 a1 = some r) :
  Calls Tryz.prog 69 #[.slice A0 l0.length c0, .int .i64 a1] w fun e w' => ∃ v0_ : Value, e = .returned (v0_) ∧ Kd.R k69 69 w' w.heap.size (fun _ => True) v0_ r ∧ Below w.heap.size w w' := by
 have HR0 := Am hr0
 have HC0 := Am hc0
 clear hr0 hc0
 have HB := Br w
 have H := h
 unfold table_sub.f at H
 clear h
 obtain ⟨t216, A3, H⟩ := bo H
 obtain ⟨c4, H⟩ := gd H
 have c4b0 := eq_true c4
 have c4b1 := decide_eq_true c4
 clear c4
 obtain ⟨c5, H⟩ := gd H
 have c5b0 := eq_true c5
 have c5b1 := decide_eq_true c5
 clear c5
 obtain ⟨y219, hy219⟩ : ∃ y_ : List Int, y_ = (List.replicate ((l0.length : Int) : Int).toNat 0) := ⟨_, rfl⟩
 rw [← hy219] at H
 have Ny219 := Am hy219
 clear hy219
 have H' := Am H
 clear H
 go_enter Tryz.func69, Tryz.ntmps69
 go_wp2_with (first | ((with_reducible refine Gc 83 rfl ?_); refine gL 15 Tryz.func83 #[.slice A0 l0.length c0, .int .i64 a1] ?_; (with_reducible refine (table_order.calls k _ _ l0 a1 t216 _ (kc HR0.out) HC0.out A3.out).mono ?_); rintro e w6 ⟨v217, rfl, ho0, hb⟩; refine ⟨_, rfl, ?_⟩; replace HO218 := Am (Kd.R_lower ho0 (below_size bq)); replace HB := Am (below_step bq hb); (try clear hb); (try clear hb2); (try clear hk); (try clear hi); (try clear ho0)) | ((with_reducible refine Gd 18 rfl ?_); refine Kd.R_make (Kd.int .i64) _ 3 rfl (N := 18) rfl 60 _ _ rfl (l0.length : Int) rfl rfl Tryz.underlying60 (.int .i64 0) 8 info3 rfl (by decide) (by omega) 0 (ok := fun _ => True) (okp := fun _ => True) rfl (fun _ hk => hk) trivial (da) (Nat.le_trans (Nat.mul_le_mul_right _ (da : (l0.length : Int).toNat ≤ 35184372088832)) (by omega)) (Below.refl _ _) (Nat.le_refl _) ?_; intro v220 w7 ho8 hb hg_ hnew_; clear hg_ hnew_; (first | rw [← Ny219.out] at ho8 | (simp only [Int.reduceToNat] at ho8; rw [← Ny219.out] at ho8)); have HO221 := Am (Kd.R_lower (Kd.R_new' ho8 (Kd.R_lt (kr HO218.out))) (below_size bq)); replace HO218 := Am (Kd.R_elder' (kr HO218.out) (Kd.R_base ho8) hb); replace HB := Am (below_step bq hb); clear hb ho8; obtain ⟨Ao9, co9, eo9⟩ := Kd.R_slice HO218.out; subst eo9))
 go_loopg [21] k (fun kq v21 w' => ∃ (x6_1 : List Int) (x21_1 : Int), v21 = .int .i64 x21_1 ∧ Aside0 (table_sub.l0 kq l0 t216 x6_1 t216 (t216.length : Int) x21_1 = some r) ∧ Aside0 (kq ≤ k) ∧ Aside0 (Kd.R (Kd.int .i64) 3 w' w.heap.size (fun k_ => some k_ ≠ (v220 : Value).ownBlock) (.slice Ao9 t216.length co9) t216) ∧ Aside0 (Kd.R (Kd.int .i64) 3 w' w.heap.size (fun k_ => some k_ ≠ ((.slice Ao9 t216.length co9) : Value).ownBlock ∧ some k_ ≠ ((.slice Ao9 t216.length co9) : Value).ownBlock) v220 x6_1) ∧ Aside0 (Kd.R (Kd.int .i64) 3 w' w.heap.size (fun k_ => some k_ ≠ (v220 : Value).ownBlock) (.slice Ao9 t216.length co9) t216) ∧ Aside0 (Below w.heap.size w w'))
 case atStart => exact ⟨(y219), (0), (by first | rfl | (simp; done) | (simp [*]; done)), H', ⟨Nat.le_refl _⟩, ⟨by (with_reducible repeat (first | apply Kd.R_alloc | apply Kd.R_drewN | apply Kd.R_drew)); exact Kd.R_mono HO218.out (fun _ hk => hk.2)⟩, ⟨by (with_reducible repeat (first | apply Kd.R_alloc | apply Kd.R_drewN | apply Kd.R_drew)); exact Kd.R_mono HO221.out (fun _ hk => ⟨hk.2, hk.2⟩)⟩, ⟨by (with_reducible repeat (first | apply Kd.R_alloc | apply Kd.R_drewN | apply Kd.R_drew)); exact Kd.R_mono HO218.out (fun _ hk => hk.2)⟩, ⟨bq⟩⟩
 case round =>
  clear H'
  clear c4b0 c4b1 c5b0 c5b1
  obtain ⟨x6_1, x21_1, rfl, HA, HK1, HO_5, HO_6, HO_19, HB⟩ := hrel
  cases gk with
  | zero => exact absurd HA.out (by simp [table_sub.l0])
  | succ k1 =>
   have H := HA.out
   clear HA
   simp only [table_sub.l0] at H
   by_cases c10 : x21_1 < (t216.length : Int)
   ·rw [if_pos c10] at H
    have c10b0 := decide_eq_true c10
    clear c10
    obtain ⟨c11b0, H⟩ := ge H
    obtain ⟨c12b0, H⟩ := ge H
    obtain ⟨c13b0, H⟩ := ge H
    obtain ⟨c14b0, H⟩ := ge H
    obtain ⟨y223, hy223⟩ : ∃ y_ : List Int, y_ = (x6_1.set ((rd t216 x21_1) : Int).toNat x21_1) := ⟨_, rfl⟩
    rw [← hy223] at H
    have Ny223 := Am hy223
    clear hy223
    have H' := Am H
    clear H
    have p222 : 0 ≤ (x21_1 : Int) := da
    have q222 : x21_1 < (t216.length : Int) := da
    obtain ⟨ad222, e222, hx222_0⟩ := Kd.at_int (Kd.R_reads' HO_19.out).2.2 x21_1 p222 q222
    cases e222
    replace p222 := eq_true p222
    replace q222 := eq_true q222
    have p15 : 0 ≤ ((rd t216 x21_1) : Int) := da
    have q15 : ((rd t216 x21_1) : Int) < ((x6_1.length : Int) : Int) := da
    obtain ⟨go15, co15, eo15, gb15, gl15, cl15, HG15⟩ := Kd.R_form HO_6.out (by omega)
    (first | cases eo15 | (injection eo15 with ea_ en_ ec_; (first | subst ea_ | (injection ea_ with ea_; subst ea_)); subst ec_; clear en_))
    have GB15 := Am gb15
    have GG15 := Am HG15
    clear gb15 gl15 HG15
    obtain ⟨hx15_0, hf15_0⟩ := Kd.R_celln 0 HO_6.out ((rd t216 x21_1) : Int) p15 q15
    replace p15 := eq_true p15
    replace q15 := eq_true q15
    have HP16 := Kd.R_putg HO_6.out ((rd t216 x21_1) : Int) x21_1
    go_wp2_with (first | ((with_reducible refine gate_store (t := 3) (p := 29) rfl ?_); refine store_event (t := 3) (p := 29) (v := ?vo_w17) (w1 := (wr.setCell ⟨go15, ((rd t216 x21_1) : Int).toNat, none⟩ (.int .i64 x21_1))) ?hg ?ho ?hn ?hr ?_; (case ho => rfl); (case hg => rfl); (case hn => rfl); (case hr => first | (go_simp; done) | (go_simp; rfl)); intro w17 hw; have hg : wr.grownBy w17 (some go15) := (by rw [hw]; exact HP16.2); have hp_ : Kd.R (Kd.int .i64) 3 w17 w.heap.size (fun k_ => some k_ ≠ (.slice (some ad222) t216.length co9 : Value).ownBlock ∧ some k_ ≠ (.slice (some ad222) t216.length co9 : Value).ownBlock) (.slice (some ⟨go15, 0, none⟩) x6_1.length co15) y223 := (by rw [hw, Ny223.out]; exact HP16.1); clear HP16; replace HO_5 := Am (Kd.R_after (v := (.slice (some ⟨go15, 0, none⟩) x6_1.length co15)) (v1 := (.slice (some ⟨go15, 0, none⟩) x6_1.length co15)) (ok := (fun _ => True)) (by (with_reducible repeat (first | apply Kd.R_alloc | apply Kd.R_drewN | apply Kd.R_drew)); exact Kd.R_mono HO_5.out (fun _ hk => ⟨trivial, hk⟩)) hg (.inl rfl)); replace HO_6 := Am (hp_); replace HO_19 := Am (Kd.R_after (v := (.slice (some ⟨go15, 0, none⟩) x6_1.length co15)) (v1 := (.slice (some ⟨go15, 0, none⟩) x6_1.length co15)) (ok := (fun _ => True)) (by (with_reducible repeat (first | apply Kd.R_alloc | apply Kd.R_drewN | apply Kd.R_drew)); exact Kd.R_mono HO_19.out (fun _ hk => ⟨trivial, hk⟩)) hg (.inl rfl)); replace HB := Am ((by rw [hw]; exact below_set (HB.out) GB15.out : Below w.heap.size w w17)); clear hg hw hp_))
    go_roundg k1
    case measure => have := HK1.out; omega
    case rel => exact ⟨(y223), (wrap64 (x21_1 + 1)), (by first | rfl | (simp; done) | (simp [*]; done)), H', ⟨by have := HK1.out; omega⟩, ⟨by (with_reducible repeat (first | apply Kd.R_alloc | apply Kd.R_drewN | apply Kd.R_drew)); exact Kd.R_mono HO_5.out (fun _ hk => hk.2)⟩, ⟨kr HO_6.out⟩, ⟨by (with_reducible repeat (first | apply Kd.R_alloc | apply Kd.R_drewN | apply Kd.R_drew)); exact Kd.R_mono HO_19.out (fun _ hk => hk.2)⟩, ⟨bq⟩⟩
   ·rw [if_neg c10] at H
    have c10b0 := decide_eq_false c10
    clear c10
    obtain ⟨c18, H⟩ := gd H
    have c18b0 := eq_true c18
    have c18b1 := decide_eq_true c18
    clear c18
    obtain ⟨c19, H⟩ := gd H
    have c19b0 := eq_true c19
    have c19b1 := decide_eq_true c19
    clear c19
    obtain ⟨y224, hy224⟩ : ∃ y_ : List (S69), y_ = (([] : List (S69))) := ⟨_, rfl⟩
    rw [← hy224] at H
    have Ny224 := Am hy224
    clear hy224
    have H' := Am H
    clear H
    go_wp2_with (first | ((with_reducible refine Gd 33 rfl ?_); refine Kd.R_makecap k69 _ 69 rfl (N := 33) rfl 22 _ _ rfl (t216.length : Int) rfl rfl Tryz.underlying22 (.agg #[(.int .i64 0), (.int .i64 0), (.int .i64 0), (.int .i64 0), (.int .i64 0), (.int .i64 0)]) 48 info69 rfl (by decide) (by omega) z69 (ok := fun _ => True) (okp := fun _ => True) (k69_mkM _ _ _ z69 ) (fun _ hk => hk) trivial (da) (Nat.le_trans (Nat.mul_le_mul_right _ (da : (t216.length : Int).toNat ≤ 5864062014805)) (by omega)) (Below.refl _ _) (Nat.le_refl _) ?_; intro v225 w20 ho21 hb hg_ hnew_; clear hg_ hnew_; (first | rw [← Ny224.out] at ho21 | (simp only [Int.reduceToNat] at ho21; rw [← Ny224.out] at ho21)); replace HO_5 := Am (Kd.R_below (kr HO_5.out) hb); replace HO_6 := Am (Kd.R_below (kr HO_6.out) hb); replace HO_19 := Am (Kd.R_below (kr HO_19.out) hb); replace HO226 := Am (Kd.R_lower ho21 (below_size bq)); replace HB := Am (below_step bq hb); clear hb ho21))
    go_loopg [9, 36] k1 (fun kq v9 v36 w' => ∃ (x9_2 : List (S69)) (x36_2 : Int), v36 = .int .i64 x36_2 ∧ Aside0 (table_sub.l1 kq l0 x6_1 x9_2 t216 (t216.length : Int) x36_2 = some r) ∧ Aside0 (kq ≤ k1) ∧ Aside0 (Kd.R (Kd.int .i64) 3 w' w.heap.size (fun k_ => some k_ ≠ ((.slice Ao9 t216.length co9) : Value).ownBlock) v220 x6_1) ∧ Aside0 (Kd.R k69 69 w' w.heap.size (fun _ => True) v9 x9_2) ∧ Aside0 (Kd.R (Kd.int .i64) 3 w' w.heap.size (fun k_ => some k_ ≠ (v220 : Value).ownBlock) (.slice Ao9 t216.length co9) t216) ∧ Aside0 (Below w.heap.size w w'))
    case atStart => exact ⟨(y224), (0), (by first | rfl | (simp; done) | (simp [*]; done)), H', ⟨Nat.le_refl _⟩, ⟨by (with_reducible repeat (first | apply Kd.R_alloc | apply Kd.R_drewN | apply Kd.R_drew)); exact Kd.R_mono HO_6.out (fun _ hk => hk.1)⟩, ⟨kr HO226.out⟩, ⟨kr HO_5.out⟩, ⟨bq⟩⟩
    case round =>
     clear H'
     clear c10b0 c18b0 c18b1 c19b0 c19b1
     obtain ⟨x9_2, x36_2, rfl, HA, HK2, HO_6, HO_9, HO_34, HB⟩ := hrel
     cases gk with
     | zero => exact absurd HA.out (by simp [table_sub.l1])
     | succ k2 =>
      have H := HA.out
      clear HA
      simp only [table_sub.l1] at H
      by_cases c22 : x36_2 < (t216.length : Int)
      ·rw [if_pos c22] at H
       have c22b0 := decide_eq_true c22
       clear c22
       obtain ⟨c23b0, H⟩ := ge H
       obtain ⟨c24b0, H⟩ := ge H
       obtain ⟨c25b0, H⟩ := ge H
       obtain ⟨c26b0, H⟩ := ge H
       obtain ⟨t230, A27, H⟩ := bo H
       by_cases c28 : t230 = true
       ·subst c28
        rw [if_pos rfl] at H
        obtain ⟨c29, H⟩ := gd H
        have LMc29 := Am c29
        clear c29
        obtain ⟨y231, hy231⟩ : ∃ y_ : List (S69), y_ = (x9_2 ++ [(⟨(rd_T69 l0 (rd t216 x36_2)).f0, (rd_T69 l0 (rd t216 x36_2)).f1, (rd_T69 l0 (rd t216 x36_2)).f2, (rd_T69 l0 (rd t216 x36_2)).f3, (rd_T69 l0 (rd t216 x36_2)).f4, (rd_T69 l0 (rd t216 x36_2)).f5⟩ : S69)]) := ⟨_, rfl⟩
        rw [← hy231] at H
        have Ny231 := Am hy231
        clear hy231
        have H' := Am H
        clear H
        have p227 : 0 ≤ (x36_2 : Int) := da
        have q227 : x36_2 < (t216.length : Int) := da
        obtain ⟨ad227, e227, hx227_0⟩ := Kd.at_int (Kd.R_reads' HO_34.out).2.2 x36_2 p227 q227
        cases e227
        replace p227 := eq_true p227
        replace q227 := eq_true q227
        obtain ⟨ad228, e228, hx228_0, hx228_1, hx228_2, hx228_3, hx228_4, hx228_5, p228, q228⟩ := t6d HB.out HR0.out (rd t216 x36_2)
        cases e228
        go_wp2_with (first | ((with_reducible refine Gd 12 rfl ?_); refine bE 12 (cs := #[.int .i64 0, .int .i64 0, .int .i64 0, .int .i64 0, .int .i64 0, .int .i64 0]) (t := 69) ?_; intro gb229 hg w30 hbox hb; replace HO_6 := Am (Kd.R_below (kr HO_6.out) hb); replace HO_9 := Am (Kd.R_below (Kd.R_elderB (kr HO_9.out) gb229 (Nat.le_of_eq hg.symm)) hb); replace HO_34 := Am (Kd.R_below (kr HO_34.out) hb); have BK229 := Am (hbox); have GW229 := Am ((bz hg : w.heap.size ≤ gb229)); have GE229 := Am ((bz hg : w.heap.size ≤ gb229)); replace HB := Am (below_step bq hb); clear hb hbox hg; obtain ⟨z31_0, z31_1, z31_2, z31_3, z31_4, z31_5, f31_0, f31_1, f31_2, f31_3, f31_4, f31_5⟩ := cf6 BK229.out) | ((with_reducible refine Gc 84 rfl ?_); refine gL 45 Tryz.func84 #[.agg (cN (rd_T69 l0 (rd t216 x36_2)))] ?_; (with_reducible refine (table_isLeaf.calls _ _ _ _ _ _ true _ A27.out).mono ?_); rintro e w32 ⟨rfl, hb⟩; refine ⟨_, rfl, ?_⟩; replace HO_6 := Am (Kd.R_below (by (with_reducible repeat (first | apply Kd.R_alloc | apply Kd.R_drewN | apply Kd.R_drew)); exact (Kd.R_mono (far6 (Kd.R_types HO_6.out BK229.out (by decide))) (fun _ h_ => h_.1))) hb); replace HO_9 := Am (Kd.R_below (by (with_reducible repeat (first | apply Kd.R_alloc | apply Kd.R_drewN | apply Kd.R_drew)); exact (Kd.R_mono (far6 (Kd.R_mono HO_9.out (fun k_ hk => (⟨hk, hk.2⟩ : _ ∧ k_ ≠ gb229)))) (fun _ h_ => h_.1))) hb); replace HO_34 := Am (Kd.R_below (by (with_reducible repeat (first | apply Kd.R_alloc | apply Kd.R_drewN | apply Kd.R_drew)); exact (Kd.R_mono (far6 (Kd.R_types HO_34.out BK229.out (by decide))) (fun _ h_ => h_.1))) hb); replace BK229 := Am (blk_below (g := gb229) (o := .cells (cN (rd_T69 l0 (rd t216 x36_2))) 69 (0, 0)) (bp6 BK229.out) hb); replace HB := Am (below_step bs hb); (try clear hb); (try clear hk); obtain ⟨z33_0, z33_1, z33_2, z33_3, z33_4, z33_5, f33_0, f33_1, f33_2, f33_3, f33_4, f33_5⟩ := cf6 BK229.out) | ((with_reducible refine gate_builtin (b := .append) (xs := #[.tmp 59, .tmp 61]) rfl ?_); at_builtin; refine Kd.R_append k69 (w0 := w) w.heap.size rfl (.tmp 59) (.tmp 61) 22 69 (.agg #[(.int .i64 0), (.int .i64 0), (.int .i64 0), (.int .i64 0), (.int .i64 0), (.int .i64 0)]) 48 rfl Tryz.underlying22 info69 rfl (by decide) (by omega) u9 x9_2 (⟨(rd_T69 l0 (rd t216 x36_2)).f0, (rd_T69 l0 (rd t216 x36_2)).f1, (rd_T69 l0 (rd t216 x36_2)).f2, (rd_T69 l0 (rd t216 x36_2)).f3, (rd_T69 l0 (rd t216 x36_2)).f4, (rd_T69 l0 (rd t216 x36_2)).f5⟩ : S69) [.int .i64 ((rd_T69 l0 (rd t216 x36_2)).f0), .int .i64 ((rd_T69 l0 (rd t216 x36_2)).f1), .int .i64 ((rd_T69 l0 (rd t216 x36_2)).f2), .int .i64 ((rd_T69 l0 (rd t216 x36_2)).f3), .int .i64 ((rd_T69 l0 (rd t216 x36_2)).f4), .int .i64 ((rd_T69 l0 (rd t216 x36_2)).f5)] (fun k_ => k_ ≠ gb229) (fun _ => False) rfl rfl ?aP (fun _ hk => hk.elim) ?aF ?aO ?aB ?aS ?aL ?_; (case aP => exact k69_mkM _ _ _ (⟨(rd_T69 l0 (rd t216 x36_2)).f0, (rd_T69 l0 (rd t216 x36_2)).f1, (rd_T69 l0 (rd t216 x36_2)).f2, (rd_T69 l0 (rd t216 x36_2)).f3, (rd_T69 l0 (rd t216 x36_2)).f4, (rd_T69 l0 (rd t216 x36_2)).f5⟩ : S69)); (case aB => exact bs); (case aF => exact (fun k_ hk => Kd.freshB (g := gb229) (o := .cells (cN (rd_T69 l0 (rd t216 x36_2))) 69 (0, 0)) (bk BK229.out) k_ hk)); (case aO => exact (by (with_reducible repeat (first | apply Kd.R_alloc | apply Kd.R_drewN | apply Kd.R_drew)); exact Kd.R_mono HO_9.out (fun _ hk => hk.2))); (case aS => exact (below_size bs)); (case aL => have := LMc29.out; omega); intro v232 w34 ho hb hg hat; rw [← Ny231.out] at ho; replace HO_6 := Am (Kd.R_over' (kr HO_6.out) (Kd.R_typed (kr HO_9.out)) (by decide) hg); replace HO_34 := Am (Kd.R_over' (kr HO_34.out) (Kd.R_typed (kr HO_9.out)) (by decide) hg); replace BK229 := Am (blk_grown (g := gb229) (o := .cells (cN (rd_T69 l0 (rd t216 x36_2))) 69 (0, 0)) (bk BK229.out) hg (Kd.R_away HO_9.out (fun _ hk => hk.2))); replace HB := Am (hb); have HO233 := Am (ho); clear HO_9; clear ho hb hg hat))
        go_roundg k2
        case measure => have := HK1.out; have := HK2.out; omega
        case rel => exact ⟨(y231), (wrap64 (x36_2 + 1)), (by first | rfl | (simp; done) | (simp [*]; done)), H', ⟨by have := HK1.out; have := HK2.out; omega⟩, ⟨kr HO_6.out⟩, ⟨by (with_reducible repeat (first | apply Kd.R_alloc | apply Kd.R_drewN | apply Kd.R_drew)); exact Kd.R_mono HO233.out (fun _ hk => trivial)⟩, ⟨kr HO_34.out⟩, ⟨bs⟩⟩
       ·replace c28 := Bool.eq_false_iff.mpr c28
        subst c28
        rw [if_neg nf] at H
        obtain ⟨c35b0, H⟩ := ge H
        obtain ⟨c36b0, H⟩ := ge H
        obtain ⟨c37b0, H⟩ := ge H
        obtain ⟨c38b0, H⟩ := ge H
        obtain ⟨c39, H⟩ := gd H
        have LMc39 := Am c39
        clear c39
        obtain ⟨y236, hy236⟩ : ∃ y_ : List (S69), y_ = (x9_2 ++ [(⟨(rd_T69 l0 (rd t216 x36_2)).f0, (rd_T69 l0 (rd t216 x36_2)).f1, (rd_T69 l0 (rd t216 x36_2)).f2, (rd_T69 l0 (rd t216 x36_2)).f3, rd x6_1 ((rd_T69 l0 (rd t216 x36_2)).f4), rd x6_1 ((rd_T69 l0 (rd t216 x36_2)).f5)⟩ : S69)]) := ⟨_, rfl⟩
        rw [← hy236] at H
        have Ny236 := Am hy236
        clear hy236
        have H' := Am H
        clear H
        have p227 : 0 ≤ (x36_2 : Int) := da
        have q227 : x36_2 < (t216.length : Int) := da
        obtain ⟨ad227, e227, hx227_0⟩ := Kd.at_int (Kd.R_reads' HO_34.out).2.2 x36_2 p227 q227
        cases e227
        replace p227 := eq_true p227
        replace q227 := eq_true q227
        obtain ⟨ad228, e228, hx228_0, hx228_1, hx228_2, hx228_3, hx228_4, hx228_5, p228, q228⟩ := t6d HB.out HR0.out (rd t216 x36_2)
        cases e228
        go_wp2_with (first | ((with_reducible refine Gd 12 rfl ?_); refine bE 12 (cs := #[.int .i64 0, .int .i64 0, .int .i64 0, .int .i64 0, .int .i64 0, .int .i64 0]) (t := 69) ?_; intro gb229 hg w40 hbox hb; replace HO_6 := Am (Kd.R_below (kr HO_6.out) hb); replace HO_9 := Am (Kd.R_below (Kd.R_elderB (kr HO_9.out) gb229 (Nat.le_of_eq hg.symm)) hb); replace HO_34 := Am (Kd.R_below (kr HO_34.out) hb); have BK229 := Am (hbox); have GW229 := Am ((bz hg : w.heap.size ≤ gb229)); have GE229 := Am ((bz hg : w.heap.size ≤ gb229)); replace HB := Am (below_step bq hb); clear hb hbox hg; obtain ⟨z41_0, z41_1, z41_2, z41_3, z41_4, z41_5, f41_0, f41_1, f41_2, f41_3, f41_4, f41_5⟩ := cf6 BK229.out) | ((with_reducible refine Gc 84 rfl ?_); refine gL 45 Tryz.func84 #[.agg (cN (rd_T69 l0 (rd t216 x36_2)))] ?_; (with_reducible refine (table_isLeaf.calls _ _ _ _ _ _ false _ A27.out).mono ?_); rintro e w42 ⟨rfl, hb⟩; refine ⟨_, rfl, ?_⟩; replace HO_6 := Am (Kd.R_below (by (with_reducible repeat (first | apply Kd.R_alloc | apply Kd.R_drewN | apply Kd.R_drew)); exact (Kd.R_mono (far6 (Kd.R_types HO_6.out BK229.out (by decide))) (fun _ h_ => h_.1))) hb); replace HO_9 := Am (Kd.R_below (by (with_reducible repeat (first | apply Kd.R_alloc | apply Kd.R_drewN | apply Kd.R_drew)); exact (Kd.R_mono (far6 (Kd.R_mono HO_9.out (fun k_ hk => (⟨hk, hk.2⟩ : _ ∧ k_ ≠ gb229)))) (fun _ h_ => h_.1))) hb); replace HO_34 := Am (Kd.R_below (by (with_reducible repeat (first | apply Kd.R_alloc | apply Kd.R_drewN | apply Kd.R_drew)); exact (Kd.R_mono (far6 (Kd.R_types HO_34.out BK229.out (by decide))) (fun _ h_ => h_.1))) hb); replace BK229 := Am (blk_below (g := gb229) (o := .cells (cN (rd_T69 l0 (rd t216 x36_2))) 69 (0, 0)) (bp6 BK229.out) hb); replace HB := Am (below_step bs hb); (try clear hb); (try clear hk); obtain ⟨z43_0, z43_1, z43_2, z43_3, z43_4, z43_5, f43_0, f43_1, f43_2, f43_3, f43_4, f43_5⟩ := cf6 BK229.out; obtain ⟨Ao44, co44, eo44⟩ := Kd.R_slice HO_6.out; subst eo44; have p234 : 0 ≤ (((rd_T69 l0 (rd t216 x36_2)).f4) : Int) := da; have q234 : ((rd_T69 l0 (rd t216 x36_2)).f4) < (x6_1.length : Int) := da; obtain ⟨ad234, e234, hx234_0⟩ := Kd.at_int (Kd.R_reads' HO_6.out).2.2 ((rd_T69 l0 (rd t216 x36_2)).f4) p234 q234; cases e234; replace p234 := eq_true p234; replace q234 := eq_true q234; have p235 : 0 ≤ (((rd_T69 l0 (rd t216 x36_2)).f5) : Int) := da; have q235 : ((rd_T69 l0 (rd t216 x36_2)).f5) < (x6_1.length : Int) := da; obtain ⟨ad235, e235, hx235_0⟩ := Kd.at_int (Kd.R_reads' HO_6.out).2.2 ((rd_T69 l0 (rd t216 x36_2)).f5) p235 q235; obtain rfl : ad234 = ad235 := (by injection e235); replace p235 := eq_true p235; replace q235 := eq_true q235))
        have hneB : ad234.block ≠ gb229 := ((Kd.R_types HO_6.out BK229.out (by decide)).1 _ rfl).2
        have hne5 : (⟨gb229, 4, none⟩ : Addr) ≠ ad234.add (((rd_T69 l0 (rd t216 x36_2)).f5) : Int).toNat := fun e_ => hneB (by rw [← add_block ad234 (((rd_T69 l0 (rd t216 x36_2)).f5) : Int).toNat, ← e_])
        go_region
        rw [show ((w42.setCell ⟨gb229, 4, none⟩ (.int .i64 (rd x6_1 ((rd_T69 l0 (rd t216 x36_2)).f4)))).setCell ⟨gb229, 5, none⟩ (.int .i64 (rd x6_1 ((rd_T69 l0 (rd t216 x36_2)).f5)))).drew = ((w42.drew.setCell ⟨gb229, 4, none⟩ (.int .i64 (rd x6_1 ((rd_T69 l0 (rd t216 x36_2)).f4)))).setCell ⟨gb229, 5, none⟩ (.int .i64 (rd x6_1 ((rd_T69 l0 (rd t216 x36_2)).f5)))) from rfl]
        have n0_ := Am (Kd.R_drew HO_6.out)
        have n1_ := Am (Kd.R_drew HO_9.out)
        have n2_ := Am (Kd.R_drew HO_34.out)
        have n3_ := Am (blk_drew BK229.out)
        have n4_ := Am (bd HB.out)
        clear HO_6 HO_9 HO_34 BK229 HB z43_0 f43_0 z43_1 f43_1 z43_2 f43_2 z43_3 f43_3 z43_4 f43_4 z43_5 f43_5 hx234_0 hx235_0 hneB hne5
        generalize w42.drew = w42d at n0_ n1_ n2_ n3_ n4_ ⊢
        have HO_6 := n0_
        have HO_9 := n1_
        have HO_34 := n2_
        have BK229 := n3_
        have HB := n4_
        clear n0_ n1_ n2_ n3_ n4_
        obtain ⟨z43_0, z43_1, z43_2, z43_3, z43_4, z43_5⟩ := cz6 BK229.out
        go_wp2_with (first | ((with_reducible refine gate_builtin (b := .append) (xs := #[.tmp 59, .tmp 61]) rfl ?_); at_builtin; refine Kd.R_append k69 (w0 := w) w.heap.size rfl (.tmp 59) (.tmp 61) 22 69 (.agg #[(.int .i64 0), (.int .i64 0), (.int .i64 0), (.int .i64 0), (.int .i64 0), (.int .i64 0)]) 48 rfl Tryz.underlying22 info69 rfl (by decide) (by omega) u9 x9_2 (⟨(rd_T69 l0 (rd t216 x36_2)).f0, (rd_T69 l0 (rd t216 x36_2)).f1, (rd_T69 l0 (rd t216 x36_2)).f2, (rd_T69 l0 (rd t216 x36_2)).f3, rd x6_1 ((rd_T69 l0 (rd t216 x36_2)).f4), rd x6_1 ((rd_T69 l0 (rd t216 x36_2)).f5)⟩ : S69) [.int .i64 ((rd_T69 l0 (rd t216 x36_2)).f0), .int .i64 ((rd_T69 l0 (rd t216 x36_2)).f1), .int .i64 ((rd_T69 l0 (rd t216 x36_2)).f2), .int .i64 ((rd_T69 l0 (rd t216 x36_2)).f3), .int .i64 (rd x6_1 ((rd_T69 l0 (rd t216 x36_2)).f4)), .int .i64 (rd x6_1 ((rd_T69 l0 (rd t216 x36_2)).f5))] (fun k_ => k_ ≠ gb229) (fun _ => False) rfl (by first | (go_simp; done) | (go_simp; rfl)) ?aP (fun _ hk => hk.elim) ?aF ?aO ?aB ?aS ?aL ?_; (case aP => exact k69_mkM _ _ _ (⟨(rd_T69 l0 (rd t216 x36_2)).f0, (rd_T69 l0 (rd t216 x36_2)).f1, (rd_T69 l0 (rd t216 x36_2)).f2, (rd_T69 l0 (rd t216 x36_2)).f3, rd x6_1 ((rd_T69 l0 (rd t216 x36_2)).f4), rd x6_1 ((rd_T69 l0 (rd t216 x36_2)).f5)⟩ : S69)); (case aB => exact bs); (case aF => exact (fun k_ hk => Kd.freshB (g := gb229) (o := .cells #[.int .i64 ((rd_T69 l0 (rd t216 x36_2)).f0), .int .i64 ((rd_T69 l0 (rd t216 x36_2)).f1), .int .i64 ((rd_T69 l0 (rd t216 x36_2)).f2), .int .i64 ((rd_T69 l0 (rd t216 x36_2)).f3), .int .i64 (rd x6_1 ((rd_T69 l0 (rd t216 x36_2)).f4)), .int .i64 (rd x6_1 ((rd_T69 l0 (rd t216 x36_2)).f5))] 69 (0, 0)) (by (with_reducible repeat (first | refine blk_drewN ?_ _ | refine blk_drew ?_ | refine blk_alloc ?_ _)); refine blk_put (cs := #[.int .i64 ((rd_T69 l0 (rd t216 x36_2)).f0), .int .i64 ((rd_T69 l0 (rd t216 x36_2)).f1), .int .i64 ((rd_T69 l0 (rd t216 x36_2)).f2), .int .i64 ((rd_T69 l0 (rd t216 x36_2)).f3), .int .i64 (rd x6_1 ((rd_T69 l0 (rd t216 x36_2)).f4)), .int .i64 ((rd_T69 l0 (rd t216 x36_2)).f5)]) ?_ 5 _ rfl; (with_reducible repeat (first | refine blk_drewN ?_ _ | refine blk_drew ?_ | refine blk_alloc ?_ _)); refine blk_put (cs := (cN (rd_T69 l0 (rd t216 x36_2)))) ?_ 4 _ rfl; (with_reducible repeat (first | refine blk_drewN ?_ _ | refine blk_drew ?_ | refine blk_alloc ?_ _)); exact BK229.out) k_ hk)); (case aO => exact (by (with_reducible repeat (first | apply Kd.R_alloc | apply Kd.R_drewN | apply Kd.R_drew)); exact Kd.R_mono (Kd.R_far (p := ⟨gb229, 5, none⟩) (Kd.R_far (p := ⟨gb229, 4, none⟩) (Kd.R_mono HO_9.out (fun k_ hk => (⟨hk, hk.2⟩ : _ ∧ k_ ≠ gb229))) (fun _ hk => hk.2) (.int .i64 (rd x6_1 ((rd_T69 l0 (rd t216 x36_2)).f4)))) (fun _ hk => hk.2) (.int .i64 (rd x6_1 ((rd_T69 l0 (rd t216 x36_2)).f5)))) (fun _ hk => hk.1.2))); (case aS => exact (below_size bs)); (case aL => have := LMc39.out; omega); intro v237 w45 ho hb hg hat; rw [← Ny236.out] at ho; replace HO_6 := Am (Kd.R_over' (by (with_reducible repeat (first | apply Kd.R_alloc | apply Kd.R_drewN | apply Kd.R_drew)); exact (Kd.R_mono (Kd.R_far (p := ⟨gb229, 5, none⟩) (Kd.R_far (p := ⟨gb229, 4, none⟩) (Kd.R_types HO_6.out BK229.out (by decide)) (fun _ hk => hk.2) (.int .i64 (rd x6_1 ((rd_T69 l0 (rd t216 x36_2)).f4)))) (fun _ hk => hk.2) (.int .i64 (rd x6_1 ((rd_T69 l0 (rd t216 x36_2)).f5)))) (fun _ h_ => h_.1))) (Kd.R_typed (by (with_reducible repeat (first | apply Kd.R_alloc | apply Kd.R_drewN | apply Kd.R_drew)); exact (Kd.R_mono (Kd.R_far (p := ⟨gb229, 5, none⟩) (Kd.R_far (p := ⟨gb229, 4, none⟩) (Kd.R_mono HO_9.out (fun k_ hk => (⟨hk, hk.2⟩ : _ ∧ k_ ≠ gb229))) (fun _ hk => hk.2) (.int .i64 (rd x6_1 ((rd_T69 l0 (rd t216 x36_2)).f4)))) (fun _ hk => hk.2) (.int .i64 (rd x6_1 ((rd_T69 l0 (rd t216 x36_2)).f5)))) (fun _ h_ => h_.1)))) (by decide) hg); replace HO_34 := Am (Kd.R_over' (by (with_reducible repeat (first | apply Kd.R_alloc | apply Kd.R_drewN | apply Kd.R_drew)); exact (Kd.R_mono (Kd.R_far (p := ⟨gb229, 5, none⟩) (Kd.R_far (p := ⟨gb229, 4, none⟩) (Kd.R_types HO_34.out BK229.out (by decide)) (fun _ hk => hk.2) (.int .i64 (rd x6_1 ((rd_T69 l0 (rd t216 x36_2)).f4)))) (fun _ hk => hk.2) (.int .i64 (rd x6_1 ((rd_T69 l0 (rd t216 x36_2)).f5)))) (fun _ h_ => h_.1))) (Kd.R_typed (by (with_reducible repeat (first | apply Kd.R_alloc | apply Kd.R_drewN | apply Kd.R_drew)); exact (Kd.R_mono (Kd.R_far (p := ⟨gb229, 5, none⟩) (Kd.R_far (p := ⟨gb229, 4, none⟩) (Kd.R_mono HO_9.out (fun k_ hk => (⟨hk, hk.2⟩ : _ ∧ k_ ≠ gb229))) (fun _ hk => hk.2) (.int .i64 (rd x6_1 ((rd_T69 l0 (rd t216 x36_2)).f4)))) (fun _ hk => hk.2) (.int .i64 (rd x6_1 ((rd_T69 l0 (rd t216 x36_2)).f5)))) (fun _ h_ => h_.1)))) (by decide) hg); replace BK229 := Am (blk_grown (g := gb229) (o := .cells #[.int .i64 ((rd_T69 l0 (rd t216 x36_2)).f0), .int .i64 ((rd_T69 l0 (rd t216 x36_2)).f1), .int .i64 ((rd_T69 l0 (rd t216 x36_2)).f2), .int .i64 ((rd_T69 l0 (rd t216 x36_2)).f3), .int .i64 (rd x6_1 ((rd_T69 l0 (rd t216 x36_2)).f4)), .int .i64 (rd x6_1 ((rd_T69 l0 (rd t216 x36_2)).f5))] 69 (0, 0)) (by (with_reducible repeat (first | refine blk_drewN ?_ _ | refine blk_drew ?_ | refine blk_alloc ?_ _)); refine blk_put (cs := #[.int .i64 ((rd_T69 l0 (rd t216 x36_2)).f0), .int .i64 ((rd_T69 l0 (rd t216 x36_2)).f1), .int .i64 ((rd_T69 l0 (rd t216 x36_2)).f2), .int .i64 ((rd_T69 l0 (rd t216 x36_2)).f3), .int .i64 (rd x6_1 ((rd_T69 l0 (rd t216 x36_2)).f4)), .int .i64 ((rd_T69 l0 (rd t216 x36_2)).f5)]) ?_ 5 _ rfl; (with_reducible repeat (first | refine blk_drewN ?_ _ | refine blk_drew ?_ | refine blk_alloc ?_ _)); refine blk_put (cs := (cN (rd_T69 l0 (rd t216 x36_2)))) ?_ 4 _ rfl; (with_reducible repeat (first | refine blk_drewN ?_ _ | refine blk_drew ?_ | refine blk_alloc ?_ _)); exact BK229.out) hg (Kd.R_away HO_9.out (fun _ hk => hk.2))); replace HB := Am (hb); have HO238 := Am (ho); clear HO_9; clear ho hb hg hat))
        go_roundg k2
        case measure => have := HK1.out; have := HK2.out; omega
        case rel => exact ⟨(y236), (wrap64 (x36_2 + 1)), (by first | rfl | (simp; done) | (simp [*]; done)), H', ⟨by have := HK1.out; have := HK2.out; omega⟩, ⟨kr HO_6.out⟩, ⟨by (with_reducible repeat (first | apply Kd.R_alloc | apply Kd.R_drewN | apply Kd.R_drew)); exact Kd.R_mono HO238.out (fun _ hk => trivial)⟩, ⟨kr HO_34.out⟩, ⟨bs⟩⟩
      ·rw [if_neg c22] at H
       have c22b0 := decide_eq_false c22
       clear c22
       obtain rfl := Option.some.inj H
       go_wp2
       go_ret
       exact ⟨_, er, kr HO_9.out, bq⟩
def table_Norm.f (k : Nat) (l0 : List (S69)) : Option ((List (S69)) × Int) := (table_Check.f k l0).bind fun t239 => (if t239 = 0 then ((table_sub.f k l0 0).bind fun t240 => (some (t240, 0))) else (some (([] : List (S69)), t239)))
theorem table_Norm.calls (k : Nat) (A0 : Option Addr) (c0 : Nat) (l0 : List (S69)) (r1 : List (S69)) (r2 : Int) (w : World) (hr0 : Kd.C k69 w A0 l0.length l0) (hc0 : l0.length ≤ c0) (h : table_Norm.f k l0 = some (r1, r2)) :
  Calls Tryz.prog 32 #[.slice A0 l0.length c0] w fun e w' => ∃ v0_ : Value, e = .returned (.tuple #[v0_, .int .i64 r2]) ∧ Kd.R k69 69 w' w.heap.size (fun _ => True) v0_ r1 ∧ Below w.heap.size w w' := by
 have HR0 := Am hr0
 have HC0 := Am hc0
 clear hr0 hc0
 have HB := Br w
 have H := h
 unfold table_Norm.f at H
 clear h
 obtain ⟨t239, A2, H⟩ := bo H
 by_cases c3 : t239 = 0
 ·rw [if_pos c3] at H
  obtain ⟨c3b0, c3b1⟩ := eq2 c3
  clear c3
  obtain ⟨t240, A4, H⟩ := bo H
  simp only [Option.some.injEq, Prod.mk.injEq] at H
  obtain ⟨rfl, rfl⟩ := H
  go_enter Tryz.func32, Tryz.ntmps32
  go_wp2_with (first | ((with_reducible refine Gc 55 rfl ?_); refine gL 6 Tryz.func55 #[.slice A0 l0.length c0] ?_; (with_reducible refine (table_Check.calls k _ _ l0 t239 _ (kc HR0.out) HC0.out A2.out).mono ?_); rintro e w5 ⟨rfl, hb⟩; refine ⟨_, rfl, ?_⟩; replace HB := Am (below_step bq hb); (try clear hb)) | ((with_reducible refine Gc 69 rfl ?_); refine gL 11 Tryz.func69 #[.slice A0 l0.length c0, .int .i64 0] ?_; (with_reducible refine (table_sub.calls k _ _ l0 0 t240 _ (kc (Kd.C_below HR0.out HB.out)) HC0.out A4.out).mono ?_); rintro e w6 ⟨v241, rfl, ho0, hb⟩; refine ⟨_, rfl, ?_⟩; replace HO242 := Am (Kd.R_lower ho0 (below_size bq)); replace HB := Am (below_step bq hb); (try clear hb); (try clear hb2); (try clear hk); (try clear hi); (try clear ho0)))
  go_ret2
  exact ⟨_, er, kr HO242.out, bq⟩
 ·rw [if_neg c3] at H
  obtain ⟨c3b0, c3b1⟩ := ne2 c3
  simp only [Option.some.injEq, Prod.mk.injEq] at H
  obtain ⟨rfl, rfl⟩ := H
  go_enter Tryz.func32, Tryz.ntmps32
  go_wp2_with (first | ((with_reducible refine Gc 55 rfl ?_); refine gL 6 Tryz.func55 #[.slice A0 l0.length c0] ?_; (with_reducible refine (table_Check.calls k _ _ l0 t239 _ (kc HR0.out) HC0.out A2.out).mono ?_); rintro e w7 ⟨rfl, hb⟩; refine ⟨_, rfl, ?_⟩; replace HB := Am (below_step bq hb); (try clear hb)))
  go_ret2
  exact dd22
def model_Kind.f (a0 : Int) : Option (Int) := if a0 < 1 then (some 5) else (if a0 > 9 then (some 5) else (some 0))
theorem model_Kind.calls (a0 : Int) (r : Int) (w : World) (h : model_Kind.f a0 = some r) :
  Calls Tryz.prog 99 #[.int .i64 a0] w fun e w' => e = .returned (.int .i64 r) ∧ Drawn0 w w' := by
 have H : (if a0 < 1 then (some 5) else (if a0 > 9 then (some 5) else (some 0))) = some r := h
 clear h
 by_cases c2 : a0 < 1
 ·rw [if_pos c2] at H
  have c2b0 := decide_eq_true c2
  clear c2
  exact dd106
 ·rw [if_neg c2] at H
  have c2b0 := decide_eq_false c2
  clear c2
  by_cases c3 : a0 > 9
  ·rw [if_pos c3] at H
   have c3b0 : decide (9 < a0) = true := decide_eq_true c3
   clear c3
   exact dd106
  ·rw [if_neg c3] at H
   have c3b0 : decide (9 < a0) = false := decide_eq_false c3
   clear c3
   exact dd106
def table_Leaves.l0 : Nat → List (S69) → List Int → List Int → Int → Int → Option (List Int × Int)
 | 0, _, _, _, _, _ => none
 | k + 1, x0, x5, x14, x15, x16 => if x16 < x15 then (if 0 ≤ x16 then (if x16 < (x14.length : Int) then (if 0 ≤ (rd x14 x16) then (if (rd x14 x16) < (x0.length : Int) then ((table_isLeaf.f ((rd_T69 x0 (rd x14 x16)).f0) ((rd_T69 x0 (rd x14 x16)).f1) ((rd_T69 x0 (rd x14 x16)).f2) ((rd_T69 x0 (rd x14 x16)).f3) ((rd_T69 x0 (rd x14 x16)).f4) ((rd_T69 x0 (rd x14 x16)).f5)).bind fun t249 => (if t249 = true then (if x5.length < 17592186044416 then (table_Leaves.l0 k x0 (x5 ++ [rd x14 x16]) x14 x15 (wrap64 (x16 + 1))) else (none)) else (table_Leaves.l0 k x0 x5 x14 x15 (wrap64 (x16 + 1))))) else (none)) else (none)) else (none)) else (none)) else (some (x5, 0))
def table_Leaves.f (k : Nat) (l0 : List (S69)) : Option (List Int × Int) := (table_Check.f k l0).bind fun t243 => (if t243 = 0 then ((table_order.f k l0 0).bind fun t244 => (table_Leaves.l0 k l0 ([] : List Int) t244 (t244.length : Int) 0)) else (some (([] : List Int), t243)))
theorem table_Leaves.calls (k : Nat) (A0 : Option Addr) (c0 : Nat) (l0 : List (S69)) (r1 : List Int) (r2 : Int) (w : World) (hr0 : Kd.C k69 w A0 l0.length l0) (hc0 : l0.length ≤ c0) (h : table_Leaves.f k l0 = some (r1, r2)) :
  Calls Tryz.prog 77 #[.slice A0 l0.length c0] w fun e w' => ∃ v0_ : Value, e = .returned (.tuple #[v0_, .int .i64 r2]) ∧ Kd.R (Kd.int .i64) 3 w' w.heap.size (fun _ => True) v0_ r1 ∧ Below w.heap.size w w' := by
 have HR0 := Am hr0
 have HC0 := Am hc0
 clear hr0 hc0
 have HB := Br w
 have H := h
 unfold table_Leaves.f at H
 clear h
 obtain ⟨t243, A2, H⟩ := bo H
 by_cases c3 : t243 = 0
 ·rw [if_pos c3] at H
  obtain ⟨c3b0, c3b1⟩ := eq2 c3
  clear c3
  obtain ⟨t244, A4, H⟩ := bo H
  have H' := Am H
  clear H
  go_enter Tryz.func77, Tryz.ntmps77
  go_wp2_with (first | ((with_reducible refine Gc 55 rfl ?_); refine gL 9 Tryz.func55 #[.slice A0 l0.length c0] ?_; (with_reducible refine (table_Check.calls k _ _ l0 t243 _ (kc HR0.out) HC0.out A2.out).mono ?_); rintro e w5 ⟨rfl, hb⟩; refine ⟨_, rfl, ?_⟩; replace HB := Am (below_step bq hb); (try clear hb)) | ((with_reducible refine Gc 83 rfl ?_); refine gL 14 Tryz.func83 #[.slice A0 l0.length c0, .int .i64 0] ?_; (with_reducible refine (table_order.calls k _ _ l0 0 t244 _ (kc (Kd.C_below HR0.out HB.out)) HC0.out A4.out).mono ?_); rintro e w6 ⟨v245, rfl, ho0, hb⟩; refine ⟨_, rfl, ?_⟩; replace HO246 := Am (Kd.R_lower ho0 (below_size bq)); replace HB := Am (below_step bq hb); (try clear hb); (try clear hb2); (try clear hk); (try clear hi); (try clear ho0); obtain ⟨Ao7, co7, eo7⟩ := Kd.R_slice HO246.out; subst eo7))
  go_loopg [5, 16] k (fun kq v5 v16 w' => ∃ (x5_1 : List Int) (x16_1 : Int), v16 = .int .i64 x16_1 ∧ Aside0 (table_Leaves.l0 kq l0 x5_1 t244 (t244.length : Int) x16_1 = some (r1, r2)) ∧ Aside0 (kq ≤ k) ∧ Aside0 (Kd.R (Kd.int .i64) 3 w' w.heap.size (fun k_ => some k_ ≠ ((.slice Ao7 t244.length co7) : Value).ownBlock) v5 x5_1) ∧ Aside0 (Kd.R (Kd.int .i64) 3 w' w.heap.size (fun k_ => some k_ ≠ (v5 : Value).ownBlock) (.slice Ao7 t244.length co7) t244) ∧ Aside0 (Below w.heap.size w w'))
  case atStart => exact ⟨(([] : List Int)), (0), (by first | rfl | (simp; done) | (simp [*]; done)), H', ⟨Nat.le_refl _⟩, ⟨by first | exact Kd.R_nil _ _ _ _ _ | exact Kd.N_nil _ _ _ _ _ | exact Kd.V_nil _ _ _ _ _ | exact Kd.Q_nil _ _ _ _ _ | exact Kd.S_nil _ _ _ _ _⟩, ⟨by (with_reducible repeat (first | apply Kd.R_alloc | apply Kd.R_drewN | apply Kd.R_drew)); exact Kd.R_mono HO246.out (fun _ hk => (by simp [Value.ownBlock]))⟩, ⟨bq⟩⟩
  case round =>
   clear H'
   clear c3b0 c3b1
   obtain ⟨x5_1, x16_1, rfl, HA, HK1, HO_5, HO_14, HB⟩ := hrel
   cases gk with
   | zero => exact absurd HA.out (by simp [table_Leaves.l0])
   | succ k1 =>
    have H := HA.out
    clear HA
    simp only [table_Leaves.l0] at H
    by_cases c8 : x16_1 < (t244.length : Int)
    ·rw [if_pos c8] at H
     have c8b0 := decide_eq_true c8
     clear c8
     obtain ⟨c9b0, H⟩ := ge H
     obtain ⟨c10b0, H⟩ := ge H
     obtain ⟨c11b0, H⟩ := ge H
     obtain ⟨c12b0, H⟩ := ge H
     obtain ⟨t249, A13, H⟩ := bo H
     by_cases c14 : t249 = true
     ·subst c14
      rw [if_pos rfl] at H
      obtain ⟨c15, H⟩ := gd H
      have LMc15 := Am c15
      clear c15
      obtain ⟨y250, hy250⟩ : ∃ y_ : List Int, y_ = (x5_1 ++ [rd t244 x16_1]) := ⟨_, rfl⟩
      rw [← hy250] at H
      have Ny250 := Am hy250
      clear hy250
      have H' := Am H
      clear H
      have p247 : 0 ≤ (x16_1 : Int) := da
      have q247 : x16_1 < (t244.length : Int) := da
      obtain ⟨ad247, e247, hx247_0⟩ := Kd.at_int (Kd.R_reads' HO_14.out).2.2 x16_1 p247 q247
      cases e247
      replace p247 := eq_true p247
      replace q247 := eq_true q247
      obtain ⟨ad248, e248, hx248_0, hx248_1, hx248_2, hx248_3, hx248_4, hx248_5, p248, q248⟩ := t6d HB.out HR0.out (rd t244 x16_1)
      cases e248
      go_wp2_with (first | ((with_reducible refine Gc 84 rfl ?_); refine gL 24 Tryz.func84 #[.agg (cN (rd_T69 l0 (rd t244 x16_1)))] ?_; (with_reducible refine (table_isLeaf.calls _ _ _ _ _ _ true _ A13.out).mono ?_); rintro e w16 ⟨rfl, hb⟩; refine ⟨_, rfl, ?_⟩; replace HO_5 := Am (Kd.R_below (kr HO_5.out) hb); replace HO_14 := Am (Kd.R_below (kr HO_14.out) hb); replace HB := Am (below_step bq hb); (try clear hb)) | ((with_reducible refine gate_builtin (b := .append) (xs := #[.tmp 25, .tmp 27]) rfl ?_); at_builtin; refine Kd.R_append (Kd.int .i64) (w0 := w) w.heap.size rfl (.tmp 25) (.tmp 27) 60 3 (.int .i64 0) 8 rfl Tryz.underlying60 info3 rfl (by decide) (by omega) u5 x5_1 (rd t244 x16_1) [.int .i64 (rd t244 x16_1)] (fun k_ => some k_ ≠ (.slice (some ad247) t244.length co7 : Value).ownBlock) (fun _ => False) rfl rfl ?aP (fun _ hk => hk.elim) ?aF ?aO ?aB ?aS ?aL ?_; (case aP => exact rfl); (case aB => exact bq); (case aF => exact (fun k_ hk => Kd.fresh' (Kd.R_lt (kr HO_14.out)) k_ hk)); (case aO => exact (kr HO_5.out)); (case aS => exact (below_size bq)); (case aL => have := LMc15.out; omega); intro v251 w17 ho hb hg hat; rw [← Ny250.out] at ho; replace HO_14 := Am (Kd.R_after (ok := (fun _ => True)) (by (with_reducible repeat (first | apply Kd.R_alloc | apply Kd.R_drewN | apply Kd.R_drew)); exact Kd.R_mono HO_14.out (fun _ hk => ⟨trivial, hk⟩)) hg hat); replace HB := Am (hb); have HO252 := Am (ho); clear HO_5; clear ho hb hg hat))
      go_roundg k1
      case measure => have := HK1.out; omega
      case rel => exact ⟨(y250), (wrap64 (x16_1 + 1)), (by first | rfl | (simp; done) | (simp [*]; done)), H', ⟨by have := HK1.out; omega⟩, ⟨kr HO252.out⟩, ⟨by (with_reducible repeat (first | apply Kd.R_alloc | apply Kd.R_drewN | apply Kd.R_drew)); exact Kd.R_mono HO_14.out (fun _ hk => hk.2)⟩, ⟨bq⟩⟩
     ·replace c14 := Bool.eq_false_iff.mpr c14
      subst c14
      rw [if_neg nf] at H
      have H' := Am H
      clear H
      have p247 : 0 ≤ (x16_1 : Int) := da
      have q247 : x16_1 < (t244.length : Int) := da
      obtain ⟨ad247, e247, hx247_0⟩ := Kd.at_int (Kd.R_reads' HO_14.out).2.2 x16_1 p247 q247
      cases e247
      replace p247 := eq_true p247
      replace q247 := eq_true q247
      obtain ⟨ad248, e248, hx248_0, hx248_1, hx248_2, hx248_3, hx248_4, hx248_5, p248, q248⟩ := t6d HB.out HR0.out (rd t244 x16_1)
      cases e248
      go_wp2_with (first | ((with_reducible refine Gc 84 rfl ?_); refine gL 24 Tryz.func84 #[.agg (cN (rd_T69 l0 (rd t244 x16_1)))] ?_; (with_reducible refine (table_isLeaf.calls _ _ _ _ _ _ false _ A13.out).mono ?_); rintro e w18 ⟨rfl, hb⟩; refine ⟨_, rfl, ?_⟩; replace HO_5 := Am (Kd.R_below (kr HO_5.out) hb); replace HO_14 := Am (Kd.R_below (kr HO_14.out) hb); replace HB := Am (below_step bq hb); (try clear hb)))
      go_roundg k1
      case measure => have := HK1.out; omega
      case rel => exact ⟨(x5_1), (wrap64 (x16_1 + 1)), (by first | rfl | (simp; done) | (simp [*]; done)), H', ⟨by have := HK1.out; omega⟩, ⟨kr HO_5.out⟩, ⟨kr HO_14.out⟩, ⟨bq⟩⟩
    ·rw [if_neg c8] at H
     have c8b0 := decide_eq_false c8
     clear c8
     simp only [Option.some.injEq, Prod.mk.injEq] at H
     obtain ⟨rfl, rfl⟩ := H
     go_wp2
     go_ret2
     exact dd63
 ·rw [if_neg c3] at H
  obtain ⟨c3b0, c3b1⟩ := ne2 c3
  simp only [Option.some.injEq, Prod.mk.injEq] at H
  obtain ⟨rfl, rfl⟩ := H
  go_enter Tryz.func77, Tryz.ntmps77
  go_wp2_with (first | ((with_reducible refine Gc 55 rfl ?_); refine gL 9 Tryz.func55 #[.slice A0 l0.length c0] ?_; (with_reducible refine (table_Check.calls k _ _ l0 t243 _ (kc HR0.out) HC0.out A2.out).mono ?_); rintro e w19 ⟨rfl, hb⟩; refine ⟨_, rfl, ?_⟩; replace HB := Am (below_step bq hb); (try clear hb)))
  go_ret2
  exact dd22
end
end Go.Proofs.YtaabbaemfnecgaaGreat.T
