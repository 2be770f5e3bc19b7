/- A part of the proof: see YtgleaefhflamnaaLawStepsKeeps. -/
import Derived.IntWalk
import Derived.MapKept
import Derived.LaidEqlPtr
import Derived.Test.YtgleaefhflamnaaZk3
set_option linter.unusedVariables false
set_option linter.unusedSimpArgs false
set_option maxHeartbeats 32000000
set_option maxRecDepth 100000
namespace Go.Proofs.Ytgleaefhflamnaa.T
open Go.RowKit Go.Proofs.YtgleaefhflamnaaW.PrintWords Go.Proofs.YtgleaefhflamnaaW.PrintLast Go.Proofs.YtgleaefhflamnaaW.PrintMore
attribute [local go_sem] Try.underlying24 Try.underlying34 Try.underlying62 Try.underlying107 Try.underlying111 Try.underlying116
section
attribute [local go_sem] max2_int min2_int max_two min_two max_three min_three max_four min_four
attribute [local go_sem high] eqA24
def larchref16_Root.f (k : Nat) (l0 : List (S34)) : Option (Int × Int) := (larchref16_Check.f k l0).bind fun t577 => (if t577 = 0 then ((larchref16_Crown.f k l0).bind fun bt578 => (if bt578.2 = true then (if bt578.1 = (-1) then (some (0, 4)) else (some (bt578.1, 0))) else (some (0, 3)))) else (some (0, t577)))
theorem larchref16_Root.mono : ∀ a0 k, LeO (larchref16_Root.f k a0) (larchref16_Root.f (k + 1) a0) := by
 intro a0 k
 unfold larchref16_Root.f
 repeat' first
   | (with_reducible exact larchref16_Check.mono _ _)
   | (with_reducible exact larchref16_Crown.mono _ _)
   | (with_reducible exact LeO.refl _)
   | (with_reducible exact LeO.none _)
   | (with_reducible refine LeO.ite ?_ ?_)
   | (with_reducible refine LeO.bind ?_ (fun _ => ?_))
   | exact larchref16_Check.mono _ _
   | exact larchref16_Crown.mono _ _
   | exact LeO.none _
   | refine LeO.ite ?_ ?_
   | refine LeO.bind ?_ (fun _ => ?_)
theorem larchref16_Root.calls (k : Nat) (A0 : Option Addr) (c0 : Nat) (l0 : List (S34)) (r1 : Int) (r2 : Int) (w : World) (hr0 : Kd.C k34 w A0 l0.length l0) (hc0 : l0.length ≤ c0) (h : larchref16_Root.f k l0 = some (r1, r2)) :
  Calls Try.prog 47 #[.slice A0 l0.length c0] w (RB w (.tuple #[.int .i64 r1, .int .i64 r2])) := by
 have HR0 := Am hr0
 have HC0 := Am hc0
 clear hr0 hc0
 have HB := Am (Below.refl w.heap.size w)
 have H : ((larchref16_Check.f k l0).bind fun t577 => (if t577 = 0 then ((larchref16_Crown.f k l0).bind fun bt578 => (if bt578.2 = true then (if bt578.1 = (-1) then (some (0, 4)) else (some (bt578.1, 0))) else (some (0, 3)))) else (some (0, t577)))) = some (r1, r2) := h
 clear h
 obtain ⟨t577, A2, H⟩ := bo H
 by_cases c3 : t577 = 0
 ·rw [if_pos c3] at H
  obtain ⟨c3b0, c3b1⟩ := eq2 c3
  clear c3
  obtain ⟨⟨t578, t579⟩, A4, H⟩ := bo H
  dsimp only at H
  by_cases c5 : t579 = true
  ·subst c5
   rw [if_pos rfl] at H
   by_cases c6 : t578 = (-1)
   ·rw [if_pos c6] at H
    obtain ⟨c6b0, c6b1⟩ := eq2 c6
    clear c6
    simp only [Option.some.injEq, Prod.mk.injEq] at H
    obtain ⟨rfl, rfl⟩ := H
    go_enter Try.func47, Try.ntmps47
    go_wp2_with (first | ((with_reducible refine gc 46 rfl ?_); refine gL 8 Try.func46 #[.slice A0 l0.length c0] ?_; (with_reducible refine (larchref16_Check.calls k _ _ l0 t577 _ ?side1 ?side2 A2.out).mono ?_); (case side1 => exact kc HR0.out); (case side2 => exact HC0.out); rintro e w7 ⟨rfl, hb⟩; refine ⟨_, rfl, ?_⟩; replace HB := Am (below_step bq hb); (try clear hb)) | ((with_reducible refine gc 76 rfl ?_); refine gL 14 Try.func76 #[.slice A0 l0.length c0] ?_; (with_reducible refine (larchref16_Crown.calls k _ _ l0 t578 true _ ?side1 ?side2 A4.out).mono ?_); (case side1 => exact kc (Kd.C_below HR0.out HB.out)); (case side2 => exact HC0.out); rintro e w8 ⟨rfl, hb⟩; refine ⟨_, rfl, ?_⟩; replace HB := Am (below_step bq hb); (try clear hb)))
    go_ret2
    exact ⟨er, bq⟩
   ·rw [if_neg c6] at H
    obtain ⟨c6b0, c6b1⟩ := ne2 c6
    simp only [Option.some.injEq, Prod.mk.injEq] at H
    obtain ⟨rfl, rfl⟩ := H
    go_enter Try.func47, Try.ntmps47
    go_wp2_with (first | ((with_reducible refine gc 46 rfl ?_); refine gL 8 Try.func46 #[.slice A0 l0.length c0] ?_; (with_reducible refine (larchref16_Check.calls k _ _ l0 t577 _ ?side1 ?side2 A2.out).mono ?_); (case side1 => exact kc HR0.out); (case side2 => exact HC0.out); rintro e w9 ⟨rfl, hb⟩; refine ⟨_, rfl, ?_⟩; replace HB := Am (below_step bq hb); (try clear hb)) | ((with_reducible refine gc 76 rfl ?_); refine gL 14 Try.func76 #[.slice A0 l0.length c0] ?_; (with_reducible refine (larchref16_Crown.calls k _ _ l0 t578 true _ ?side1 ?side2 A4.out).mono ?_); (case side1 => exact kc (Kd.C_below HR0.out HB.out)); (case side2 => exact HC0.out); rintro e w10 ⟨rfl, hb⟩; refine ⟨_, rfl, ?_⟩; replace HB := Am (below_step bq hb); (try clear hb)))
    go_ret2
    exact ⟨er, bq⟩
  ·replace c5 := Bool.eq_false_iff.mpr c5
   subst c5
   rw [if_neg nf] at H
   simp only [Option.some.injEq, Prod.mk.injEq] at H
   obtain ⟨rfl, rfl⟩ := H
   go_enter Try.func47, Try.ntmps47
   go_wp2_with (first | ((with_reducible refine gc 46 rfl ?_); refine gL 8 Try.func46 #[.slice A0 l0.length c0] ?_; (with_reducible refine (larchref16_Check.calls k _ _ l0 t577 _ ?side1 ?side2 A2.out).mono ?_); (case side1 => exact kc HR0.out); (case side2 => exact HC0.out); rintro e w11 ⟨rfl, hb⟩; refine ⟨_, rfl, ?_⟩; replace HB := Am (below_step bq hb); (try clear hb)) | ((with_reducible refine gc 76 rfl ?_); refine gL 14 Try.func76 #[.slice A0 l0.length c0] ?_; (with_reducible refine (larchref16_Crown.calls k _ _ l0 t578 false _ ?side1 ?side2 A4.out).mono ?_); (case side1 => exact kc (Kd.C_below HR0.out HB.out)); (case side2 => exact HC0.out); rintro e w12 ⟨rfl, hb⟩; refine ⟨_, rfl, ?_⟩; replace HB := Am (below_step bq hb); (try clear hb)))
   go_ret2
   exact ⟨er, bq⟩
 ·rw [if_neg c3] at H
  obtain ⟨c3b0, c3b1⟩ := ne2 c3
  simp only [Option.some.injEq, Prod.mk.injEq] at H
  obtain ⟨rfl, rfl⟩ := H
  go_enter Try.func47, Try.ntmps47
  go_wp2_with (first | ((with_reducible refine gc 46 rfl ?_); refine gL 8 Try.func46 #[.slice A0 l0.length c0] ?_; (with_reducible refine (larchref16_Check.calls k _ _ l0 t577 _ ?side1 ?side2 A2.out).mono ?_); (case side1 => exact kc HR0.out); (case side2 => exact HC0.out); rintro e w13 ⟨rfl, hb⟩; refine ⟨_, rfl, ?_⟩; replace HB := Am (below_step bq hb); (try clear hb)))
  go_ret2
  exact ⟨er, bq⟩
def larchref18_IsMove.f (a0_0 : Int) (a0_1 : Bool) : Option (Bool) := if a0_1 = true then (if a0_0 = 1 then (some false) else (if a0_0 = 11 then (some false) else (if a0_0 = 12 then (some false) else (if a0_0 ≥ 1 then (some (decide (a0_0 ≤ 12))) else (some false))))) else (if a0_0 ≥ 1 then (some (decide (a0_0 ≤ 12))) else (some false))
theorem larchref18_IsMove.calls (a0_0 : Int) (a0_1 : Bool) (r : Bool) (w : World) (h : larchref18_IsMove.f a0_0 a0_1 = some r) :
  Calls Try.prog 69 #[.agg #[.int .i64 a0_0, .bool a0_1]] w (RB w (.bool r)) := by
 have H := Am h
 clear h
 cases a0_1
 all_goals
  go_enter Try.func69, Try.ntmps69
  go_wp2
  all_goals
   go_ret
   refine ⟨?_, ba (Below.refl _ _) _⟩
   have h := H.out
   clear H
   unfold larchref18_IsMove.f at h
   repeat' split at h
   all_goals first | omega | (simp_all; done) | (simp_all; omega)
def larchref18_All.l0 : Nat → List (S24) → Int → Option ((List (S24)))
 | 0, _, _ => none
 | k + 1, x1, x2 => if x2 ≤ 12 then (if x1.length < 8796093022208 then ((some (x1 ++ [(⟨x2, false⟩ : S24)] : List (S24))).bind fun y582 => ((larchref18_IsMove.f x2 true).bind fun t585 => (if t585 = true then (if y582.length < 8796093022208 then (larchref18_All.l0 k (y582 ++ [(⟨x2, true⟩ : S24)]) (wrap64 (x2 + 1))) else (none)) else (larchref18_All.l0 k y582 (wrap64 (x2 + 1)))))) else (none)) else (some x1)
def larchref18_All.f (k : Nat)  : Option ((List (S24))) := larchref18_All.l0 k ([] : List (S24)) 1
theorem larchref18_All.calls (k : Nat)  (r : List (S24)) (w : World) (h : larchref18_All.f k  = some r) :
  Calls Try.prog 34 #[] w fun e w' => ∃ v0_ : Value, e = .returned (v0_) ∧ Kd.R k24 24 w' w.heap.size (fun _ => True) v0_ r ∧ Below w.heap.size w w' := by
 have HB := Am (Below.refl w.heap.size w)
 have H : (larchref18_All.l0 k ([] : List (S24)) 1) = some r := h
 clear h
 have H' := Am H
 clear H
 go_enter Try.func34, Try.ntmps34
 go_wp2
 go_loopg [1, 2] k (fun kq v1 v2 w' => ∃ (x1_1 : List (S24)) (x2_1 : Int), v2 = .int .i64 x2_1 ∧ Aside0 (larchref18_All.l0 kq x1_1 x2_1 = some r) ∧ Aside0 (kq ≤ k) ∧ Aside0 (Kd.R k24 24 w' w.heap.size (fun _ => True) v1 x1_1) ∧ Aside0 (Below w.heap.size w w'))
 case atStart => exact ⟨(([] : List (S24))), (1), (by first | rfl | (simp; done) | (simp [*]; done)), H', ⟨Nat.le_refl _⟩, ⟨by first | exact Kd.R_nil _ _ _ _ _ | exact Kd.N_nil _ _ _ _ _ | exact Kd.V_nil _ _ _ _ _ | exact Kd.Q_nil _ _ _ _ _ | exact Kd.S_nil _ _ _ _ _⟩, ⟨bq⟩⟩
 case round =>
  clear H'
  obtain ⟨x1_1, x2_1, rfl, HA, HK1, HO_1, HB⟩ := hrel
  cases gk with
  | zero => exact absurd HA.out (by simp [larchref18_All.l0])
  | succ k1 =>
   have H := HA.out
   clear HA
   simp only [larchref18_All.l0] at H
   by_cases c1 : x2_1 ≤ 12
   ·rw [if_pos c1] at H
    have c1b0 := decide_eq_true c1
    clear c1
    obtain ⟨c2, H⟩ := gd H
    have LMc2 := Am c2
    clear c2
    obtain ⟨y582, hy582⟩ : ∃ y_ : List (S24), y_ = (x1_1 ++ [(⟨x2_1, false⟩ : S24)]) := ⟨_, rfl⟩
    replace H : ((larchref18_IsMove.f x2_1 true).bind fun t585 => (if t585 = true then (if y582.length < 8796093022208 then (larchref18_All.l0 k1 (y582 ++ [(⟨x2_1, true⟩ : S24)]) (wrap64 (x2_1 + 1))) else (none)) else (larchref18_All.l0 k1 y582 (wrap64 (x2_1 + 1))))) = some r := by first | (rw [hy582]; with_reducible exact H) | (have H2_ := (Option.bind_some _ _).symm.trans H; rw [hy582]; with_reducible exact H2_) | (have H2_ := (Option.bind_some _ _).symm.trans H; with_reducible exact H2_) | with_reducible exact H | (rw [hy582]; exact H) | exact H
    have Ny582 := Am hy582
    clear hy582
    obtain ⟨t585, A3, H⟩ := bo H
    by_cases c4 : t585 = true
    ·subst c4
     rw [if_pos rfl] at H
     obtain ⟨c5, H⟩ := gd H
     have LMc5 := Am c5
     clear c5
     obtain ⟨y586, hy586⟩ : ∃ y_ : List (S24), y_ = (y582 ++ [(⟨x2_1, true⟩ : S24)]) := ⟨_, rfl⟩
     replace H : (larchref18_All.l0 k1 y586 (wrap64 (x2_1 + 1))) = some r := by first | (rw [hy586]; with_reducible exact H) | (have H2_ := (Option.bind_some _ _).symm.trans H; rw [hy586]; with_reducible exact H2_) | (have H2_ := (Option.bind_some _ _).symm.trans H; with_reducible exact H2_) | with_reducible exact H | (rw [hy586]; exact H) | exact H
     have Ny586 := Am hy586
     clear hy586
     have H' := Am H
     clear H
     go_wp2_with (first | ((with_reducible refine gate_builtin (b := .append) (xs := #[.tmp 7, .tmp 10]) rfl ?_); at_builtin; refine Kd.R_append k24 (w0 := w) w.heap.size rfl (.tmp 7) (.tmp 10) 37 24 (.agg #[(.int .i64 0), (.bool false)]) 16 rfl Try.underlying37 info24 rfl (by decide) (by omega) u1 x1_1 (⟨x2_1, false⟩ : S24) [.int .i64 x2_1, .bool false] (fun _ => True) (fun _ => False) rfl rfl ?aP (fun _ hk => hk.elim) ?aF ?aO ?aB ?aS ?aL ?_; (case aP => exact k24_mkM _ _ _ (⟨x2_1, false⟩ : S24)); (case aB => exact bq); (case aF => exact (fun _ _ => trivial)); (case aO => exact (kr HO_1.out)); (case aS => exact (below_size bq)); (case aL => have := LMc2.out; omega); intro v583 w6 ho hb hg hat; rw [← Ny582.out] at ho; have n0_ := Am (hb); have n1_ := Am (ho); clear HB; clear HO_1; have HB := n0_; have HO584 := n1_; clear n0_ n1_; clear ho hb hg hat) | ((with_reducible refine gc 69 rfl ?_); refine gL 14 Try.func69 #[.agg #[.int .i64 x2_1, .bool true]] ?_; (with_reducible refine (larchref18_IsMove.calls x2_1 true true _ A3.out).mono ?_); rintro e w7 ⟨rfl, hb⟩; refine ⟨_, rfl, ?_⟩; replace HO584 := Am (Kd.R_below (kr HO584.out) hb); replace HB := Am (below_step bq hb); (try clear hb)) | ((with_reducible refine gate_builtin (b := .append) (xs := #[.tmp 15, .tmp 18]) rfl ?_); at_builtin; refine Kd.R_append k24 (w0 := w) w.heap.size rfl (.tmp 15) (.tmp 18) 37 24 (.agg #[(.int .i64 0), (.bool false)]) 16 rfl Try.underlying37 info24 rfl (by decide) (by omega) v583 y582 (⟨x2_1, true⟩ : S24) [.int .i64 x2_1, .bool true] (fun _ => True) (fun _ => False) rfl rfl ?aP (fun _ hk => hk.elim) ?aF ?aO ?aB ?aS ?aL ?_; (case aP => exact k24_mkM _ _ _ (⟨x2_1, true⟩ : S24)); (case aB => exact bq); (case aF => exact (fun _ _ => trivial)); (case aO => exact (kr HO584.out)); (case aS => exact (below_size bq)); (case aL => have := LMc5.out; omega); intro v587 w8 ho hb hg hat; rw [← Ny586.out] at ho; have n0_ := Am (hb); have n1_ := Am (ho); clear HB; clear HO584; have HB := n0_; have HO588 := n1_; clear n0_ n1_; clear ho hb hg hat))
     go_roundg k1
     case measure => have := HK1.out; omega
     case rel => exact ⟨(y586), (wrap64 (x2_1 + 1)), (by first | rfl | (simp; done) | (simp [*]; done)), H', ⟨by have := HK1.out; omega⟩, ⟨kr HO588.out⟩, ⟨bq⟩⟩
    ·replace c4 := Bool.eq_false_iff.mpr c4
     subst c4
     rw [if_neg nf] at H
     have H' := Am H
     clear H
     go_wp2_with (first | ((with_reducible refine gate_builtin (b := .append) (xs := #[.tmp 7, .tmp 10]) rfl ?_); at_builtin; refine Kd.R_append k24 (w0 := w) w.heap.size rfl (.tmp 7) (.tmp 10) 37 24 (.agg #[(.int .i64 0), (.bool false)]) 16 rfl Try.underlying37 info24 rfl (by decide) (by omega) u1 x1_1 (⟨x2_1, false⟩ : S24) [.int .i64 x2_1, .bool false] (fun _ => True) (fun _ => False) rfl rfl ?aP (fun _ hk => hk.elim) ?aF ?aO ?aB ?aS ?aL ?_; (case aP => exact k24_mkM _ _ _ (⟨x2_1, false⟩ : S24)); (case aB => exact bq); (case aF => exact (fun _ _ => trivial)); (case aO => exact (kr HO_1.out)); (case aS => exact (below_size bq)); (case aL => have := LMc2.out; omega); intro v583 w9 ho hb hg hat; rw [← Ny582.out] at ho; have n0_ := Am (hb); have n1_ := Am (ho); clear HB; clear HO_1; have HB := n0_; have HO584 := n1_; clear n0_ n1_; clear ho hb hg hat) | ((with_reducible refine gc 69 rfl ?_); refine gL 14 Try.func69 #[.agg #[.int .i64 x2_1, .bool true]] ?_; (with_reducible refine (larchref18_IsMove.calls x2_1 true false _ A3.out).mono ?_); rintro e w10 ⟨rfl, hb⟩; refine ⟨_, rfl, ?_⟩; replace HO584 := Am (Kd.R_below (kr HO584.out) hb); replace HB := Am (below_step bq hb); (try clear hb)))
     go_roundg k1
     case measure => have := HK1.out; omega
     case rel => exact ⟨(y582), (wrap64 (x2_1 + 1)), (by first | rfl | (simp; done) | (simp [*]; done)), H', ⟨by have := HK1.out; omega⟩, ⟨kr HO584.out⟩, ⟨bq⟩⟩
   ·rw [if_neg c1] at H
    have c1b0 := decide_eq_false c1
    clear c1
    obtain rfl := Option.some.inj H
    go_wp2
    go_ret
    exact ⟨_, er, kr HO_1.out, bq⟩
def steps_All.l0 : Nat → List (S62) → Int → Option ((List (S62)))
 | 0, _, _ => none
 | k + 1, x1, x2 => if x2 ≤ 12 then (if x1.length < 8796093022208 then ((some (x1 ++ [(⟨x2, false⟩ : S62)] : List (S62))).bind fun y592 => ((steps_alone.f x2).bind fun t595 => (if t595 = true then (steps_All.l0 k y592 (wrap64 (x2 + 1))) else (if y592.length < 8796093022208 then (steps_All.l0 k (y592 ++ [(⟨x2, true⟩ : S62)]) (wrap64 (x2 + 1))) else (none))))) else (none)) else (some x1)
def steps_All.f (k : Nat)  : Option ((List (S62))) := steps_All.l0 k ([] : List (S62)) 1
theorem steps_All.calls (k : Nat)  (r : List (S62)) (w : World) (h : steps_All.f k  = some r) :
  Calls Try.prog 33 #[] w fun e w' => ∃ v0_ : Value, e = .returned (v0_) ∧ Kd.R k62 62 w' w.heap.size (fun _ => True) v0_ r ∧ Below w.heap.size w w' := by
 have HB := Am (Below.refl w.heap.size w)
 have H : (steps_All.l0 k ([] : List (S62)) 1) = some r := h
 clear h
 have H' := Am H
 clear H
 go_enter Try.func33, Try.ntmps33
 go_wp2
 go_loopg [1, 2] k (fun kq v1 v2 w' => ∃ (x1_1 : List (S62)) (x2_1 : Int), v2 = .int .i64 x2_1 ∧ Aside0 (steps_All.l0 kq x1_1 x2_1 = some r) ∧ Aside0 (kq ≤ k) ∧ Aside0 (Kd.R k62 62 w' w.heap.size (fun _ => True) v1 x1_1) ∧ Aside0 (Below w.heap.size w w'))
 case atStart => exact ⟨(([] : List (S62))), (1), (by first | rfl | (simp; done) | (simp [*]; done)), H', ⟨Nat.le_refl _⟩, ⟨by first | exact Kd.R_nil _ _ _ _ _ | exact Kd.N_nil _ _ _ _ _ | exact Kd.V_nil _ _ _ _ _ | exact Kd.Q_nil _ _ _ _ _ | exact Kd.S_nil _ _ _ _ _⟩, ⟨bq⟩⟩
 case round =>
  clear H'
  obtain ⟨x1_1, x2_1, rfl, HA, HK1, HO_1, HB⟩ := hrel
  cases gk with
  | zero => exact absurd HA.out (by simp [steps_All.l0])
  | succ k1 =>
   have H := HA.out
   clear HA
   simp only [steps_All.l0] at H
   by_cases c1 : x2_1 ≤ 12
   ·rw [if_pos c1] at H
    have c1b0 := decide_eq_true c1
    clear c1
    obtain ⟨c2, H⟩ := gd H
    have LMc2 := Am c2
    clear c2
    obtain ⟨y592, hy592⟩ : ∃ y_ : List (S62), y_ = (x1_1 ++ [(⟨x2_1, false⟩ : S62)]) := ⟨_, rfl⟩
    replace H : ((steps_alone.f x2_1).bind fun t595 => (if t595 = true then (steps_All.l0 k1 y592 (wrap64 (x2_1 + 1))) else (if y592.length < 8796093022208 then (steps_All.l0 k1 (y592 ++ [(⟨x2_1, true⟩ : S62)]) (wrap64 (x2_1 + 1))) else (none)))) = some r := by first | (rw [hy592]; with_reducible exact H) | (have H2_ := (Option.bind_some _ _).symm.trans H; rw [hy592]; with_reducible exact H2_) | (have H2_ := (Option.bind_some _ _).symm.trans H; with_reducible exact H2_) | with_reducible exact H | (rw [hy592]; exact H) | exact H
    have Ny592 := Am hy592
    clear hy592
    obtain ⟨t595, A3, H⟩ := bo H
    by_cases c4 : t595 = true
    ·subst c4
     rw [if_pos rfl] at H
     have H' := Am H
     clear H
     go_wp2_with (first | ((with_reducible refine gate_builtin (b := .append) (xs := #[.tmp 7, .tmp 10]) rfl ?_); at_builtin; refine Kd.R_append k62 (w0 := w) w.heap.size rfl (.tmp 7) (.tmp 10) 40 62 (.agg #[(.int .i64 0), (.bool false)]) 16 rfl Try.underlying40 info62 rfl (by decide) (by omega) u1 x1_1 (⟨x2_1, false⟩ : S62) [.int .i64 x2_1, .bool false] (fun _ => True) (fun _ => False) rfl rfl ?aP (fun _ hk => hk.elim) ?aF ?aO ?aB ?aS ?aL ?_; (case aP => exact k62_mkM _ _ _ (⟨x2_1, false⟩ : S62)); (case aB => exact bq); (case aF => exact (fun _ _ => trivial)); (case aO => exact (kr HO_1.out)); (case aS => exact (below_size bq)); (case aL => have := LMc2.out; omega); intro v593 w5 ho hb hg hat; rw [← Ny592.out] at ho; have n0_ := Am (hb); have n1_ := Am (ho); clear HB; clear HO_1; have HB := n0_; have HO594 := n1_; clear n0_ n1_; clear ho hb hg hat) | ((with_reducible refine gc 68 rfl ?_); refine gL 13 Try.func68 #[.int .i64 x2_1] ?_; (with_reducible refine (steps_alone.calls x2_1 true _ A3.out).mono ?_); rintro e w' ⟨rfl, ⟨nd, rfl⟩⟩; refine ⟨_, rfl, ?_⟩))
     go_roundg k1
     case measure => have := HK1.out; omega
     case rel => exact ⟨(y592), (wrap64 (x2_1 + 1)), (by first | rfl | (simp; done) | (simp [*]; done)), H', ⟨by have := HK1.out; omega⟩, ⟨kr HO594.out⟩, ⟨bq⟩⟩
    ·replace c4 := Bool.eq_false_iff.mpr c4
     subst c4
     rw [if_neg nf] at H
     obtain ⟨c6, H⟩ := gd H
     have LMc6 := Am c6
     clear c6
     obtain ⟨y596, hy596⟩ : ∃ y_ : List (S62), y_ = (y592 ++ [(⟨x2_1, true⟩ : S62)]) := ⟨_, rfl⟩
     replace H : (steps_All.l0 k1 y596 (wrap64 (x2_1 + 1))) = some r := by first | (rw [hy596]; with_reducible exact H) | (have H2_ := (Option.bind_some _ _).symm.trans H; rw [hy596]; with_reducible exact H2_) | (have H2_ := (Option.bind_some _ _).symm.trans H; with_reducible exact H2_) | with_reducible exact H | (rw [hy596]; exact H) | exact H
     have Ny596 := Am hy596
     clear hy596
     have H' := Am H
     clear H
     go_wp2_with (first | ((with_reducible refine gate_builtin (b := .append) (xs := #[.tmp 7, .tmp 10]) rfl ?_); at_builtin; refine Kd.R_append k62 (w0 := w) w.heap.size rfl (.tmp 7) (.tmp 10) 40 62 (.agg #[(.int .i64 0), (.bool false)]) 16 rfl Try.underlying40 info62 rfl (by decide) (by omega) u1 x1_1 (⟨x2_1, false⟩ : S62) [.int .i64 x2_1, .bool false] (fun _ => True) (fun _ => False) rfl rfl ?aP (fun _ hk => hk.elim) ?aF ?aO ?aB ?aS ?aL ?_; (case aP => exact k62_mkM _ _ _ (⟨x2_1, false⟩ : S62)); (case aB => exact bq); (case aF => exact (fun _ _ => trivial)); (case aO => exact (kr HO_1.out)); (case aS => exact (below_size bq)); (case aL => have := LMc2.out; omega); intro v593 w7 ho hb hg hat; rw [← Ny592.out] at ho; have n0_ := Am (hb); have n1_ := Am (ho); clear HB; clear HO_1; have HB := n0_; have HO594 := n1_; clear n0_ n1_; clear ho hb hg hat) | ((with_reducible refine gc 68 rfl ?_); refine gL 13 Try.func68 #[.int .i64 x2_1] ?_; (with_reducible refine (steps_alone.calls x2_1 false _ A3.out).mono ?_); rintro e w' ⟨rfl, ⟨nd, rfl⟩⟩; refine ⟨_, rfl, ?_⟩) | ((with_reducible refine gate_builtin (b := .append) (xs := #[.tmp 15, .tmp 18]) rfl ?_); at_builtin; refine Kd.R_append k62 (w0 := w) w.heap.size rfl (.tmp 15) (.tmp 18) 40 62 (.agg #[(.int .i64 0), (.bool false)]) 16 rfl Try.underlying40 info62 rfl (by decide) (by omega) v593 y592 (⟨x2_1, true⟩ : S62) [.int .i64 x2_1, .bool true] (fun _ => True) (fun _ => False) rfl rfl ?aP (fun _ hk => hk.elim) ?aF ?aO ?aB ?aS ?aL ?_; (case aP => exact k62_mkM _ _ _ (⟨x2_1, true⟩ : S62)); (case aB => exact bq); (case aF => exact (fun _ _ => trivial)); (case aO => exact (kr HO594.out)); (case aS => exact (below_size bq)); (case aL => have := LMc6.out; omega); intro v597 w8 ho hb hg hat; rw [← Ny596.out] at ho; have n0_ := Am (hb); have n1_ := Am (ho); clear HB; clear HO594; have HB := n0_; have HO598 := n1_; clear n0_ n1_; clear ho hb hg hat))
     go_roundg k1
     case measure => have := HK1.out; omega
     case rel => exact ⟨(y596), (wrap64 (x2_1 + 1)), (by first | rfl | (simp; done) | (simp [*]; done)), H', ⟨by have := HK1.out; omega⟩, ⟨kr HO598.out⟩, ⟨bq⟩⟩
   ·rw [if_neg c1] at H
    have c1b0 := decide_eq_false c1
    clear c1
    obtain rfl := Option.some.inj H
    go_wp2
    go_ret
    exact ⟨_, er, kr HO_1.out, bq⟩
def larchref02_Ints.l0 : Nat → List Int → List Int → Int → Option (Bool)
 | 0, _, _, _ => none
 | k + 1, x0, x1, x5 => if x5 < (x0.length : Int) then (if 0 ≤ x5 then (if x5 < (x1.length : Int) then (if (rd x0 x5) = (rd x1 x5) then (larchref02_Ints.l0 k x0 x1 (wrap64 (x5 + 1))) else (some false)) else (none)) else (none)) else (some true)
def larchref02_Ints.f (k : Nat) (l0 : List Int) (l1 : List Int) : Option (Bool) := if (l0.length : Int) = (l1.length : Int) then (larchref02_Ints.l0 k l0 l1 0) else (some false)
theorem larchref02_Ints.calls (k : Nat) (A0 : Option Addr) (c0 : Nat) (l0 : List Int) (A1 : Option Addr) (c1 : Nat) (l1 : List Int) (r : Bool) (w : World) (hr0 : Kd.C (Kd.int .i64) w A0 l0.length l0) (hc0 : l0.length ≤ c0) (hr1 : Kd.C (Kd.int .i64) w A1 l1.length l1) (hc1 : l1.length ≤ c1) (h : larchref02_Ints.f k l0 l1 = some r) :
  Calls Try.prog 18 #[.slice A0 l0.length c0, .slice A1 l1.length c1] w fun e w' => e = .returned (.bool r) ∧ Drawn0 w w' := by
 have HR0 := Am hr0
 have HC0 := Am hc0
 clear hr0 hc0
 have HR1 := Am hr1
 have HC1 := Am hc1
 clear hr1 hc1
 have H : (if (l0.length : Int) = (l1.length : Int) then (larchref02_Ints.l0 k l0 l1 0) else (some false)) = some r := h
 clear h
 by_cases c3 : (l0.length : Int) = (l1.length : Int)
 ·rw [if_pos c3] at H
  obtain ⟨c3b0, c3b1⟩ := eq2 c3
  have c3b2 : (l0.length == l1.length) = true := by first | simpa using c3 | (simp at c3 ⊢; omega)
  clear c3
  have H' := Am H
  clear H
  go_enter Try.func18, Try.ntmps18
  go_wp2
  repeat (go_quiet (fail); try go_wp2)
  go_loopg [5] k (fun kq v5 w' => ∃ (x5_1 : Int), v5 = .int .i64 x5_1 ∧ Aside0 (larchref02_Ints.l0 kq l0 l1 x5_1 = some r) ∧ Aside0 (kq ≤ k) ∧ Drawn0 w w')
  case atStart => exact ⟨(0), (by first | rfl | (simp; done) | (simp [*]; done)), H', ⟨Nat.le_refl _⟩, by repeat (first | exact Drawn0.refl _ | apply Drawn0.step)⟩
  case round =>
   clear H'
   clear c3b0 c3b1 c3b2
   try clear c1
   try clear p2
   obtain ⟨x5_1, rfl, HA, HK1, ⟨m1, rfl⟩⟩ := hrel
   cases gk with
   | zero => exact absurd HA.out (by simp [larchref02_Ints.l0])
   | succ k1 =>
    have H := HA.out
    clear HA
    simp only [larchref02_Ints.l0] at H
    by_cases c4 : x5_1 < (l0.length : Int)
    ·rw [if_pos c4] at H
     have c4b0 := decide_eq_true c4
     clear c4
     obtain ⟨c5, H⟩ := gd H
     have c5b0 := decide_eq_true c5
     clear c5
     obtain ⟨c6, H⟩ := gd H
     have c6b0 := decide_eq_true c6
     clear c6
     by_cases c7 : (rd l0 x5_1) = (rd l1 x5_1)
     ·rw [if_pos c7] at H
      obtain ⟨c7b0, c7b1⟩ := eq2 c7
      clear c7
      have H' := Am H
      clear H
      have p604 : 0 ≤ (x5_1 : Int) := da
      have q604 : x5_1 < (l0.length : Int) := da
      obtain ⟨ad604, e604, hx604_0⟩ := Kd.at_int HR0.out x5_1 p604 q604
      cases e604
      replace p604 := eq_true p604
      replace q604 := eq_true q604
      have p605 : 0 ≤ (x5_1 : Int) := da
      have q605 : x5_1 < (l1.length : Int) := da
      obtain ⟨ad605, e605, hx605_0⟩ := Kd.at_int HR1.out x5_1 p605 q605
      cases e605
      replace p605 := eq_true p605
      replace q605 := eq_true q605
      go_wp2
      repeat (go_quiet (fail); try go_wp2)
      go_roundg k1
      case measure => have := HK1.out; omega
      case rel => exact ⟨(wrap64 (x5_1 + 1)), (by first | rfl | (simp; done) | (simp [*]; done)), H', ⟨by have := HK1.out; omega⟩, by repeat (first | exact Drawn0.refl _ | apply Drawn0.step)⟩
     ·rw [if_neg c7] at H
      obtain ⟨c7b0, c7b1⟩ := ne2 c7
      obtain rfl := Option.some.inj H
      have p604 : 0 ≤ (x5_1 : Int) := da
      have q604 : x5_1 < (l0.length : Int) := da
      obtain ⟨ad604, e604, hx604_0⟩ := Kd.at_int HR0.out x5_1 p604 q604
      cases e604
      replace p604 := eq_true p604
      replace q604 := eq_true q604
      have p605 : 0 ≤ (x5_1 : Int) := da
      have q605 : x5_1 < (l1.length : Int) := da
      obtain ⟨ad605, e605, hx605_0⟩ := Kd.at_int HR1.out x5_1 p605 q605
      cases e605
      replace p605 := eq_true p605
      replace q605 := eq_true q605
      go_wp2
      repeat (go_quiet (fail); try go_wp2)
      go_ret
      exact ⟨by first | rfl | (simp; done) | (simp [*]; done), by repeat (first | exact Drawn0.refl _ | apply Drawn0.step)⟩
    ·rw [if_neg c4] at H
     have c4b0 := decide_eq_false c4
     clear c4
     obtain rfl := Option.some.inj H
     go_wp2
     repeat (go_quiet (fail); try go_wp2)
     go_ret
     exact ⟨by first | rfl | (simp; done) | (simp [*]; done), by repeat (first | exact Drawn0.refl _ | apply Drawn0.step)⟩
 ·rw [if_neg c3] at H
  obtain ⟨c3b0, c3b1⟩ := ne2 c3
  have c3b2 : (l0.length == l1.length) = false := by first | simpa using c3 | (simp at c3 ⊢; omega)
  obtain rfl := Option.some.inj H
  go_enter Try.func18, Try.ntmps18
  go_wp2
  repeat (go_quiet (fail); try go_wp2)
  go_ret
  exact ⟨by first | rfl | (simp; done) | (simp [*]; done), by repeat (first | exact Drawn0.refl _ | apply Drawn0.step)⟩
def larchref18_SameMoves.l0 : Nat → List (S24) → List (S24) → Int → Option (Bool)
 | 0, _, _, _ => none
 | k + 1, x0, x1, x5 => if x5 < (x0.length : Int) then (if 0 ≤ x5 then (if x5 < (x1.length : Int) then (if (!(((rd_T24 x0 x5).f0) == ((rd_T24 x1 x5).f0)) || (!(((rd_T24 x0 x5).f1) == ((rd_T24 x1 x5).f1)))) = true then (some false) else (larchref18_SameMoves.l0 k x0 x1 (wrap64 (x5 + 1)))) else (none)) else (none)) else (some true)
def larchref18_SameMoves.f (k : Nat) (l0 : List (S24)) (l1 : List (S24)) : Option (Bool) := if (l0.length : Int) = (l1.length : Int) then (larchref18_SameMoves.l0 k l0 l1 0) else (some false)
theorem larchref18_SameMoves.calls (k : Nat) (A0 : Option Addr) (c0 : Nat) (l0 : List (S24)) (A1 : Option Addr) (c1 : Nat) (l1 : List (S24)) (r : Bool) (w : World) (hr0 : Kd.C k24 w A0 l0.length l0) (hc0 : l0.length ≤ c0) (hr1 : Kd.C k24 w A1 l1.length l1) (hc1 : l1.length ≤ c1) (h : larchref18_SameMoves.f k l0 l1 = some r) :
  Calls Try.prog 19 #[.slice A0 l0.length c0, .slice A1 l1.length c1] w fun e w' => e = .returned (.bool r) ∧ Drawn0 w w' := by
 have HR0 := Am hr0
 have HC0 := Am hc0
 clear hr0 hc0
 have HR1 := Am hr1
 have HC1 := Am hc1
 clear hr1 hc1
 have H : (if (l0.length : Int) = (l1.length : Int) then (larchref18_SameMoves.l0 k l0 l1 0) else (some false)) = some r := h
 clear h
 by_cases c3 : (l0.length : Int) = (l1.length : Int)
 ·rw [if_pos c3] at H
  obtain ⟨c3b0, c3b1⟩ := eq2 c3
  have c3b2 : (l0.length == l1.length) = true := by first | simpa using c3 | (simp at c3 ⊢; omega)
  clear c3
  have H' := Am H
  clear H
  go_enter Try.func19, Try.ntmps19
  go_wp2
  repeat (go_quiet (fail); try go_wp2)
  go_loopg [5] k (fun kq v5 w' => ∃ (x5_1 : Int), v5 = .int .i64 x5_1 ∧ Aside0 (larchref18_SameMoves.l0 kq l0 l1 x5_1 = some r) ∧ Aside0 (kq ≤ k) ∧ Drawn0 w w')
  case atStart => exact ⟨(0), (by first | rfl | (simp; done) | (simp [*]; done)), H', ⟨Nat.le_refl _⟩, by repeat (first | exact Drawn0.refl _ | apply Drawn0.step)⟩
  case round =>
   clear H'
   clear c3b0 c3b1 c3b2
   try clear c1
   try clear p2
   obtain ⟨x5_1, rfl, HA, HK1, ⟨m1, rfl⟩⟩ := hrel
   cases gk with
   | zero => exact absurd HA.out (by simp [larchref18_SameMoves.l0])
   | succ k1 =>
    have H := HA.out
    clear HA
    simp only [larchref18_SameMoves.l0] at H
    by_cases c4 : x5_1 < (l0.length : Int)
    ·rw [if_pos c4] at H
     have c4b0 := decide_eq_true c4
     clear c4
     obtain ⟨c5, H⟩ := gd H
     have c5b0 := decide_eq_true c5
     clear c5
     obtain ⟨c6, H⟩ := gd H
     have c6b0 := decide_eq_true c6
     clear c6
     by_cases c7 : (!(((rd_T24 l0 x5_1).f0) == ((rd_T24 l1 x5_1).f0)) || (!(((rd_T24 l0 x5_1).f1) == ((rd_T24 l1 x5_1).f1)))) = true
     ·rw [if_pos c7] at H
      have c7b0 : (!(((rd_T24 l0 x5_1).f0) == ((rd_T24 l1 x5_1).f0)) || (!(((rd_T24 l0 x5_1).f1) == ((rd_T24 l1 x5_1).f1)))) = true := c7
      clear c7
      obtain rfl := Option.some.inj H
      have p606 : 0 ≤ (x5_1 : Int) := da
      have q606 : x5_1 < (l0.length : Int) := da
      obtain ⟨ad606, e606, hx606_0, hx606_1⟩ := at_T24 HR0.out x5_1 p606 q606
      cases e606
      replace p606 := eq_true p606
      replace q606 := eq_true q606
      have p607 : 0 ≤ (x5_1 : Int) := da
      have q607 : x5_1 < (l1.length : Int) := da
      obtain ⟨ad607, e607, hx607_0, hx607_1⟩ := at_T24 HR1.out x5_1 p607 q607
      cases e607
      replace p607 := eq_true p607
      replace q607 := eq_true q607
      go_wp2
      repeat (go_quiet (fail); try go_wp2)
      go_ret
      exact ⟨by first | rfl | (simp; done) | (simp [*]; done), by repeat (first | exact Drawn0.refl _ | apply Drawn0.step)⟩
     ·rw [if_neg c7] at H
      have c7b0 : (!(((rd_T24 l0 x5_1).f0) == ((rd_T24 l1 x5_1).f0)) || (!(((rd_T24 l0 x5_1).f1) == ((rd_T24 l1 x5_1).f1)))) = false := by simpa using c7
      clear c7
      have H' := Am H
      clear H
      have p606 : 0 ≤ (x5_1 : Int) := da
      have q606 : x5_1 < (l0.length : Int) := da
      obtain ⟨ad606, e606, hx606_0, hx606_1⟩ := at_T24 HR0.out x5_1 p606 q606
      cases e606
      replace p606 := eq_true p606
      replace q606 := eq_true q606
      have p607 : 0 ≤ (x5_1 : Int) := da
      have q607 : x5_1 < (l1.length : Int) := da
      obtain ⟨ad607, e607, hx607_0, hx607_1⟩ := at_T24 HR1.out x5_1 p607 q607
      cases e607
      replace p607 := eq_true p607
      replace q607 := eq_true q607
      go_wp2
      repeat (go_quiet (fail); try go_wp2)
      go_roundg k1
      case measure => have := HK1.out; omega
      case rel => exact ⟨(wrap64 (x5_1 + 1)), (by first | rfl | (simp; done) | (simp [*]; done)), H', ⟨by have := HK1.out; omega⟩, by repeat (first | exact Drawn0.refl _ | apply Drawn0.step)⟩
    ·rw [if_neg c4] at H
     have c4b0 := decide_eq_false c4
     clear c4
     obtain rfl := Option.some.inj H
     go_wp2
     repeat (go_quiet (fail); try go_wp2)
     go_ret
     exact ⟨by first | rfl | (simp; done) | (simp [*]; done), by repeat (first | exact Drawn0.refl _ | apply Drawn0.step)⟩
 ·rw [if_neg c3] at H
  obtain ⟨c3b0, c3b1⟩ := ne2 c3
  have c3b2 : (l0.length == l1.length) = false := by first | simpa using c3 | (simp at c3 ⊢; omega)
  obtain rfl := Option.some.inj H
  go_enter Try.func19, Try.ntmps19
  go_wp2
  repeat (go_quiet (fail); try go_wp2)
  go_ret
  exact ⟨by first | rfl | (simp; done) | (simp [*]; done), by repeat (first | exact Drawn0.refl _ | apply Drawn0.step)⟩
def larchlaw18_from.l0 : Nat → List (S24) → List (S62) → Int → Int → Option ((List (S24)))
 | 0, _, _, _, _ => none
 | k + 1, x3, x6, x7, x8 => if x8 < x7 then (if 0 ≤ x8 then (if x8 < (x6.length : Int) then (if x3.length < 8796093022208 then (larchlaw18_from.l0 k (x3 ++ [(⟨(rd_T62 x6 x8).f0, (rd_T62 x6 x8).f1⟩ : S24)]) x6 x7 (wrap64 (x8 + 1))) else (none)) else (none)) else (none)) else (some x3)
def larchlaw18_from.f (k : Nat) (l0 : List (S62)) : Option ((List (S24))) := larchlaw18_from.l0 k ([] : List (S24)) l0 (l0.length : Int) 0
theorem larchlaw18_from.calls (k : Nat) (A0 : Option Addr) (c0 : Nat) (l0 : List (S62)) (r : List (S24)) (w : World) (hr0 : Kd.C k62 w A0 l0.length l0) (hc0 : l0.length ≤ c0) (h : larchlaw18_from.f k l0 = some r) :
  Calls Try.prog 20 #[.slice A0 l0.length c0] w fun e w' => ∃ v0_ : Value, e = .returned (v0_) ∧ Kd.R k24 24 w' w.heap.size (fun _ => True) v0_ r ∧ Below w.heap.size w w' := by
 have HR0 := Am hr0
 have HC0 := Am hc0
 clear hr0 hc0
 have HB := Am (Below.refl w.heap.size w)
 have H : (larchlaw18_from.l0 k ([] : List (S24)) l0 (l0.length : Int) 0) = some r := h
 clear h
 have H' := Am H
 clear H
 go_enter Try.func20, Try.ntmps20
 go_wp2
 go_loopg [3, 8] k (fun kq v3 v8 w' => ∃ (x3_1 : List (S24)) (x8_1 : Int), v8 = .int .i64 x8_1 ∧ Aside0 (larchlaw18_from.l0 kq x3_1 l0 (l0.length : Int) x8_1 = some r) ∧ Aside0 (kq ≤ k) ∧ Aside0 (Kd.R k24 24 w' w.heap.size (fun _ => True) v3 x3_1) ∧ Aside0 (Below w.heap.size w w'))
 case atStart => exact ⟨(([] : List (S24))), (0), (by first | rfl | (simp; done) | (simp [*]; done)), H', ⟨Nat.le_refl _⟩, ⟨by first | exact Kd.R_nil _ _ _ _ _ | exact Kd.N_nil _ _ _ _ _ | exact Kd.V_nil _ _ _ _ _ | exact Kd.Q_nil _ _ _ _ _ | exact Kd.S_nil _ _ _ _ _⟩, ⟨bq⟩⟩
 case round =>
  clear H'
  obtain ⟨x3_1, x8_1, rfl, HA, HK1, HO_3, HB⟩ := hrel
  cases gk with
  | zero => exact absurd HA.out (by simp [larchlaw18_from.l0])
  | succ k1 =>
   have H := HA.out
   clear HA
   simp only [larchlaw18_from.l0] at H
   by_cases c2 : x8_1 < (l0.length : Int)
   ·rw [if_pos c2] at H
    have c2b0 := decide_eq_true c2
    clear c2
    obtain ⟨c3, H⟩ := gd H
    have c3b0 := decide_eq_true c3
    clear c3
    obtain ⟨c4, H⟩ := gd H
    have c4b0 := decide_eq_true c4
    clear c4
    obtain ⟨c5, H⟩ := gd H
    have LMc5 := Am c5
    clear c5
    obtain ⟨y610, hy610⟩ : ∃ y_ : List (S24), y_ = (x3_1 ++ [(⟨(rd_T62 l0 x8_1).f0, (rd_T62 l0 x8_1).f1⟩ : S24)]) := ⟨_, rfl⟩
    replace H : (larchlaw18_from.l0 k1 y610 l0 (l0.length : Int) (wrap64 (x8_1 + 1))) = some r := by first | (rw [hy610]; with_reducible exact H) | (have H2_ := (Option.bind_some _ _).symm.trans H; rw [hy610]; with_reducible exact H2_) | (have H2_ := (Option.bind_some _ _).symm.trans H; with_reducible exact H2_) | with_reducible exact H | (rw [hy610]; exact H) | exact H
    have Ny610 := Am hy610
    clear hy610
    have H' := Am H
    clear H
    have p608 : 0 ≤ (x8_1 : Int) := da
    have q608 : x8_1 < (l0.length : Int) := da
    obtain ⟨ad608, e608, hx608_0, hx608_1⟩ := at_T62 HR0.out x8_1 p608 q608
    cases e608
    replace hx608_0 := (HB.out.cell (blt w _ hx608_0)).trans hx608_0
    replace hx608_1 := (HB.out.cell (blt w _ hx608_1)).trans hx608_1
    replace p608 := eq_true p608
    replace q608 := eq_true q608
    go_wp2_with (first | ((with_reducible refine gs 5 rfl ?_); refine box_event ?hg (N := 5) ?hd (cs := #[.int .i64 0, .bool false]) (t := 62) ?hr ?_; (case hd => rfl); (case hg => rfl); (case hr => first | (go_simp; done) | (go_simp; rfl)); intro gb609 hg w6 hbox hb; have n0_ := Am (Kd.R_below (kr HO_3.out) hb); have n1_ := Am (below_step bq hb); have n2_ := Am (hbox); have n3_ := Am ((bz hg : w.heap.size ≤ gb609)); have n4_ := Am ((bz hg : w.heap.size ≤ gb609)); clear HO_3; clear HB; have HO_3 := n0_; have HB := n1_; have BK609 := n2_; have GW609 := n3_; have GE609 := n4_; clear n0_ n1_ n2_ n3_ n4_; clear hb hbox hg; obtain ⟨z7_0, z7_1, f7_0, f7_1⟩ := cf2 BK609.out) | ((with_reducible refine gate_builtin (b := .append) (xs := #[.tmp 12, .tmp 18]) rfl ?_); at_builtin; refine Kd.R_append k24 (w0 := w) w.heap.size rfl (.tmp 12) (.tmp 18) 37 24 (.agg #[(.int .i64 0), (.bool false)]) 16 rfl Try.underlying37 info24 rfl (by decide) (by omega) u3 x3_1 (⟨(rd_T62 l0 x8_1).f0, (rd_T62 l0 x8_1).f1⟩ : S24) [.int .i64 ((rd_T62 l0 x8_1).f0), .bool ((rd_T62 l0 x8_1).f1)] (fun _ => True) (fun _ => False) rfl (by first | (go_simp; done) | (go_simp; rfl)) ?aP (fun _ hk => hk.elim) ?aF ?aO ?aB ?aS ?aL ?_; (case aP => exact k24_mkM _ _ _ (⟨(rd_T62 l0 x8_1).f0, (rd_T62 l0 x8_1).f1⟩ : S24)); (case aB => exact bs); (case aF => exact (fun _ _ => trivial)); (case aO => exact (by (with_reducible repeat (first | apply Kd.R_alloc | apply Kd.R_drewN | apply Kd.R_drew)); exact Kd.R_mono (Kd.R_far (p := ⟨gb609, 1, none⟩) (Kd.R_far (p := ⟨gb609, 0, none⟩) (Kd.R_types HO_3.out BK609.out (by decide)) (fun _ hk => hk.2) (.int .i64 ((rd_T62 l0 x8_1).f0))) (fun _ hk => hk.2) (.bool ((rd_T62 l0 x8_1).f1))) (fun _ hk => trivial))); (case aS => exact (below_size bs)); (case aL => have := LMc5.out; omega); intro v611 w8 ho hb hg hat; rw [← Ny610.out] at ho; have n0_ := Am (blk_grown (g := gb609) (o := .cells #[.int .i64 ((rd_T62 l0 x8_1).f0), .bool ((rd_T62 l0 x8_1).f1)] 62 (0, 0)) (bp2 BK609.out) hg (Kd.R_ne HO_3.out BK609.out (by decide))); have n1_ := Am (hb); have n2_ := Am (ho); clear BK609; clear HB; clear HO_3; have BK609 := n0_; have HB := n1_; have HO612 := n2_; clear n0_ n1_ n2_; clear ho hb hg hat))
    go_roundg k1
    case measure => have := HK1.out; omega
    case rel => exact ⟨(y610), (wrap64 (x8_1 + 1)), (by first | rfl | (simp; done) | (simp [*]; done)), H', ⟨by have := HK1.out; omega⟩, ⟨kr HO612.out⟩, ⟨bs⟩⟩
   ·rw [if_neg c2] at H
    have c2b0 := decide_eq_false c2
    clear c2
    obtain rfl := Option.some.inj H
    go_wp2
    go_ret
    exact ⟨_, er, kr HO_3.out, bq⟩
end
theorem refnode_f (n : S34) (len k : Nat) : larchref16_node.f (k + 2) n.f0 n.f1 n.f2 n.f3 n.f4 n.f5 len = some (fmN n len) := by
 have e : ∀ b : Bool, (b = true ↔ (0 ≤ n.f2 ∧ n.f2 ≤ 1000000) ∧ (n.f1 = 0 ∨ (n.f1 = 1 ∧ n.f0 = 0 ∧ n.f3 = 0)) ∧ ((n.f4 = -1 ∧ n.f5 = -1) ∨ (n.f3 = 0 ∧ 1 ≤ n.f4 ∧ n.f4 < len ∧ 1 ≤ n.f5 ∧ n.f5 < len ∧ n.f4 ≠ n.f5))) → some b = some (fmN n len) := fun b h => by
  congr 1
  rw [Bool.eq_iff_iff, fmN_iff]
  exact h
 unfold larchref16_node.f
 simp only [larchref16_node.j0, larchref16_node.j1]
 generalize n.f0 = a at *
 generalize n.f1 = b at *
 generalize n.f2 = c at *
 generalize n.f3 = d at *
 generalize n.f4 = x at *
 generalize n.f5 = y at *
 simp only [Bool.false_eq_true, if_false, if_true, beq_iff_eq]
 clear k
 by_cases h1 : x = -1 <;> by_cases h2 : y = -1 <;> simp only [h1, h2, if_true, if_false]
 all_goals
  repeat' split
  all_goals
   refine e _ ?_
   clear e
   simp only [beq_iff_eq, decide_eq_true_eq, Bool.false_eq_true, false_iff, iff_true, true_iff]
   omega
def chB (n : S34) (c : Nat) : Nat := if n.f4 = -1 then 0 else (if n.f4.toNat = c then 1 else 0) + (if n.f5.toNat = c then 1 else 0)
def cnt (t : List S34) : Nat → Nat → Nat
 | 0, _ => 0
 | m + 1, c => cnt t m c + chB (t.getD m z34) c
theorem chB_le (n : S34) (c : Nat) : chB n c ≤ 2 := by unfold chB; split <;> (try split) <;> (try split) <;> omega
theorem cnt_le (t : List S34) (c : Nat) : ∀ m, cnt t m c ≤ 2 * m
 | 0 => Nat.le_refl _
 | m + 1 => by have := cnt_le t c m; have := chB_le (t.getD m z34) c; rw [cnt]; omega
abbrev Fm (t : List S34) : Prop := ∀ i, i < t.length → fmN (t.getD i z34) t.length = true
theorem cnt_one {t : List S34} {c m : Nat} : ∀ {n : Nat}, m < n → chB (t.getD m z34) c ≤ cnt t n c
 | n + 1, h => by
  rw [cnt]
  by_cases e : m = n
  ·subst e; omega
  ·have := cnt_one (t := t) (c := c) (m := m) (n := n) (by omega); omega
theorem cnt_two {t : List S34} {c m m' : Nat} : ∀ {n : Nat}, m < n → m' < n → m ≠ m' → chB (t.getD m z34) c + chB (t.getD m' z34) c ≤ cnt t n c
 | n + 1, h, h', hne => by
  rw [cnt]
  by_cases e : m = n
  ·subst e; have := cnt_one (t := t) (c := c) (m := m') (n := m) (by omega); omega
  ·by_cases e' : m' = n
   ·subst e'; have := cnt_one (t := t) (c := c) (m := m) (n := m') (by omega); omega
   ·have := cnt_two (t := t) (c := c) (m := m) (m' := m') (n := n) (by omega) (by omega) hne; omega
theorem chB_child {t : List S34} {m c : Nat} (h : childOf t m c) : 1 ≤ chB (t.getD m z34) c := by
 unfold chB
 obtain ⟨h1, h2⟩ := h
 rw [if_neg (by omega)]
 rcases h2 with h2 | h2
 ·rw [if_pos h2]; omega
 ·rw [if_pos h2]; omega
abbrev Uq (t : List S34) : Prop := ∀ c, 1 ≤ c → c < t.length → cnt t t.length c = 1
theorem child_rng {t : List S34} (hf : Fm t) {m c : Nat} (hm : m < t.length) (h : childOf t m c) : 1 ≤ c ∧ c < t.length := by
 have := (fmN_iff _ _).1 (hf m hm)
 obtain ⟨h1, h2⟩ := h
 omega
theorem child_one {t : List S34} (hf : Fm t) (hu : Uq t) {m m' c : Nat} (hm : m < t.length) (hm' : m' < t.length) (h : childOf t m c) (h' : childOf t m' c) : m = m' := by
 refine Decidable.byContradiction fun hne => ?_
 have hr := child_rng hf hm h
 have h1 := chB_child h
 have h2 := chB_child h'
 have h3 := cnt_two (t := t) (c := c) hm hm' hne
 have h4 := hu c hr.1 hr.2
 omega
def Up (t : List S34) : Nat → Nat → Nat → Prop
 | 0, p, q => p = q
 | d + 1, p, q => ∃ m, m < t.length ∧ childOf t m p ∧ Up t d m q
theorem up_split {t : List S34} (hf : Fm t) (hu : Uq t) : ∀ {d e p a b : Nat}, Up t d p a → Up t (d + e) p b → Up t e a b
 | 0, e, p, a, b, h, h' => by obtain rfl := h; rwa [Nat.zero_add] at h'
 | d + 1, e, p, a, b, ⟨m, hm, hc, h⟩, h' => by
  rw [Nat.add_right_comm] at h'
  obtain ⟨m', hm', hc', h'⟩ := h'
  obtain rfl := child_one hf hu hm hm' hc hc'
  exact up_split hf hu h h'
theorem up_trans {t : List S34} : ∀ {d e p a b : Nat}, Up t d p a → Up t e a b → Up t (d + e) p b
 | 0, e, p, a, b, h, h' => by obtain rfl := h; rwa [Nat.zero_add]
 | d + 1, e, p, a, b, ⟨m, hm, hc, h⟩, h' => by rw [Nat.add_right_comm]; exact ⟨m, hm, hc, up_trans h h'⟩
theorem no_cycle {t : List S34} (hf : Fm t) (hu : Uq t) {i c : Nat} (hc : Up t (c + 1) i i) : ∀ n e : Nat, e ≤ n → Up t e i 0 → False := by
 intro n
 induction n with
 | zero =>
  intro e he h
  obtain rfl : e = 0 := by omega
  obtain rfl := h
  obtain ⟨m, hm, hch, _⟩ := hc
  have := child_rng hf hm hch
  omega
 | succ n ih =>
  intro e he h
  by_cases hle : c + 1 ≤ e
  ·obtain ⟨x, rfl⟩ : ∃ x, e = (c + 1) + x := ⟨e - (c + 1), by omega⟩
   exact ih x (by omega) (up_split hf hu hc h)
  ·obtain ⟨x, hx⟩ : ∃ x, c + 1 = e + (x + 1) := ⟨c - e, by omega⟩
   rw [hx] at hc
   obtain ⟨m, hm, hch, _⟩ := up_split hf hu h hc
   have := child_rng hf hm hch
   omega
theorem up_list {t : List S34} (hf : Fm t) (hu : Uq t) : ∀ (d i : Nat), i < t.length → Up t d i 0 → ∃ L : List Nat, L.length = d + 1 ∧ L.Nodup ∧ (∀ x ∈ L, x < t.length) ∧ ∀ x ∈ L, ∃ c, Up t c i x
 | 0, i, hi, h => ⟨[i], rfl, by simp, by simpa using hi, fun x hx => ⟨0, by simp at hx; exact hx.symm⟩⟩
 | d + 1, i, hi, h => by
  have h0 := h
  obtain ⟨m, hm, hc, h⟩ := h
  obtain ⟨L, h1, h2, h3, h4⟩ := up_list hf hu d m hm h
  refine ⟨i :: L, by simp [h1], List.nodup_cons.2 ⟨fun hin => ?_, h2⟩, fun x hx => ?_, fun x hx => ?_⟩
  ·obtain ⟨c, hc'⟩ := h4 i hin
   exact no_cycle hf hu (c := c) ⟨m, hm, hc, hc'⟩ (d + 1) (d + 1) (Nat.le_refl _) h0
  ·rcases List.mem_cons.1 hx with rfl | hx
   ·exact hi
   ·exact h3 x hx
  ·rcases List.mem_cons.1 hx with rfl | hx
   ·exact ⟨0, rfl⟩
   ·obtain ⟨c, hc'⟩ := h4 x hx
    exact ⟨c + 1, m, hm, hc, hc'⟩
theorem up_lt {t : List S34} (hf : Fm t) (hu : Uq t) {d i : Nat} (hi : i < t.length) (h : Up t d i 0) : d < t.length := by
 obtain ⟨L, h1, h2, h3, _⟩ := up_list hf hu d i hi h
 have := List.Nodup.length_le_of_subset h2 (l₂ := List.range t.length) (fun x hx => List.mem_range.2 (h3 x hx))
 rw [List.length_range] at this
 omega
theorem mk_total {t : List S34} (hf : Fm t) (hu : Uq t) : ∀ (k i d : Nat), i < t.length → Up t d i 0 → d + k = t.length → ∃ T, mkT t k i = some T := by
 intro k
 induction k with
 | zero => intro i d hi h hd; have := up_lt hf hu hi h; omega
 | succ k ih =>
  intro i d hi h hd
  have hfm := (fmN_iff _ _).1 (hf i hi)
  rw [mkT, if_pos hi]
  by_cases h4 : 0 ≤ (t.getD i z34).f4
  ·rw [if_pos h4]
   obtain ⟨l, hl⟩ := ih (t.getD i z34).f4.toNat (d + 1) (by omega) ⟨i, hi, ⟨h4, .inl rfl⟩, h⟩ (by omega)
   obtain ⟨r, hr⟩ := ih (t.getD i z34).f5.toNat (d + 1) (by omega) ⟨i, hi, ⟨h4, .inr rfl⟩, h⟩ (by omega)
   exact ⟨_, by rw [hl, Option.bind_some, hr, Option.bind_some]⟩
  ·exact ⟨_, if_neg h4⟩
theorem mem_up {t : List S34} (hf : Fm t) : ∀ (k i : Nat) (T : Tr), mkT t k i = some T → ∀ p : Nat, (p : Int) ∈ plT T → ∃ d, Up t d p i := by
 intro k
 induction k with
 | zero => intro i T h; simp [mkT] at h
 | succ k ih =>
  intro i T h p hp
  by_cases hl : (t.getD i z34).f4 = -1 ∧ (t.getD i z34).f5 = -1
  ·obtain ⟨hi, rfl⟩ := mkT_leaf hf h hl
   simp only [plT, List.append_nil, List.mem_singleton] at hp
   exact ⟨0, (by omega : p = i)⟩
  ·obtain ⟨k', l, r, hk, hi, h1, h2, rfl⟩ := mkT_inner hf h hl
   obtain rfl : k = k' := by omega
   have hfm := (fmN_iff _ _).1 (hf i hi)
   simp only [plT, List.mem_cons, List.mem_append] at hp
   rcases hp with hp | hp | hp
   ·exact ⟨0, (by omega : p = i)⟩
   ·obtain ⟨d, hd⟩ := ih _ l h1 p hp
    exact ⟨d + 1, up_trans hd (show Up t 1 _ i from ⟨i, hi, ⟨by omega, .inl rfl⟩, rfl⟩)⟩
   ·obtain ⟨d, hd⟩ := ih _ r h2 p hp
    exact ⟨d + 1, up_trans hd (show Up t 1 _ i from ⟨i, hi, ⟨by omega, .inr rfl⟩, rfl⟩)⟩
theorem up_two {t : List S34} (hf : Fm t) (hu : Uq t) {i a b d1 d2 p e : Nat} (hi : i < t.length) (ha : childOf t i a) (hb : childOf t i b) (hab : a ≠ b) (h1 : Up t d1 p a) (h2 : Up t d2 p b) (he : Up t e i 0) (hle : d1 ≤ d2) : False := by
 obtain ⟨x, rfl⟩ : ∃ x, d2 = d1 + x := ⟨d2 - d1, by omega⟩
 have h := up_split hf hu h1 h2
 cases x with
 | zero => exact hab h
 | succ x =>
  obtain ⟨m, hm, hc, h⟩ := h
  obtain rfl := child_one hf hu hm hi hc ha
  exact no_cycle hf hu (up_trans h (show Up t 1 b m from ⟨m, hi, hb, rfl⟩)) e e (Nat.le_refl _) he
theorem mk_nodup {t : List S34} (hf : Fm t) (hu : Uq t) : ∀ (k i : Nat) (T : Tr), mkT t k i = some T → (∃ e, Up t e i 0) → (plT T).Nodup := by
 intro k
 induction k with
 | zero => intro i T h; simp [mkT] at h
 | succ k ih =>
  intro i T h ⟨e, he⟩
  by_cases hl : (t.getD i z34).f4 = -1 ∧ (t.getD i z34).f5 = -1
  ·obtain ⟨hi, rfl⟩ := mkT_leaf hf h hl
   simp [plT]
  ·obtain ⟨k', l, r, hk, hi, h1, h2, rfl⟩ := mkT_inner hf h hl
   obtain rfl : k = k' := by omega
   have hfm := (fmN_iff _ _).1 (hf i hi)
   have ca : childOf t i (t.getD i z34).f4.toNat := ⟨by omega, .inl rfl⟩
   have cb : childOf t i (t.getD i z34).f5.toNat := ⟨by omega, .inr rfl⟩
   have no : ∀ {j : Nat} {S : Tr}, mkT t k j = some S → childOf t i j → (i : Int) ∉ plT S := fun {j S} hS hc hin => by
    obtain ⟨d, hd⟩ := mem_up hf _ _ _ hS i hin
    exact no_cycle hf hu (up_trans hd (show Up t 1 j i from ⟨i, hi, hc, rfl⟩)) e e (Nat.le_refl _) he
   rw [plT, List.nodup_cons, List.mem_append, not_or, List.nodup_append]
   refine ⟨⟨no h1 ca, no h2 cb⟩, ih _ l h1 ⟨e + 1, i, hi, ca, he⟩, ih _ r h2 ⟨e + 1, i, hi, cb, he⟩, fun p hp q hq hpq => ?_⟩
   subst hpq
   have h0 := (plT_mem _ _ _ h1).2 p hp
   obtain ⟨x, rfl⟩ : ∃ x : Nat, p = x := ⟨p.toNat, by omega⟩
   obtain ⟨d1, u1⟩ := mem_up hf _ _ _ h1 x hp
   obtain ⟨d2, u2⟩ := mem_up hf _ _ _ h2 x hq
   rcases Nat.le_total d1 d2 with hle | hle
   ·exact up_two hf hu hi ca cb (by omega) u1 u2 he hle
   ·exact up_two hf hu hi cb ca (by omega) u2 u1 he hle
def sumF (t : List S34) (c : Nat) : List Int → Nat
 | [] => 0
 | p :: ps => chB (t.getD p.toNat z34) c + sumF t c ps
theorem sumF_app (t : List S34) (c : Nat) : ∀ a b, sumF t c (a ++ b) = sumF t c a + sumF t c b
 | [], b => by simp [sumF]
 | p :: a, b => by rw [List.cons_append, sumF, sumF, sumF_app t c a b, Nat.add_assoc]
theorem sumF_perm {t : List S34} {c : Nat} {a b : List Int} (h : a.Perm b) : sumF t c a = sumF t c b := by
 induction h with
 | nil => rfl
 | cons x _ ih => rw [sumF, sumF, ih]
 | swap x y l => simp only [sumF]; omega
 | trans _ _ h1 h2 => rw [h1, h2]
theorem sumF_range (t : List S34) (c : Nat) : ∀ m, sumF t c ((List.range m).map (fun (i : Nat) => (i : Int))) = cnt t m c
 | 0 => rfl
 | m + 1 => by rw [List.range_succ, List.map_append, sumF_app, sumF_range t c m, cnt]; simp [sumF]
theorem tree_cnt {t : List S34} (hf : Fm t) (c : Nat) : ∀ (k i : Nat) (T : Tr), mkT t k i = some T → sumF t c (plT T) + (if i = c then 1 else 0) = (plT T).count (c : Int) := by
 intro k
 induction k with
 | zero => intro i T h; simp [mkT] at h
 | succ k ih =>
  intro i T h
  by_cases hl : (t.getD i z34).f4 = -1 ∧ (t.getD i z34).f5 = -1
  ·obtain ⟨hi, rfl⟩ := mkT_leaf hf h hl
   simp only [plT, List.append_nil, sumF, Int.toNat_natCast, chB, if_pos hl.1, List.count_cons, List.count_nil]
   by_cases e : i = c
   ·simp [e]
   ·simp [e]; omega
  ·obtain ⟨k', l, r, hk, hi, h1, h2, rfl⟩ := mkT_inner hf h hl
   obtain rfl : k = k' := by omega
   have hfm := (fmN_iff _ _).1 (hf i hi)
   have i1 := ih _ l h1
   have i2 := ih _ r h2
   have hc : chB (t.getD i z34) c = (if (t.getD i z34).f4.toNat = c then 1 else 0) + (if (t.getD i z34).f5.toNat = c then 1 else 0) := if_neg (by omega)
   rw [plT, sumF, sumF_app, Int.toNat_natCast, hc, List.count_cons, List.count_append, ← i1, ← i2]
   have : ((i : Int) == (c : Int)) = decide (i = c) := by rw [Bool.eq_iff_iff]; simp; omega
   rw [this]
   by_cases e : i = c
   ·simp [e]; omega
   ·simp [e]; omega
theorem perm_range : ∀ (n : Nat) (l : List Int), l.Nodup → (∀ x ∈ l, 0 ≤ x ∧ x < n) → l.length = n → l.Perm ((List.range n).map (fun (i : Nat) => (i : Int)))
 | 0, l, _, _, h => by rw [List.length_eq_zero_iff.1 h]; exact List.Perm.nil
 | n + 1, l, hn, hb, h => by
  have hin : (n : Int) ∈ l := by
   refine Decidable.byContradiction fun hni => ?_
   have := List.Nodup.length_le_of_subset hn (l₂ := (List.range n).map (fun (i : Nat) => (i : Int))) (fun x hx => by
    have h1 := hb x hx
    have h2 : x ≠ n := fun e => hni (e ▸ hx)
    exact List.mem_map.2 ⟨x.toNat, List.mem_range.2 (by omega), by omega⟩)
   rw [List.length_map, List.length_range] at this
   omega
  have hp := List.perm_cons_erase hin
  have hn' := hp.nodup_iff.1 hn
  rw [List.nodup_cons] at hn'
  have := perm_range n (l.erase (n : Int)) hn'.2 (fun x hx => by
   have h1 := hb x (List.mem_of_mem_erase hx)
   have h2 : x ≠ n := fun e => hn'.1 (e ▸ hx)
   omega) (by have := hp.length_eq; rw [List.length_cons] at this; omega)
  rw [List.range_succ, List.map_append]
  exact hp.trans ((this.cons _).trans (List.perm_append_comm (l₁ := [(n : Int)])))
theorem good_uq {t : List S34} {T : Tr} (hg : Good t T) : Uq t := by
 intro c hc hcl
 have hp := perm_range t.length (plT T) hg.nodup (plT_mem _ _ _ hg.tree).2 hg.all
 have h := tree_cnt hg.form c _ _ _ hg.tree
 rw [sumF_perm hp, sumF_range, if_neg (by omega), Nat.add_zero] at h
 rw [h]
 have hm : (c : Int) ∈ plT T := hp.mem_iff.2 (List.mem_map.2 ⟨c, List.mem_range.2 hcl, rfl⟩)
 have h1 := List.nodup_iff_count.1 hg.nodup (c : Int)
 have h2 := List.count_pos_iff.2 hm
 omega
theorem wi {i : Nat} (h : i ≤ 10000000) : wrap64 ((i : Int) + 1) = ((i + 1 : Nat) : Int) := by rw [Go.IntWalk.wrap64_in _ (by omega)]; rfl
theorem rc_l0_bad {t : List S34} (hlen : t.length ≤ 100000) : ∀ (d i k : Nat) (x3 : List Int), i + d = t.length → d + 2 < k → x3.length = t.length → (∀ j, j < i → fmN (t.getD j z34) t.length = true) → ¬ Fm t → larchref16_Check.l0 k t x3 i = some 3 := by
 intro d
 induction d with
 | zero =>
  intro i k x3 hi hk hx hpre hb
  exact absurd (fun j hj => hpre j (by omega)) hb
 | succ d ih =>
  intro i k x3 hi hk hx hpre hb
  obtain ⟨k, rfl⟩ : ∃ x, k = x + 3 := ⟨k - 3, by omega⟩
  rw [larchref16_Check.l0, if_pos (by omega), if_pos (by omega), show rd_T34 t (i : Int) = t.getD i z34 from rfl, refnode_f, Option.bind_some]
  cases hn : fmN (t.getD i z34) t.length with
  | false => rw [if_neg (by simp)]
  | true =>
   have hfm := (fmN_iff _ _).1 hn
   have hpre' : ∀ j, j < i + 1 → fmN (t.getD j z34) t.length = true := fun j hj => by
    by_cases e : j = i
    ·rw [e]; exact hn
    ·exact hpre j (by omega)
   rw [if_pos rfl]
   by_cases h4 : (t.getD i z34).f4 = -1
   ·rw [if_pos h4, Go.IntWalk.wrap64_in _ (by omega)]
    exact ih (i + 1) (k + 2) x3 (by omega) (by omega) hx hpre' hb
   ·rw [if_neg h4, if_pos (by omega), if_pos (by omega), Option.bind_some, if_pos (by omega), if_pos (by omega), wi (i := i) (by omega)]
    exact ih (i + 1) (k + 2) _ (by omega) (by omega) (by rw [List.length_set, List.length_set]; exact hx) hpre' hb
theorem rc_l0 {t : List S34} (hlen : t.length ≤ 100000) (hf : Fm t) : ∀ (d i k : Nat) (x3 : List Int), i + d = t.length → x3.length = t.length → (∀ c, c < t.length → rd x3 c = cnt t i c) →
  ∃ x3', x3'.length = t.length ∧ (∀ c, c < t.length → rd x3' c = cnt t t.length c) ∧ larchref16_Check.l0 (k + d + 3) t x3 i = larchref16_Check.l1 (k + 2) t x3' ((1 : Nat) : Int) := by
 intro d
 induction d with
 | zero =>
  intro i k x3 hi hx hc
  obtain rfl : i = t.length := by omega
  exact ⟨x3, hx, hc, by rw [larchref16_Check.l0, if_neg (by omega)]; rfl⟩
 | succ d ih =>
  intro i k x3 hi hx hc
  have hn := hf i (by omega)
  have hfm := (fmN_iff _ _).1 hn
  rw [show k + (d + 1) + 3 = (k + d + 3) + 1 from rfl, larchref16_Check.l0, if_pos (by omega), if_pos (by omega), show rd_T34 t (i : Int) = t.getD i z34 from rfl, refnode_f, Option.bind_some, hn, if_pos rfl]
  by_cases h4 : (t.getD i z34).f4 = -1
  ·rw [if_pos h4, Go.IntWalk.wrap64_in _ (by omega)]
   exact ih (i + 1) k x3 (by omega) hx (fun c hcl => by rw [hc c hcl, cnt, chB, if_pos h4, Nat.add_zero])
  ·have hb4 := cnt_le t (t.getD i z34).f4.toNat i
   have hb5 := cnt_le t (t.getD i z34).f5.toNat i
   have r4 := hc (t.getD i z34).f4.toNat (by omega)
   have r5 := hc (t.getD i z34).f5.toNat (by omega)
   rw [Int.toNat_of_nonneg (by omega)] at r4 r5
   have e5 : rd (x3.set (t.getD i z34).f4.toNat (wrap64 (rd x3 (t.getD i z34).f4 + 1))) (t.getD i z34).f5 = rd x3 (t.getD i z34).f5 := by
    simp only [rd]
    rw [getD_set_ne _ _ _ (by omega)]
   rw [if_neg h4, if_pos (by omega), if_pos (by omega), Option.bind_some, if_pos (by omega), if_pos (by omega), e5, r4, r5, Go.IntWalk.wrap64_in _ (by omega), Go.IntWalk.wrap64_in _ (by omega), Go.IntWalk.wrap64_in _ (by omega)]
   refine ih (i + 1) k _ (by omega) (by rw [List.length_set, List.length_set]; exact hx) (fun c hcl => ?_)
   have h0 := hc c hcl
   rw [cnt, chB, if_neg h4]
   simp only [rd, Int.toNat_natCast] at h0 ⊢
   by_cases e2 : (t.getD i z34).f5.toNat = c
   ·rw [← e2, getD_set_eq _ _ _ (by rw [List.length_set]; omega), if_neg (by omega), if_pos rfl]
    omega
   ·rw [getD_set_ne _ _ _ e2, if_neg e2]
    by_cases e1 : (t.getD i z34).f4.toNat = c
    ·rw [← e1, getD_set_eq _ _ _ (by omega), if_pos rfl]
     omega
    ·rw [getD_set_ne _ _ _ e1, if_neg e1, h0]
     omega
theorem rc_l1_bad {t : List S34} (hlen : t.length ≤ 100000) {x3 : List Int} (hx : x3.length = t.length) (hc : ∀ c, c < t.length → rd x3 c = cnt t t.length c) : ∀ (d i k : Nat), i + d = t.length → d < k → (∀ c, 1 ≤ c → c < i → cnt t t.length c = 1) → 1 ≤ i → ¬ Uq t → larchref16_Check.l1 k t x3 i = some 3 := by
 intro d
 induction d with
 | zero =>
  intro i k hi hk hpre h1 hb
  exact absurd (fun c hc1 hcl => hpre c hc1 (by omega)) hb
 | succ d ih =>
  intro i k hi hk hpre h1 hb
  obtain ⟨k, rfl⟩ : ∃ x, k = x + 1 := ⟨k - 1, by omega⟩
  rw [larchref16_Check.l1, if_pos (by omega), if_pos (by omega), if_pos (by omega), hc i (by omega)]
  by_cases e : cnt t t.length i = 1
  ·rw [if_pos (by omega), Go.IntWalk.wrap64_in _ (by omega)]
   exact ih (i + 1) k (by omega) (by omega) (fun c hc1 hcl => by
    by_cases e2 : c = i
    ·rw [e2]; exact e
    ·exact hpre c hc1 (by omega)) (by omega) hb
  ·rw [if_neg (by omega)]
theorem rc_l1 {t : List S34} (hlen : t.length ≤ 100000) {x3 : List Int} (hx : x3.length = t.length) (hc : ∀ c, c < t.length → rd x3 c = cnt t t.length c) (hu : Uq t) : ∀ (d i k : Nat), i + d = t.length → 1 ≤ i → larchref16_Check.l1 (k + d + 1) t x3 i = larchref16_Check.l2 k t 0 [0] := by
 intro d
 induction d with
 | zero => intro i k hi h1; rw [larchref16_Check.l1, if_neg (by omega)]
 | succ d ih =>
  intro i k hi h1
  rw [show k + (d + 1) + 1 = (k + d + 1) + 1 from rfl, larchref16_Check.l1, if_pos (by omega), if_pos (by omega), if_pos (by omega), hc i (by omega), hu i h1 (by omega), if_pos (by omega), Go.IntWalk.wrap64_in _ (by omega)]
  exact ih (i + 1) k (by omega) (by omega)
theorem rc_l2 {t : List S34} (hlen : t.length ≤ 100000) (hf : Fm t) (K : Nat) : ∀ (k seen : Nat) (s ps : List Int), plF t K s = some ps → ps.length < k → seen + ps.length ≤ 1000000 →
  larchref16_Check.l2 k t seen s.reverse = some (if seen + ps.length = t.length then 0 else 3) := by
 intro k
 induction k with
 | zero => intro seen s ps _ h; exact absurd h (by omega)
 | succ k ih =>
  intro seen s ps hp hk ho
  cases s with
  | nil =>
   rw [plF] at hp
   injection hp with hp
   subst hp
   rw [List.reverse_nil, larchref16_Check.l2, if_neg (by simp)]
   by_cases e : seen = t.length
   ·rw [if_pos (by omega), if_pos (by simpa using e)]
   ·rw [if_neg (by omega), if_neg (by simpa using e)]
  | cons i s =>
   obtain ⟨T, q, h0, hT, hq, rfl⟩ := plF_cons hp
   have hsl := plF_len hp
   rw [List.length_cons, List.length_append] at hsl
   rw [List.length_append] at hk ho ⊢
   have e : (i :: s).reverse = s.reverse ++ [i] := List.reverse_cons
   have hl : s.reverse.length = s.length := List.length_reverse
   rw [e]
   have h1 : wrap64 (((s.reverse ++ [i]).length : Int) - 1) = s.length := by rw [List.length_append, List.length_singleton, hl, Go.IntWalk.wrap64_in _ (by omega)]; omega
   have h2 : rd (s.reverse ++ [i]) (s.length : Int) = i := by simp [rd]
   have h3 : (s.reverse ++ [i]).take ((s.length : Int)).toNat = s.reverse := by rw [Int.toNat_natCast, ← hl, List.take_left]
   cases K with
   | zero => simp [mkT] at hT
   | succ K =>
    have hi : i.toNat < t.length := by
     rw [mkT] at hT
     split at hT
     ·assumption
     ·exact absurd hT (by simp)
    rw [larchref16_Check.l2, h1, h2, h3, if_pos (by rw [List.length_append, List.length_singleton]; omega), if_pos (by omega), if_pos (by rw [List.length_append, List.length_singleton]; omega), if_pos h0, if_pos (by omega), if_pos (by rw [List.length_append, List.length_singleton]; omega), Option.bind_some, show rd_T34 t i = t.getD i.toNat z34 from rfl, Go.IntWalk.wrap64_in _ (by omega)]
    by_cases hlf : (t.getD i.toNat z34).f4 = -1 ∧ (t.getD i.toNat z34).f5 = -1
    ·obtain ⟨_, rfl⟩ := mkT_leaf hf hT hlf
     rw [if_pos hlf.1]
     have := ih (seen + 1) s q hq (by simp only [plT, List.length_cons, List.length_append, List.length_nil] at hk; omega) (by simp only [plT, List.length_cons, List.length_append, List.length_nil] at ho; omega)
     rw [show ((seen : Int) + 1) = ((seen + 1 : Nat) : Int) by omega, this]
     congr 1
     simp only [plT, List.length_cons, List.length_append, List.length_nil]
     rw [show seen + 1 + q.length = seen + (0 + 0 + 1 + q.length) by omega]
    ·obtain ⟨k', l, r, hk', _, m1, m2, rfl⟩ := mkT_inner hf hT hlf
     obtain rfl : K = k' := by omega
     have hfm := (fmN_iff _ _).1 (hf i.toNat hi)
     simp only [plT, List.length_cons, List.length_append] at hk ho hsl
     have hp2 := plF_mk (i := (t.getD i.toNat z34).f5) (by omega) (mkT_mono t _ _ _ m2) (plF_mk (i := (t.getD i.toNat z34).f4) (by omega) (mkT_mono t _ _ _ m1) hq)
     rw [if_neg (by omega), Option.bind_some, if_pos (by rw [hl]; simp; omega)]
     have := ih (seen + 1) _ _ hp2 (by simp only [List.length_append]; omega) (by simp only [List.length_append]; omega)
     rw [show s.reverse ++ [(t.getD i.toNat z34).f4, (t.getD i.toNat z34).f5] = ((t.getD i.toNat z34).f5 :: (t.getD i.toNat z34).f4 :: s).reverse by simp, show ((seen : Int) + 1) = ((seen + 1 : Nat) : Int) by omega, this]
     congr 1
     simp only [plT, List.length_cons, List.length_append]
     rw [show seen + 1 + ((plT r).length + ((plT l).length + q.length)) = seen + ((plT l).length + (plT r).length + 1 + q.length) by omega]
theorem check_03 (t : List S34) : ∀ (k i : Nat) (r : Int), table_Check.l0 k t t t.length i = some r → i ≤ t.length → t.length ≤ 100000 → r = 0 ∨ r = 3 := by
 intro k
 induction k with
 | zero => intro i r h; simp [table_Check.l0] at h
 | succ k ih =>
  intro i r h hi hlen
  rw [table_Check.l0] at h
  split at h
  ·split at h
   ·obtain ⟨b, hb, h⟩ := Option.bind_eq_some_iff.1 h
    split at h
    ·rw [wi (i := i) (by omega)] at h
     exact ih (i + 1) r h (by omega) hlen
    ·exact .inr (Option.some.inj h).symm
   ·exact absurd h (by simp)
  ·obtain ⟨b, hb, h⟩ := Option.bind_eq_some_iff.1 h
   split at h
   ·exact .inl (Option.some.inj h).symm
   ·exact .inr (Option.some.inj h).symm
theorem checks_alike (t : List S34) : ∃ k v, table_Check.f k t = some v ∧ larchref16_Check.f k t = some v ∧ (v = 0 → ∃ T, Good t T) := by
 obtain ⟨k0, r0, h0, hr0⟩ := check_total t
 have bnd : ∀ {k'}, larchref16_Check.f k' t = some r0 → ∃ k v, table_Check.f k t = some v ∧ larchref16_Check.f k t = some v ∧ (v = 0 → ∃ T, Good t T) := fun {k'} h => ⟨max k0 k', r0, up_to (fun k => table_Check.mono t k) (Nat.le_max_left _ _) h0, up_to (fun k => larchref16_Check.mono t k) (Nat.le_max_right _ _) h, hr0⟩
 unfold table_Check.f at h0
 by_cases h1 : (t.length : Int) > 100000
 ·rw [if_pos h1] at h0
  exact bnd (k' := 0) (by unfold larchref16_Check.f; rw [if_pos h1]; exact h0)
 ·rw [if_neg h1] at h0
  by_cases h2 : (t.length : Int) = 0
  ·rw [if_pos h2] at h0
   exact bnd (k' := 0) (by unfold larchref16_Check.f; rw [if_neg h1, if_pos h2]; exact h0)
  ·rw [if_neg h2] at h0
   have hlen : t.length ≤ 100000 := by omega
   have h03 := check_03 t k0 0 r0 h0 (Nat.zero_le _) hlen
   have rep : ∀ c, c < t.length → rd (List.replicate t.length (0 : Int)) c = cnt t 0 c := fun c hc => by simp [rd, cnt, List.getD, List.getElem?_replicate, hc]
   have start : ∀ k, larchref16_Check.f k t = larchref16_Check.l0 k t (List.replicate t.length 0) ((0 : Nat) : Int) := fun k => by
    unfold larchref16_Check.f
    rw [if_neg h1, if_neg h2, if_pos (by omega), if_pos (by omega), Int.toNat_natCast]
    rfl
   by_cases hf : Fm t
   ·obtain ⟨x3, hx, hc, e0⟩ := rc_l0 hlen hf t.length 0 (2 * t.length + 5) _ (by omega) List.length_replicate rep
    by_cases hu : Uq t
    ·obtain ⟨T, hT⟩ := mk_total hf hu t.length 0 0 (by omega) rfl (by omega)
     have hn := mk_nodup hf hu _ _ _ hT ⟨0, rfl⟩
     have hle : (plT T).length ≤ t.length := by
      have := List.Nodup.length_le_of_subset hn (l₂ := (List.range t.length).map (fun (i : Nat) => (i : Int))) (fun x hx => by
       have h1 := (plT_mem _ _ _ hT).2 x hx
       exact List.mem_map.2 ⟨x.toNat, List.mem_range.2 (by omega), by omega⟩)
      rw [List.length_map, List.length_range] at this
      exact this
     have hp := plF_mk (i := 0) (by omega) hT (plF.eq_1 t t.length)
     rw [List.append_nil] at hp
     have e2 := rc_l2 hlen hf t.length (t.length + 8) 0 [0] (plT T) hp (by omega) (by omega)
     have e1 := rc_l1 hlen hx hc hu (t.length - 1) 1 (t.length + 8) (by omega) (by omega)
     rw [show t.length + 8 + (t.length - 1) + 1 = (2 * t.length + 5) + 2 + 1 by omega] at e1
     have hk : larchref16_Check.f ((2 * t.length + 6) + t.length + 3) t = some (if (plT T).length = t.length then 0 else 3) := by
      obtain ⟨x3', hx', hc', e0'⟩ := rc_l0 hlen hf t.length 0 (2 * t.length + 6) _ (by omega) List.length_replicate rep
      have e1' := rc_l1 hlen hx' hc' hu (t.length - 1) 1 (t.length + 8) (by omega) (by omega)
      rw [show t.length + 8 + (t.length - 1) + 1 = (2 * t.length + 6) + 2 by omega] at e1'
      have e2' := e2
      rw [show ([0] : List Int).reverse = [0] from rfl, Nat.zero_add, show ((0 : Nat) : Int) = 0 from rfl] at e2'
      rw [start, e0', e1', e2']
     refine bnd (hk.trans ?_)
     congr 1
     by_cases ha : (plT T).length = t.length
     ·have hg : Good t T := ⟨hlen, hf, hT, hn, ha⟩
      obtain ⟨kk, hkk⟩ := check_good hg
      have := up_to (fun k => table_Check.mono t k) (Nat.le_max_left k0 kk) (by unfold table_Check.f; rw [if_neg h1, if_neg h2]; exact h0)
      rw [up_to (fun k => table_Check.mono t k) (Nat.le_max_right k0 kk) hkk] at this
      rw [if_pos ha]
      exact Option.some.inj this
     ·rw [if_neg ha]
      rcases h03 with e | e
      ·obtain ⟨T', hg'⟩ := hr0 e
       have := hg'.tree
       rw [hT] at this
       obtain rfl := Option.some.inj this
       exact absurd hg'.all ha
      ·exact e.symm
    ·refine bnd (k' := (2 * t.length + 5) + t.length + 3) ?_
     rw [start, e0, rc_l1_bad hlen hx hc (t.length - 1) 1 _ (by omega) (by omega) (fun c h1 h2 => by omega) (Nat.le_refl _) hu]
     rcases h03 with e | e
     ·obtain ⟨T', hg'⟩ := hr0 e
      exact absurd (good_uq hg') hu
     ·rw [e]
   ·refine bnd (k' := t.length + 3) ?_
    rw [start, rc_l0_bad hlen t.length 0 _ _ (by omega) (by omega) List.length_replicate (fun j hj => absurd hj (by omega)) hf]
    rcases h03 with e | e
    ·obtain ⟨T', hg'⟩ := hr0 e
     exact absurd hg'.form hf
    ·rw [e]
def infB (t : List S34) (p : Int) : Bool := decide ((t.getD p.toNat z34).f1 = 0)
theorem drop_cons {ps : List Int} {i : Nat} (h : i < ps.length) : ps.drop i = ps.getD i 0 :: ps.drop (i + 1) := by
 rw [List.drop_eq_getElem_cons h, List.getD, List.getElem?_eq_getElem h, Option.getD_some]
theorem getD_mem {ps : List Int} {i : Nat} (h : i < ps.length) : ps.getD i 0 ∈ ps := by rw [List.getD, List.getElem?_eq_getElem h, Option.getD_some]; exact List.getElem_mem _
theorem root_all (t : List S34) (v0 v1 v2 v3 v4 v5 : Int) (ps : List Int) (hp : ∀ p ∈ ps, 0 ≤ p ∧ p < t.length) (hlen : ps.length ≤ 1000000) : ∀ (d i k : Nat), i + d = ps.length → d < k →
  table_Root.l0 k t ps ps.length i v0 v1 v2 v3 v4 v5 = some (if (ps.drop i).all (infB t) then (v4, 0) else (0, 3)) := by
 intro d
 induction d with
 | zero =>
  intro i k hi hk
  obtain ⟨k, rfl⟩ : ∃ x, k = x + 1 := ⟨k - 1, by omega⟩
  rw [table_Root.l0, if_neg (by omega), List.drop_eq_nil_of_le (by omega), List.all_nil, if_pos rfl]
 | succ d ih =>
  intro i k hi hk
  obtain ⟨k, rfl⟩ : ∃ x, k = x + 1 := ⟨k - 1, by omega⟩
  have hr := hp _ (getD_mem (show i < ps.length by omega))
  rw [table_Root.l0, if_pos (by omega), if_pos (by omega), if_pos (by omega), show rd ps (i : Int) = ps.getD i 0 from rfl, show rd_T34 t (ps.getD i 0) = t.getD (ps.getD i 0).toNat z34 from rfl, if_pos hr.1, if_pos hr.2, drop_cons (by omega), List.all_cons]
  by_cases e : (t.getD (ps.getD i 0).toNat z34).f1 = 0
  ·rw [if_pos e, wi (i := i) (by omega), ih (i + 1) k (by omega) (by omega), infB, decide_eq_true e, Bool.true_and]
  ·rw [if_neg e, infB, decide_eq_false e, Bool.false_and, if_neg (by simp)]
theorem crown_all (t : List S34) (x4 : Int) (h4 : 0 ≤ x4 ∧ x4 < t.length) (ps : List Int) (hp : ∀ p ∈ ps, 0 ≤ p ∧ p < t.length) (hlen : ps.length ≤ 1000000) : ∀ (d i k : Nat), i + d = ps.length → d < k →
  larchref16_Crown.l0 k t x4 ps i = some (if (ps.drop i).all (infB t) then ((t.getD x4.toNat z34).f4, true) else (0, false)) := by
 intro d
 induction d with
 | zero =>
  intro i k hi hk
  obtain ⟨k, rfl⟩ : ∃ x, k = x + 1 := ⟨k - 1, by omega⟩
  rw [larchref16_Crown.l0, if_neg (by omega), if_pos h4.1, if_pos h4.2, List.drop_eq_nil_of_le (by omega), List.all_nil, if_pos rfl]
  rfl
 | succ d ih =>
  intro i k hi hk
  obtain ⟨k, rfl⟩ : ∃ x, k = x + 1 := ⟨k - 1, by omega⟩
  have hr := hp _ (getD_mem (show i < ps.length by omega))
  rw [larchref16_Crown.l0, if_pos (by omega), if_pos (by omega), show rd ps (i : Int) = ps.getD i 0 from rfl, show rd_T34 t (ps.getD i 0) = t.getD (ps.getD i 0).toNat z34 from rfl, if_pos hr.1, if_pos hr.2, drop_cons (by omega), List.all_cons]
  by_cases e : (t.getD (ps.getD i 0).toNat z34).f1 = 0
  ·rw [if_pos e, wi (i := i) (by omega), ih (i + 1) k (by omega) (by omega), infB, decide_eq_true e, Bool.true_and]
  ·rw [if_neg e, infB, decide_eq_false e, Bool.false_and, if_neg (by simp)]
theorem rows_tree {t : List S34} (hlen : t.length ≤ 100000) (hf : Fm t) (K : Nat) : ∀ (k : Nat) (out s ps : List Int), plF t K s = some ps → ps.length < k → out.length + ps.length ≤ 1000000 → larchref16_Rows.l0 k t out s.reverse = some (out ++ ps) := by
 intro k
 induction k with
 | zero => intro out s ps _ h; exact absurd h (by omega)
 | succ k ih =>
  intro out s ps hp hk ho
  cases s with
  | nil =>
   rw [plF] at hp
   injection hp with hp
   subst hp
   rw [List.reverse_nil, larchref16_Rows.l0, if_neg (by simp), List.append_nil]
  | cons i s =>
   obtain ⟨T, q, h0, hT, hq, rfl⟩ := plF_cons hp
   have hsl := plF_len hp
   rw [List.length_cons, List.length_append] at hsl
   rw [List.length_append] at hk ho
   have e : (i :: s).reverse = s.reverse ++ [i] := List.reverse_cons
   have hl : s.reverse.length = s.length := List.length_reverse
   rw [e]
   have h1 : wrap64 (((s.reverse ++ [i]).length : Int) - 1) = s.length := by rw [List.length_append, List.length_singleton, hl, Go.IntWalk.wrap64_in _ (by omega)]; omega
   have h2 : rd (s.reverse ++ [i]) (s.length : Int) = i := by simp [rd]
   have h3 : (s.reverse ++ [i]).take ((s.length : Int)).toNat = s.reverse := by rw [Int.toNat_natCast, ← hl, List.take_left]
   cases K with
   | zero => simp [mkT] at hT
   | succ K =>
    have hi : i.toNat < t.length := by
     rw [mkT] at hT
     split at hT
     ·assumption
     ·exact absurd hT (by simp)
    have hfm := (fmN_iff _ _).1 (hf i.toNat hi)
    rw [larchref16_Rows.l0, h1, h2, h3, if_pos (by rw [List.length_append, List.length_singleton]; omega), if_pos (by omega), if_pos (by rw [List.length_append, List.length_singleton]; omega), if_pos (by rw [List.length_append, List.length_singleton]; omega), Option.bind_some, if_pos (by omega), Option.bind_some, if_pos h0, if_pos (by omega), larchref16_Leaf.f, Option.bind_some, show rd_T34 t i = t.getD i.toNat z34 from rfl]
    by_cases hlf : (t.getD i.toNat z34).f4 = -1 ∧ (t.getD i.toNat z34).f5 = -1
    ·obtain ⟨_, rfl⟩ := mkT_leaf hf hT hlf
     simp only [plT, List.length_cons, List.length_append, List.length_nil] at hk ho
     rw [if_pos (by simpa using hlf.1)]
     have := ih (out ++ [i]) s q hq (by omega) (by rw [List.length_append, List.length_singleton]; omega)
     rw [this, List.append_assoc]
     simp only [plT, List.append_nil, Int.toNat_of_nonneg h0]
    ·obtain ⟨k', l, r, hk', _, m1, m2, rfl⟩ := mkT_inner hf hT hlf
     obtain rfl : K = k' := by omega
     simp only [plT, List.length_cons, List.length_append] at hk ho hsl
     have hp2 := plF_mk (i := (t.getD i.toNat z34).f4) (by omega) (mkT_mono t _ _ _ m1) (plF_mk (i := (t.getD i.toNat z34).f5) (by omega) (mkT_mono t _ _ _ m2) hq)
     rw [if_neg (by simp only [beq_iff_eq]; omega), Option.bind_some, if_pos (by rw [hl]; simp; omega)]
     have := ih (out ++ [i]) _ _ hp2 (by simp only [List.length_append]; omega) (by simp only [List.length_append, List.length_cons, List.length_nil]; omega)
     rw [show s.reverse ++ [(t.getD i.toNat z34).f5, (t.getD i.toNat z34).f4] = ((t.getD i.toNat z34).f4 :: (t.getD i.toNat z34).f5 :: s).reverse by simp, this]
     simp only [plT, List.append_assoc, Int.toNat_of_nonneg h0, List.cons_append, List.nil_append]
theorem end_f {t : List S34} (n : S34) (hn : fmN n t.length = true) : larchref16_end.f n.f0 n.f1 n.f2 n.f3 n.f4 n.f5 = some (snB n) := by
 have h := (fmN_iff _ _).1 hn
 unfold larchref16_end.f larchref16_Leaf.f
 rw [Option.bind_some]
 have hs := sent_iff n
 by_cases h4 : n.f4 = -1
 ·rw [if_pos (by simpa using h4)]
  by_cases h1 : n.f1 = 1
  ·rw [if_pos h1]
   congr 1
   rw [Bool.eq_iff_iff]
   simp only [snB, Bool.and_eq_true, beq_iff_eq]
   omega
  ·rw [if_neg h1]
   congr 1
   rw [eq_comm, Bool.eq_false_iff]
   intro e
   exact h1 (by rw [hs.1 e]; rfl)
 ·rw [if_neg (by simpa using h4)]
  congr 1
  rw [eq_comm, Bool.eq_false_iff]
  intro e
  exact h4 (by rw [hs.1 e]; rfl)
theorem top_f {t : List S34} (hf : Fm t) (i : Int) (h0 : 0 ≤ i) (hi : i < t.length) : ∃ b, larchref16_top.f t i = some b ∧ (b = true ↔ crP t (t.getD i.toNat z34)) := by
 have hfm := (fmN_iff _ _).1 (hf i.toNat (by omega))
 unfold larchref16_top.f larchref16_Leaf.f
 rw [if_pos h0, if_pos hi, Option.bind_some, show rd_T34 t i = t.getD i.toNat z34 from rfl]
 generalize t.getD i.toNat z34 = n at hfm ⊢
 by_cases h4 : n.f4 = -1
 ·exact ⟨false, by rw [if_pos (by simpa using h4)], by simp only [crP, Bool.false_eq_true, false_iff]; omega⟩
 ·rw [if_neg (by simpa using h4)]
  by_cases h1 : n.f1 = 1
  ·rw [if_pos h1]
   by_cases h2 : n.f2 = 1
   ·rw [if_pos h2, if_pos (by omega), if_pos (by omega), show rd_T34 t n.f5 = t.getD n.f5.toNat z34 from rfl, end_f _ (hf n.f5.toNat (by omega)), Option.bind_some]
    refine ⟨_, rfl, ?_⟩
    rw [sent_iff]
    exact ⟨fun h => ⟨fun e => h4 e.1, h1, h2, h⟩, fun h => h.2.2.2⟩
   ·exact ⟨false, by rw [if_neg h2], by simp [crP, h2]⟩
  ·exact ⟨false, by rw [if_neg h1], by simp [crP, h1]⟩
theorem roots_alike (t : List S34) : ∃ k v, table_Root.f k t = some v ∧ larchref16_Root.f k t = some v ∧ (v.2 = 0 → ∃ T X0, Good t T ∧ Crown T X0 ∧ plc X0 = v.1) := by
 obtain ⟨k0, r1, r2, h0, hr⟩ := root_total t
 obtain ⟨kc, v, c1, c2, c3⟩ := checks_alike t
 suffices hs : ∃ k, larchref16_Root.f k t = some (r1, r2) by
  obtain ⟨k, hk⟩ := hs
  exact ⟨max k0 k, (r1, r2), up_to (fun k => table_Root.mono t k) (Nat.le_max_left _ _) h0, up_to (fun k => larchref16_Root.mono t k) (Nat.le_max_right _ _) hk, hr⟩
 have h0' : ∀ k, k0 ≤ k → table_Root.f k t = some (r1, r2) := fun k hk => up_to (fun k => table_Root.mono t k) hk h0
 by_cases hv : v = 0
 ·subst hv
  obtain ⟨T, hg⟩ := c3 rfl
  have hlen := hg.len
  have hpos := hg.pos
  have hf := hg.form
  have f0 := hf 0 hpos
  have f0' := (fmN_iff _ _).1 f0
  obtain ⟨b0, hb0, hb0'⟩ := crowned_f t (t.getD 0 z34) f0
  obtain ⟨b0r, hb0r, hb0r'⟩ := top_f hf 0 (Int.le_refl _) (by omega)
  obtain rfl : b0r = b0 := by rw [Bool.eq_iff_iff, hb0', hb0r']; exact Iff.rfl
  have hprog := h0' (k0 + kc + t.length + 5) (by omega)
  unfold table_Root.f at hprog
  rw [up_to (fun k => table_Check.mono t k) (show kc ≤ k0 + kc + t.length + 5 by omega) c1, Option.bind_some, if_pos rfl, if_pos (by omega), show rd_T34 t 0 = t.getD 0 z34 from rfl, show rd_T34 t (t.getD 0 z34).f4 = t.getD (t.getD 0 z34).f4.toNat z34 from rfl, hb0, Option.bind_some] at hprog
  refine ⟨k0 + kc + t.length + 5, ?_⟩
  unfold larchref16_Root.f larchref16_Crown.f
  rw [up_to (fun k => larchref16_Check.mono t k) (show kc ≤ k0 + kc + t.length + 5 by omega) c2, Option.bind_some, if_pos rfl, hb0r, Option.bind_some]
  cases b0r with
  | false =>
   rw [if_neg (by simp)] at hprog
   rw [if_neg (by simp), Option.bind_some]
   simp only
   rw [if_neg (by simp)]
   exact hprog
  | true =>
   have hcr := hb0'.1 rfl
   rw [if_pos rfl, if_pos (by have := hcr.1; omega), if_pos (by have := hcr.1; omega)] at hprog
   rw [if_pos rfl, if_pos (by omega), show rd_T34 t 0 = t.getD 0 z34 from rfl, if_pos (by have := hcr.1; omega), if_pos (by have := hcr.1; omega), show rd_T34 t (t.getD 0 z34).f4 = t.getD (t.getD 0 z34).f4.toNat z34 from rfl]
   obtain ⟨k1, l, r, hk1, _, hl, hr', hT⟩ := mkT_inner hf hg.tree hcr.1
   have f1 := hf (t.getD 0 z34).f4.toNat (by have := hcr.1; omega)
   have f1' := (fmN_iff _ _).1 f1
   obtain ⟨b1, hb1, hb1'⟩ := crowned_f t _ f1
   obtain ⟨b1r, hb1r, hb1r'⟩ := top_f hf (t.getD 0 z34).f4 (by have := hcr.1; omega) (by have := hcr.1; omega)
   obtain rfl : b1r = b1 := by rw [Bool.eq_iff_iff, hb1', hb1r']
   rw [end_f _ f1, Option.bind_some]
   simp only [table_sentinel.f, Option.bind_some] at hprog
   generalize hm : t.getD (t.getD 0 z34).f4.toNat z34 = m at hprog hb1 hb1' f1' f1 ⊢
   rw [show (m.f0 == 0 && (m.f1 == 1 && (m.f2 == 1 && (m.f3 == 0 && (m.f4 == -1 && m.f5 == -1))))) = snB m from rfl, hb1, Option.bind_some] at hprog
   rw [hb1r]
   cases hs : snB m with
   | true =>
    rw [hs, if_pos rfl] at hprog
    rw [if_pos rfl, Option.bind_some]
    simp only
    rw [if_pos trivial, if_pos trivial]
    exact hprog
   | false =>
    rw [hs, if_neg (by simp)] at hprog
    rw [if_neg (by simp), Option.bind_some]
    cases b1r with
    | false =>
     rw [if_neg (by simp)] at hprog
     rw [if_neg (by simp), Option.bind_some]
     simp only
     rw [if_neg (by simp)]
     exact hprog
    | true =>
     have hcr1 := hb1'.1 rfl
     have hcr1' := hcr1
     rw [← hm] at hcr1'
     obtain ⟨k2, X0, rr, hk2, hi2, hl1, hr1, hT1⟩ := mkT_inner hf hl hcr1'.1
     rw [hm] at hl1 hr1 hT1
     have hn := hg.nodup
     have ha := hg.all
     rw [hT, hT1] at hn ha
     simp only [plT, List.nodup_cons, List.cons_append, List.length_cons, List.length_append] at hn ha
     have hnX : (plT X0).Nodup := by
      have h1 := hn.2
      rw [List.append_assoc] at h1
      exact nodup_app_l h1.2
     have hmB := hcr1.1
     have hmem := (plT_mem _ _ _ hl1).2
     have hp := plF_mk (i := m.f4) (by omega) hl1 (plF.eq_1 t k2)
     rw [List.append_nil] at hp
     have hrows := rows_tree hlen hf k2 (k0 + kc + t.length + 5) [] [m.f4] (plT X0) hp (by omega) (by simp; omega)
     rw [List.nil_append, show ([m.f4] : List Int).reverse = [m.f4] from rfl] at hrows
     have ra := root_all t m.f0 m.f1 m.f2 m.f3 m.f4 m.f5 (plT X0) hmem (by omega) (plT X0).length 0 (k0 + kc + t.length + 5) (by omega) (by omega)
     have ca := crown_all t (t.getD 0 z34).f4 (by have := hcr.1; omega) (plT X0) hmem (by omega) (plT X0).length 0 (k0 + kc + t.length + 5) (by omega) (by omega)
     rw [hm, List.drop_zero, show ((0 : Nat) : Int) = 0 from rfl] at ca
     rw [List.drop_zero, show ((0 : Nat) : Int) = 0 from rfl] at ra
     rw [if_pos rfl, order_f_tree hlen (formT_of hf) (by omega) hl1 hnX (by omega) _ (by omega), Option.bind_some, ra] at hprog
     rw [if_pos rfl]
     unfold larchref16_Rows.f
     rw [hrows, Option.bind_some, ca, Option.bind_some]
     cases hall : (plT X0).all (infB t) with
     | true =>
      rw [hall, if_pos rfl] at hprog
      rw [if_pos rfl]
      simp only
      rw [if_pos trivial, if_neg (by omega)]
      exact hprog
     | false =>
      rw [hall, if_neg (by simp)] at hprog
      rw [if_neg (by simp)]
      exact hprog
 ·refine ⟨kc, ?_⟩
  have hprog := h0' (k0 + kc) (by omega)
  unfold table_Root.f at hprog
  rw [up_to (fun k => table_Check.mono t k) (show kc ≤ k0 + kc by omega) c1, Option.bind_some, if_neg hv] at hprog
  unfold larchref16_Root.f
  rw [c2, Option.bind_some, if_neg hv]
  exact hprog
def nT : Tr → Tr
 | .nil => .nil
 | .node n _ l r => .node ⟨n.f0, n.f1, n.f2, n.f3, 0, 0⟩ 0 (nT l) (nT r)
def mirT : Tr → Tr
 | .nil => .nil
 | .node n p l r => .node n p (mirT r) (mirT l)
theorem nT_nil {T : Tr} : nT T = .nil ↔ T = .nil := by cases T <;> simp [nT]
theorem mir_nil {T : Tr} : mirT T = .nil ↔ T = .nil := by cases T <;> simp [mirT]
theorem nT_set (x : Int) (T : Tr) : nT (setW T x) = setW (nT T) x := by cases T <;> rfl
theorem mir_l (m : Bool) (T : Tr) : lT (!m) (mirT T) = mirT (lT m T) := by cases T <;> cases m <;> rfl
theorem mir_r (m : Bool) (T : Tr) : rT (!m) (mirT T) = mirT (rT m T) := by cases T <;> cases m <;> rfl
theorem wt_m (T : Tr) : wt (mirT T) = wt T := by cases T <;> rfl
theorem key_m (T : Tr) : keyT (mirT T) = keyT T := by cases T <;> rfl
theorem mir_put (m : Bool) (k x : Int) (L R : Tr) : putT (!m) k x (mirT L) (mirT R) = mirT (putT m k x L R) := by cases m <;> rfl
theorem mir_as (x : Int) (T : Tr) : asT x (mirT T) = mirT (asT x T) := by cases T <;> rfl
theorem mir_set (x : Int) (T : Tr) : setW (mirT T) x = mirT (setW T x) := by cases T <;> rfl
theorem mir_mir : ∀ T : Tr, mirT (mirT T) = T
 | .nil => rfl
 | .node n p l r => by rw [mirT, mirT, mir_mir l, mir_mir r]
theorem mir_do (m : Bool) (X : Tr) (kind : Int) : doT (!m) (mirT X) kind = mirT (doT m X kind) := by
 unfold doT do1 do2 do3 do4 do5 do6 do7 do8 do9 do10 do11 do12 lessT
 simp only [mir_l, mir_r, wt_m, key_m, mir_as, mir_put, apply_ite mirT]
def TwoT : Tr → Prop
 | .nil => True
 | .node _ _ l r => (l = .nil ↔ r = .nil) ∧ TwoT l ∧ TwoT r
theorem two_ok : ∀ {T : Tr}, Ok T → TwoT T
 | .nil, h => h.elim
 | .node n p l r, ⟨_, _, h⟩ => by
  rcases h with ⟨h1, h2, _⟩ | ⟨_, h1, h2⟩
  ·subst h1 h2; exact ⟨Iff.rfl, trivial, trivial⟩
  ·exact ⟨⟨fun e => absurd e (ok_ne h1), fun e => absurd e (ok_ne h2)⟩, two_ok h1, two_ok h2⟩
theorem two_l (m : Bool) {T : Tr} (h : TwoT T) : TwoT (lT m T) := by
 cases T with
 | nil => exact h
 | node n p l r =>
  cases m
  ·exact h.2.1
  ·exact h.2.2
theorem two_r (m : Bool) {T : Tr} (h : TwoT T) : TwoT (rT m T) := by
 cases T with
 | nil => exact h
 | node n p l r =>
  cases m
  ·exact h.2.2
  ·exact h.2.1
theorem inner_m {T : Tr} (h : TwoT T) : innerB (mirT T) = innerB T := by
 cases T with
 | nil => rfl
 | node n p l r =>
  cases l with
  | nil => have e := h.1.1 rfl; subst e; rfl
  | node n1 p1 l1 r1 =>
   cases r with
   | nil => exact absurd (h.1.2 rfl) (by simp)
   | node n2 p2 l2 r2 => rfl
theorem mir_can (m rt : Bool) {X : Tr} (h : TwoT X) (kind : Int) : canT (!m) rt (mirT X) kind = canT m rt X kind := by
 unfold canT can1 can2 can3 can4 can5 can6 can7 can8 can9 can10 can11
 simp only [mir_l, mir_r, wt_m]
 rw [inner_m (two_r m (two_l m h)), inner_m (two_l m (two_l m (two_r m h))), inner_m (two_l m (two_r m h))]
section
def rdC (n : S34) (pl : Int) (vl vr : Value) : Array Value := #[.int .i64 n.f0, .int .i64 n.f1, .int .i64 n.f2, .int .i64 n.f3, .int .i64 n.f4, .int .i64 n.f5, vl, vr, .int .i64 pl]
def Rp (S : Nat → Prop) (w : World) : Value → Tr → Prop
 | v, .nil => v = .pointer none
 | v, .node n pl l r => ∃ b vl vr, v = .pointer (some ⟨b, 0, none⟩) ∧ w.heap[b]? = some (.cells (rdC n pl vl vr) 107 (0, 0)) ∧ Rp S w vl l ∧ Rp S w vr r ∧ S b
variable {S : Nat → Prop}
theorem Rp.keptS {w w' : World} (hk : ∀ k, S k → k < w.heap.size → w'.heap[k]? = w.heap[k]?) : ∀ {v : Value} {T : Tr}, Rp S w v T → Rp S w' v T
 | _, .nil, h => h
 | _, .node .., ⟨b, vl, vr, e, hb, hl, hr, hs⟩ => ⟨b, vl, vr, e, (hk b hs (Array.getElem?_eq_some_iff.1 hb).1).trans hb, hl.keptS hk, hr.keptS hk, hs⟩
theorem Rp.below {w w' : World} {v : Value} {T : Tr} (h : Rp S w v T) (hb : Below w.heap.size w w') : Rp S w' v T := h.keptS (fun k _ hk => hb.block k hk)
theorem Rp.mono {S' : Nat → Prop} {w : World} (hs : ∀ k, S k → S' k) : ∀ {v : Value} {T : Tr}, Rp S w v T → Rp S' w v T
 | _, .nil, h => h
 | _, .node .., ⟨b, vl, vr, e, hb, hl, hr, h⟩ => ⟨b, vl, vr, e, hb, hl.mono hs, hr.mono hs, hs b h⟩
theorem Rp.ptr {w : World} {v : Value} : ∀ {T : Tr}, Rp S w v T → ∃ p, v = .pointer p
 | .nil, h => ⟨none, h⟩
 | .node .., ⟨b, _, _, e, _⟩ => ⟨some ⟨b, 0, none⟩, e⟩
theorem Rp.some {w : World} {v : Value} {T : Tr} (h : Rp S w v T) (hT : T ≠ .nil) : ∃ a, v = .pointer (some a) := by
 cases T with
 | nil => exact absurd rfl hT
 | node n p l r => obtain ⟨b, _, _, e, _⟩ := h; exact ⟨_, e⟩
theorem rw_any (v : Value) (T : Tr) (w : World) (h : Rp S w v T) :
  Calls Try.prog 80 #[v] w fun e w' => e = .returned (.int .i64 (wt T)) ∧ w' = w := by
 cases T with
 | nil =>
  obtain rfl := h
  go_enter Try.func80, Try.ntmps80
  go_wp2
  go_ret
  exact ⟨rfl, rfl⟩
 | node n pl l r =>
  obtain ⟨b, vl, vr, rfl, hb, _, _, _⟩ := h
  have hc : w.cell? ⟨b, 2, none⟩ = some (.int .i64 n.f2) := (cell_of hb 2).trans rfl
  clear hb
  go_enter Try.func80, Try.ntmps80
  go_wp2
  go_ret
  exact ⟨rfl, rfl⟩
theorem rleft_any (v : Value) (T : Tr) (w : World) (h : Rp S w v T) :
  Calls Try.prog 78 #[v] w fun e w' => ∃ p, e = .returned (.pointer p) ∧ Rp S w (.pointer p) (lT false T) ∧ w' = w := by
 cases T with
 | nil =>
  obtain rfl := h
  go_enter Try.func78, Try.ntmps78
  go_wp2
  go_ret
  exact ⟨none, rfl, rfl, rfl⟩
 | node n pl l r =>
  obtain ⟨b, vl, vr, rfl, hb, hl, hr, _⟩ := h
  have hc : w.cell? ⟨b, 6, none⟩ = some vl := (cell_of hb 6).trans rfl
  obtain ⟨p, rfl⟩ := hl.ptr
  have HL := Am hl
  clear hb hl hr
  go_enter Try.func78, Try.ntmps78
  go_wp2
  go_ret
  exact ⟨p, rfl, HL.out, rfl⟩
theorem rright_any (v : Value) (T : Tr) (w : World) (h : Rp S w v T) :
  Calls Try.prog 79 #[v] w fun e w' => ∃ p, e = .returned (.pointer p) ∧ Rp S w (.pointer p) (rT false T) ∧ w' = w := by
 cases T with
 | nil =>
  obtain rfl := h
  go_enter Try.func79, Try.ntmps79
  go_wp2
  go_ret
  exact ⟨none, rfl, rfl, rfl⟩
 | node n pl l r =>
  obtain ⟨b, vl, vr, rfl, hb, hl, hr, _⟩ := h
  have hc : w.cell? ⟨b, 7, none⟩ = some vr := (cell_of hb 7).trans rfl
  obtain ⟨p, rfl⟩ := hr.ptr
  have HR := Am hr
  clear hb hl hr
  go_enter Try.func79, Try.ntmps79
  go_wp2
  go_ret
  exact ⟨p, rfl, HR.out, rfl⟩
theorem rinner_any (v : Value) (T : Tr) (w : World) (h : Rp S w v T) (hT : T ≠ .nil) :
  Calls Try.prog 81 #[v] w fun e w' => e = .returned (.bool (innerB T)) ∧ w' = w := by
 cases T with
 | nil => exact absurd rfl hT
 | node n pl l r =>
  obtain ⟨b, vl, vr, rfl, hb, hl, _, _⟩ := h
  have hc : w.cell? ⟨b, 6, none⟩ = some vl := (cell_of hb 6).trans rfl
  clear hb
  cases l with
  | nil =>
   obtain rfl := hl
   unfold innerB
   go_enter Try.func81, Try.ntmps81
   go_wp2
   go_ret
   exact ⟨rfl, rfl⟩
  | node n' pl' l' r' =>
   obtain ⟨b', _, _, rfl, _⟩ := hl
   unfold innerB
   go_enter Try.func81, Try.ntmps81
   go_wp2
   go_ret
   exact ⟨rfl, rfl⟩
def orT : Tr → Tr → Tr
 | .nil, R => R
 | .node n p l r, _ => .node n p l r
def plaT (a : Int) : Tr → Tr
 | .nil => .nil
 | .node n p l r => if p = a then .node n p l r else orT (plaT a l) (plaT a r)
theorem rplace_any (a : Int) : ∀ (T : Tr) (v : Value) (w : World), Rp S w v T →
  Calls Try.prog 77 #[v, .int .i64 a] w fun e w' => ∃ p, e = .returned (.pointer p) ∧ Rp S w (.pointer p) (plaT a T) ∧ w' = w
 | .nil, v, w, h => by
  obtain rfl := h
  go_enter Try.func77, Try.ntmps77
  go_wp2
  go_ret
  exact ⟨none, rfl, rfl, rfl⟩
 | .node n pl l r, v, w, h => by
  have H0 := Am h
  obtain ⟨b, vl, vr, rfl, hb, hl, hr, _⟩ := h
  have c6 : w.cell? ⟨b, 6, none⟩ = some vl := (cell_of hb 6).trans rfl
  have c7 : w.cell? ⟨b, 7, none⟩ = some vr := (cell_of hb 7).trans rfl
  have c8 : w.cell? ⟨b, 8, none⟩ = some (.int .i64 pl) := (cell_of hb 8).trans rfl
  obtain ⟨p6, rfl⟩ := hl.ptr
  obtain ⟨p7, rfl⟩ := hr.ptr
  have HL := Am hl
  have HR := Am hr
  clear hb hl hr
  rw [plaT]
  cases hq : (pl == a) with
  | true =>
   rw [if_pos (by simpa using hq)]
   go_enter Try.func77, Try.ntmps77
   go_wp2
   go_ret
   exact ⟨_, rfl, H0.out, rfl⟩
  | false =>
   rw [if_neg (by simpa using hq)]
   obtain ⟨R, hR⟩ : ∃ R, orT (plaT a l) (plaT a r) = R := ⟨_, rfl⟩
   rw [hR]
   go_enter Try.func77, Try.ntmps77
   go_wp2_with (fail)
   refine (rplace_any a l _ _ HL.out).mono ?_
   rintro e w' ⟨p, rfl, hp, rfl⟩
   generalize plaT a l = L at hp hR
   cases L with
   | nil =>
    obtain ⟨rfl⟩ := hp
    obtain rfl : plaT a r = R := hR
    go_wp2_with (fail)
    refine (rplace_any a r _ _ HR.out).mono ?_
    rintro e w' ⟨p, rfl, hp, rfl⟩
    have HP := Am hp
    clear hp
    go_wp2
    go_ret
    exact ⟨_, rfl, HP.out, rfl⟩
   | node n' p' l' r' =>
    obtain rfl : Tr.node n' p' l' r' = R := hR
    have HP := Am hp
    obtain ⟨b', _, _, e, _⟩ := hp
    cases e
    go_wp2
    go_ret
    exact ⟨_, rfl, HP.out, rfl⟩
end
section
attribute [local go_sem] max2_int min2_int max_two min_two max_three min_three max_four min_four
end
section
attribute [local go_sem] max2_int min2_int max_two min_two max_three min_three max_four min_four
end
abbrev zN : Value := .agg #[.int .i64 0, .int .i64 0, .int .i64 0, .int .i64 0, .int .i64 0, .int .i64 0]
theorem rd_cells {w : World} {A : Option Addr} {l : List S34} (h : Kd.C k34 w A l.length l) {i : Nat} (hi : i < l.length) : ∃ ad, A = some ad ∧ ∀ w', Below w.heap.size w w' → w'.cell? (ad.add (i * 6)) = some (.int .i64 (l.getD i z34).f0) ∧ w'.cell? ⟨(ad.add (i * 6)).block, (ad.add (i * 6)).off + 1, none⟩ = some (.int .i64 (l.getD i z34).f1) ∧ w'.cell? ⟨(ad.add (i * 6)).block, (ad.add (i * 6)).off + 2, none⟩ = some (.int .i64 (l.getD i z34).f2) ∧ w'.cell? ⟨(ad.add (i * 6)).block, (ad.add (i * 6)).off + 3, none⟩ = some (.int .i64 (l.getD i z34).f3) ∧ w'.cell? ⟨(ad.add (i * 6)).block, (ad.add (i * 6)).off + 4, none⟩ = some (.int .i64 (l.getD i z34).f4) ∧ w'.cell? ⟨(ad.add (i * 6)).block, (ad.add (i * 6)).off + 5, none⟩ = some (.int .i64 (l.getD i z34).f5) := by
 obtain ⟨ad, e, h0, h1, h2, h3, h4, h5⟩ := at_T34 h (i : Int) (by omega) (by omega)
 have t : ∀ (w' : World) (a : Addr) (v : Value), Below w.heap.size w w' → w.cell? a = some v → w'.cell? a = some v := fun w' a v hb h => (hb.cell (blt w a h)).trans h
 exact ⟨ad, e, fun w' hb => ⟨t _ _ _ hb h0, t _ _ _ hb h1, t _ _ _ hb h2, t _ _ _ hb h3, t _ _ _ hb h4, t _ _ _ hb h5⟩⟩
structure Bx (w : World) (g : Nat) (v : Value) (xs : List S34) (cs : Array Value) (W : World) : Prop where
 ge : w.heap.size ≤ g
 r : Kd.R k34 34 W w.heap.size (fun k => True ∧ k ≠ g) v xs
 b : Below w.heap.size w W
 k : W.heap[g]? = some (.cells cs 34 (0, 0))
section
structure Os (w : World) (n ga ca gs cs : Nat) (Ap : Option Addr) (cp : Nat) (ps : List Int) (A : List S125) (B : List Bool) (W : World) : Prop where
 b : Below w.heap.size w W
 la : A.length = n
 lb : B.length = n
 ra : Kd.R k125 125 W w.heap.size (fun _ => True) (.slice (some ⟨ga, 0, none⟩) n ca) A
 rb : Kd.R Kd.bool 4 W w.heap.size (fun _ => True) (.slice (some ⟨gs, 0, none⟩) n cs) B
 rp : Kd.R (Kd.int .i64) 3 W w.heap.size (fun _ => True) (.slice Ap ps.length cp) ps
section
variable {w W W1 : World} {n ga ca gs cs cp : Nat} {Ap : Option Addr} {ps : List Int} {A : List S125} {B : List Bool}
structure Ob (w : World) (n ga ca gs cs : Nat) (Ap : Option Addr) (cp : Nat) (ps : List Int) (A : List S125) (B : List Bool) (g9 g10 : Nat) (c9 c10 : Array Value) (W : World) : Prop where
 os : Os w n ga ca gs cs Ap cp ps A B W
 k9 : W.heap[g9]? = some (.cells c9 34 (0, 0))
 k10 : W.heap[g10]? = some (.cells c10 125 (0, 0))
 h9 : w.heap.size ≤ g9
 h10 : w.heap.size ≤ g10
 d9 : g9 ≠ ga
 d10 : g10 ≠ ga
structure Oc (w : World) (n ga ca gs cs : Nat) (Ap : Option Addr) (cp : Nat) (ps : List Int) (A : List S125) (B : List Bool) (g9 g10 g11 g12 : Nat) (c9 c10 c11 c12 : Array Value) (W : World) : Prop where
 ob : Ob w n ga ca gs cs Ap cp ps A B g9 g10 c9 c10 W
 k11 : W.heap[g11]? = some (.cells c11 125 (0, 0))
 k12 : W.heap[g12]? = some (.cells c12 125 (0, 0))
 h11 : w.heap.size ≤ g11
 h12 : w.heap.size ≤ g12
 d11 : g11 ≠ ga
 d12 : g12 ≠ ga
 e11 : g11 ≠ g10
 e12 : g12 ≠ g10
 e : g11 ≠ g12
variable {g9 g10 g11 g12 : Nat} {c9 c10 c11 c12 : Array Value}
theorem gen_any {P : Program} {md : Region.Mode} {ops : Array Oper} {Q : Exit → Act → World → Prop} {T : World → Prop} {ds : List Nat} {f : Nat} {l : Array Bool} {a : Act} {W : World} (S : World → Prop) (h : S W) (k : ∀ W', S W' → wpAnyLast P md ops Q T ds f l a W') : wpAnyLast P md ops Q T ds f l a W := k W h
end
end
section
variable {S : Nat → Prop}
theorem bel_t' {w w1 w2 : World} (h : Below w.heap.size w w1) (hb : Below w1.heap.size w1 w2) : Below w.heap.size w w2 := h.trans (hb.mono h.size)
theorem rd9 {w : World} {b : Nat} {n : S34} {pl : Int} {vl vr : Value} (h : w.heap[b]? = some (.cells (rdC n pl vl vr) 107 (0, 0))) : w.cell? ⟨b, 0, none⟩ = some (.int .i64 n.f0) ∧ w.cell? ⟨b, 1, none⟩ = some (.int .i64 n.f1) ∧ w.cell? ⟨b, 2, none⟩ = some (.int .i64 n.f2) ∧ w.cell? ⟨b, 3, none⟩ = some (.int .i64 n.f3) ∧ w.cell? ⟨b, 4, none⟩ = some (.int .i64 n.f4) ∧ w.cell? ⟨b, 5, none⟩ = some (.int .i64 n.f5) ∧
  w.cell? ⟨b, 6, none⟩ = some vl ∧ w.cell? ⟨b, 7, none⟩ = some vr ∧ w.cell? ⟨b, 8, none⟩ = some (.int .i64 pl) :=
 ⟨(cell_of h 0).trans rfl, (cell_of h 1).trans rfl, (cell_of h 2).trans rfl, (cell_of h 3).trans rfl, (cell_of h 4).trans rfl, (cell_of h 5).trans rfl, (cell_of h 6).trans rfl, (cell_of h 7).trans rfl, (cell_of h 8).trans rfl⟩
theorem rmirrored_any : ∀ (T : Tr) (v : Value) (w : World), Rp S w v T →
  Calls Try.prog 82 #[v] w fun e w' => ∃ p, e = .returned (.pointer p) ∧ Rp (fun _ => True) w' (.pointer p) (mirT T) ∧ Below w.heap.size w w'
 | .nil, v, w, h => by
  obtain rfl := h
  go_enter Try.func82, Try.ntmps82
  go_wp2
  go_ret
  exact ⟨none, rfl, rfl, Below.refl _ _⟩
 | .node n pl l r, v, w, h => by
  obtain ⟨b, vl, vr, rfl, hb, hl, hr, _⟩ := h
  obtain ⟨p6, rfl⟩ := hl.ptr
  obtain ⟨p7, rfl⟩ := hr.ptr
  have HL := Am hl
  have HR := Am hr
  have HB := Am hb
  clear hb hl hr
  go_enter Try.func82, Try.ntmps82
  go_wp2
  refine sT 21 [] (S := fun W' => W'.heap[b]? = some (.cells (rdC n pl (.pointer p6) (.pointer p7)) 107 (0, 0))) HB.out fun hHeld => ?_
  refine pu 0 5 ?_
  refine pu 1 6 ?_
  refine pu 2 7 ?_
  refine ta 3 8 hHeld (hy := by intro w' hs; obtain ⟨z0, z1, z2, z3, z4, z5, z6, z7, z8⟩ := rd9 hs; go_simp; with_reducible rfl) ?_
  refine pu 4 9 ?_
  refine pu 5 10 ?_
  refine pu 6 11 ?_
  refine ta 7 12 hHeld (hy := by intro w' hs; obtain ⟨z0, z1, z2, z3, z4, z5, z6, z7, z8⟩ := rd9 hs; go_simp; with_reducible rfl) ?_
  refine pu 9 14 ?_
  refine pu 10 15 ?_
  refine pu 11 16 ?_
  refine ta 12 17 hHeld (hy := by intro w' hs; obtain ⟨z0, z1, z2, z3, z4, z5, z6, z7, z8⟩ := rd9 hs; go_simp; with_reducible rfl) ?_
  refine pu 14 19 ?_
  refine pu 15 20 ?_
  refine pu 16 21 ?_
  refine ta 17 22 hHeld (hy := by intro w' hs; obtain ⟨z0, z1, z2, z3, z4, z5, z6, z7, z8⟩ := rd9 hs; go_simp; with_reducible rfl) ?_
  refine on 8 13 fun K hK => ?_
  refine gO Try.func82 #[.pointer p7] ?_
  refine (rmirrored_any r _ _ (HR.out.below ((Below.refl _ _).drew))).mono ?_
  rintro e w1 ⟨x1, rfl, h1, hb1⟩
  have HB1 := Am ((hb1.block b (blk_lt hHeld)).trans hHeld)
  have H1 := Am h1
  have HL1 := Am ((HL.out.below ((Below.refl _ _).drew)).below hb1)
  have HW1 := Am (((Below.refl w.heap.size w).drew).trans hb1)
  refine ⟨_, rfl, ?_⟩
  refine hK.out _ _ HB1.out (fun hHeld => ?_)
  clear hK K h1 hb1
  refine nm 13 ?_
  refine on 13 18 fun K hK => ?_
  refine gO Try.func82 #[.pointer p6] ?_
  refine (rmirrored_any l _ _ HL1.out).mono ?_
  rintro e w2 ⟨x2, rfl, h2, hb2⟩
  have HB2 := Am ((hb2.block b (blk_lt hHeld)).trans hHeld)
  have H2 := Am h2
  have H12 := Am (H1.out.below hb2)
  have HW2 := Am (bel_t' HW1.out hb2)
  refine ⟨_, rfl, ?_⟩
  refine hK.out _ _ HB2.out (fun hHeld => ?_)
  clear hK K h2 hb2
  refine nm 18 ?_
  refine pu 18 23 ?_
  refine on 19 24 fun K hK => ?_
  refine box_step (by rfl) (N := 24) rfl (cs := rdC n pl (.pointer x1) (.pointer x2)) (t := 107) ?hr ?_
  case hr => first | (go_simp; done) | (go_simp; rfl)
  intro g hg w3 k3 b3
  subst hg
  refine hK.out _ _ ((b3.block b (blk_lt hHeld)).trans hHeld) (fun hHeld => ?_)
  clear hK K
  refine nm 24 ?_
  refine pu 20 2 ?_
  refine done_ (by kernel_rfl) ?_
  have hfin : Rp (fun _ => True) w3 (.pointer (some ⟨w2.heap.size, 0, none⟩)) (mirT (.node n pl l r)) := ⟨w2.heap.size, _, _, rfl, k3, H12.out.below b3, H2.out.below b3, trivial⟩
  have HFI := Am hfin
  have HW3 := Am (bel_t' HW2.out b3)
  clear hfin k3 b3
  go_wp2
  go_ret
  exact ⟨_, rfl, HFI.out, HW3.out⟩
theorem rgrow_any (A0 : Option Addr) (c0 : Nat) (t : List S34) (hf : ∀ i, i < t.length → fmN (t.getD i z34) t.length = true) : ∀ (k i : Nat) (T : Tr) (w : World), Kd.C k34 w A0 t.length t → t.length ≤ c0 → mkT t k i = some T →
  Calls Try.prog 59 #[.slice A0 t.length c0, .int .i64 i] w fun e w' => ∃ p, e = .returned (.pointer p) ∧ Rp (fun k => w.heap.size ≤ k) w' (.pointer p) T ∧ Below w.heap.size w w'
 | 0, i, T, w, _, _, h => by simp [mkT] at h
 | k + 1, i, T, w, hr0, hc0, h => by
  rw [mkT] at h
  split at h
  case isFalse => exact absurd h (by simp)
  rename_i hi
  have hfm := (fmN_iff _ _).1 (hf i hi)
  obtain ⟨ad, rfl, hz⟩ := rd_cells hr0 hi
  obtain ⟨n, hn⟩ : ∃ n, t.getD i z34 = n := ⟨_, rfl⟩
  rw [hn] at h hz hfm
  obtain ⟨z0, z1, z2, z3, z4, z5⟩ := hz _ (Below.refl _ _)
  have a4 := fun o => cell_al o z4
  have HZ := Am hz
  have HR0 := Am hr0
  have HC0 := Am hc0
  have p1 : (0 ≤ (i : Int)) = True := eq_true (by omega)
  have p2 : ((i : Int) < (t.length : Int)) = True := eq_true (by omega)
  clear hr0 hc0 hz hn
  split at h
  ·rename_i h4
   obtain ⟨l, hl, h⟩ := Option.bind_eq_some_iff.1 h
   obtain ⟨r, hr, h⟩ := Option.bind_eq_some_iff.1 h
   obtain rfl := Option.some.inj h
   obtain ⟨x, hx⟩ : ∃ x : Nat, n.f4 = x := ⟨n.f4.toNat, by omega⟩
   obtain ⟨y, hy⟩ : ∃ y : Nat, n.f5 = y := ⟨n.f5.toNat, by omega⟩
   rw [hx, Int.toNat_natCast] at hl
   rw [hy, Int.toNat_natCast] at hr
   have HL := Am hl
   have HRr := Am hr
   have p3 : decide (n.f4 ≥ 0) = true := decide_eq_true h4
   have HX := Am hx
   have HY := Am hy
   clear h hl hr h4 hfm hx hy
   go_enter Try.func59, Try.ntmps59
   go_wp2_with (fail)
   have hgo := fun o => rgrow_any (some ad) c0 t hf k x l _ (Kd.C_below HR0.out (ba (Below.refl _ _) o)) HC0.out HL.out
   rw [← HX.out] at hgo
   refine (hgo _).mono ?_
   clear hgo
   rintro e w1 ⟨q1, rfl, h1, hb1⟩
   have hk1 : w1.heap[w.heap.size]? = some (.cells (rdC n i (.pointer none) (.pointer none)) 107 (0, 0)) := by rw [hb1.block _ (by simp)]; exact heap_alloc_new w _
   have HB1 := Am ((ba (Below.refl w.heap.size w) _).trans (hb1.mono (by simp)))
   have H1 := Am (Rp.mono (S' := fun k => w.heap.size ≤ k ∧ k ≠ w.heap.size) (fun k hk => by simp at hk; omega) h1)
   have K1 := Am hk1
   have y6 : w1.cell? ⟨w.heap.size, 6, none⟩ = some (.pointer none) := (cell_of hk1 6).trans rfl
   have f6 := frz_of hk1 6
   have hB2 := below_set (j := 6) (v := .pointer q1) HB1.out (Nat.le_refl _)
   obtain ⟨x0, x1, x2, x3, x4, x5⟩ := HZ.out _ hB2
   have HB2 := Am hB2
   clear h1 hb1 hk1 hB2 z0 z1 z2 z3 z4 z5 a4
   go_wp2_with (fail)
   have hgo := rgrow_any (some ad) c0 t hf k y r _ (Kd.C_below HR0.out HB2.out) HC0.out HRr.out
   rw [← HY.out] at hgo
   refine hgo.mono ?_
   clear hgo
   rintro e w3 ⟨q2, rfl, h2, hb2⟩
   have k2 := blk_set K1.out 6 (.pointer q1)
   have hk3 : w3.heap[w.heap.size]? = some (.cells (rdC n i (.pointer q1) (.pointer none)) 107 (0, 0)) := (hb2.block _ (blk_lt k2)).trans k2
   have g1 : Rp (fun k => w.heap.size ≤ k ∧ k ≠ w.heap.size) w3 (.pointer q1) l := (H1.out.keptS (w' := w1.setCell ⟨w.heap.size, 6, none⟩ (.pointer q1)) (fun k hk _ => Below.heap_setCell _ _ _ _ hk.2)).below hb2
   have hsz : w.heap.size < (w1.setCell ⟨w.heap.size, 6, none⟩ (.pointer q1)).heap.size := blk_lt k2
   have g2 : Rp (fun k => w.heap.size ≤ k ∧ k ≠ w.heap.size) w3 (.pointer q2) r := Rp.mono (fun k hk => by omega) h2
   have G1 := Am g1
   have G2 := Am g2
   have K3 := Am hk3
   have HB3 := Am (HB2.out.trans (hb2.mono (by omega)))
   have y7 : w3.cell? ⟨w.heap.size, 7, none⟩ = some (.pointer none) := (cell_of hk3 7).trans rfl
   have f7 := frz_of hk3 7
   clear h2 hb2 k2 hk3 g1 g2 hsz x0 x1 x2 x3 x4 x5 y6 f6
   go_wp2
   go_ret
   have ne : ∀ {v : Value} {T : Tr}, Rp (fun k => w.heap.size ≤ k ∧ k ≠ w.heap.size) w3 v T → Rp (fun k => w.heap.size ≤ k) (w3.setCell ⟨w.heap.size, 7, none⟩ (.pointer q2)) v T := fun h => Rp.mono (fun _ h => h.1) (h.keptS (fun k hk _ => Below.heap_setCell _ _ _ _ hk.2))
   exact ⟨_, rfl, ⟨_, _, _, rfl, blk_set K3.out 7 (.pointer q2), ne G1.out, ne G2.out, Nat.le_refl _⟩, below_set HB3.out (Nat.le_refl _)⟩
  ·rename_i h4
   obtain rfl := Option.some.inj h
   have p3 : decide (n.f4 ≥ 0) = false := decide_eq_false h4
   clear h h4
   go_enter Try.func59, Try.ntmps59
   go_wp2
   go_ret
   exact ⟨_, rfl, ⟨_, _, _, rfl, heap_alloc_new w _, rfl, rfl, Nat.le_refl _⟩, ba (Below.refl _ _) _⟩
end
section
variable {S : Nat → Prop}
theorem rcan1_any (p : Option Addr) (T : Tr) (rt : Bool) (w : World) (Hx : Aside0 (Rp S w (.pointer p) T)) :
  Calls Try.prog 53 #[.pointer p, .int .i64 1, .bool rt] w fun e w' => e = .returned (.bool (can1 false T)) ∧ w' = w := by
 obtain ⟨r, hr⟩ : ∃ r, can1 false T = r := ⟨_, rfl⟩
 rw [hr]
 have HR := Am hr
 clear hr
 rcases ch4' (wt (lT false (lT false T)) == 0) (wt (rT false (lT false T)) == 0) (wt (lT false (rT false T)) == 0) (wt (rT false (rT false T)) == 0) with g0 | ⟨g0, g1⟩ | ⟨g0, g1, g2⟩ | ⟨g0, g1, g2, g3⟩ | ⟨g0, g1, g2, g3⟩ <;>
 rcases ch3 (wt (lT false T) == 0) (wt (rT false T) == 0) (decide (0 < wt T)) with h0 | ⟨h0, h1⟩ | ⟨h0, h1, h2⟩ | ⟨h0, h1, h2⟩
 all_goals
  go_enter Try.func53, Try.ntmps53
  go_wp2_with (fail)
  refine (rleft_any _ _ _ Hx.out).mono ?_
  rintro e w' ⟨pl, rfl, hq, rfl⟩
  have Hl := Am hq
  clear hq
  go_wp2_with (fail)
  refine (rright_any _ _ _ Hx.out).mono ?_
  rintro e w' ⟨pr, rfl, hq, rfl⟩
  have Hr := Am hq
  clear hq
  go_wp2_with (fail)
  refine (rleft_any _ _ _ Hl.out).mono ?_
  rintro e w' ⟨pll, rfl, hq, rfl⟩
  have Hll := Am hq
  clear hq
  go_wp2_with (fail)
  refine (rright_any _ _ _ Hl.out).mono ?_
  rintro e w' ⟨plr, rfl, hq, rfl⟩
  have Hlr := Am hq
  clear hq
  go_wp2_with (fail)
  refine (rleft_any _ _ _ Hr.out).mono ?_
  rintro e w' ⟨prl, rfl, hq, rfl⟩
  have Hrl := Am hq
  clear hq
  go_wp2_with (fail)
  refine (rright_any _ _ _ Hr.out).mono ?_
  rintro e w' ⟨prr, rfl, hq, rfl⟩
  have Hrr := Am hq
  clear hq
  go_wp2_with (first | (go_at_call 80; refine (rw_any _ _ _ (by first | exact Hx.out | exact Hl.out | exact Hr.out | exact Hll.out | exact Hlr.out | exact Hrl.out | exact Hrr.out)).mono ?_; rintro e w' ⟨rfl, rfl⟩))
  go_ret
  exact ⟨by rw [← HR.out]; simp only [can1]; simp [*], rfl⟩
theorem rcan2_any (p : Option Addr) (T : Tr) (rt : Bool) (w : World) (Hx : Aside0 (Rp S w (.pointer p) T)) :
  Calls Try.prog 53 #[.pointer p, .int .i64 2, .bool rt] w fun e w' => e = .returned (.bool (can2 false T)) ∧ w' = w := by
 obtain ⟨r, hr⟩ : ∃ r, can2 false T = r := ⟨_, rfl⟩
 rw [hr]
 have HR := Am hr
 clear hr
 rcases ch4 (decide (0 < wt T)) (wt (lT false T) == 0) (wt (lT false (lT false T)) == 0) (decide (0 < wt (rT false T))) with h0 | ⟨h0, h1⟩ | ⟨h0, h1, h2⟩ | ⟨h0, h1, h2, h3⟩ | ⟨h0, h1, h2, h3⟩
 all_goals
  go_enter Try.func53, Try.ntmps53
  go_wp2_with (fail)
  refine (rleft_any _ _ _ Hx.out).mono ?_
  rintro e w' ⟨pl, rfl, hq, rfl⟩
  have Hl := Am hq
  clear hq
  go_wp2_with (fail)
  refine (rright_any _ _ _ Hx.out).mono ?_
  rintro e w' ⟨pr, rfl, hq, rfl⟩
  have Hr := Am hq
  clear hq
  go_wp2_with (fail)
  refine (rleft_any _ _ _ Hl.out).mono ?_
  rintro e w' ⟨pll, rfl, hq, rfl⟩
  have Hll := Am hq
  clear hq
  go_wp2_with (fail)
  refine (rright_any _ _ _ Hl.out).mono ?_
  rintro e w' ⟨plr, rfl, hq, rfl⟩
  have Hlr := Am hq
  clear hq
  go_wp2_with (fail)
  refine (rleft_any _ _ _ Hr.out).mono ?_
  rintro e w' ⟨prl, rfl, hq, rfl⟩
  have Hrl := Am hq
  clear hq
  go_wp2_with (fail)
  refine (rright_any _ _ _ Hr.out).mono ?_
  rintro e w' ⟨prr, rfl, hq, rfl⟩
  have Hrr := Am hq
  clear hq
  go_wp2_with (first | (go_at_call 80; refine (rw_any _ _ _ (by first | exact Hx.out | exact Hl.out | exact Hr.out | exact Hll.out | exact Hlr.out | exact Hrl.out | exact Hrr.out)).mono ?_; rintro e w' ⟨rfl, rfl⟩))
  go_ret
  exact ⟨by rw [← HR.out]; simp only [can2]; simp [*], rfl⟩
end
section
variable {S : Nat → Prop}
theorem rcan3_any (p : Option Addr) (T : Tr) (rt : Bool) (w : World) (Hx : Aside0 (Rp S w (.pointer p) T)) :
  Calls Try.prog 53 #[.pointer p, .int .i64 3, .bool rt] w fun e w' => e = .returned (.bool (can3 false T)) ∧ w' = w := by
 obtain ⟨r, hr⟩ : ∃ r, can3 false T = r := ⟨_, rfl⟩
 rw [hr]
 have HR := Am hr
 clear hr
 rcases ch6 (decide (0 < wt T)) (wt (lT false T) == 0) (wt (rT false (lT false T)) == 0) (innerB (rT false (lT false T))) (decide (0 < wt (lT false (lT false T)))) (decide (0 < wt (rT false T))) with h0 | ⟨h0, h1⟩ | ⟨h0, h1, h2⟩ | ⟨h0, h1, h2, h3⟩ | ⟨h0, h1, h2, h3, h4⟩ | ⟨h0, h1, h2, h3, h4, h5⟩ | ⟨h0, h1, h2, h3, h4, h5⟩
 all_goals
  go_enter Try.func53, Try.ntmps53
  go_wp2_with (fail)
  refine (rleft_any _ _ _ Hx.out).mono ?_
  rintro e w' ⟨pl, rfl, hq, rfl⟩
  have Hl := Am hq
  clear hq
  go_wp2_with (fail)
  refine (rright_any _ _ _ Hx.out).mono ?_
  rintro e w' ⟨pr, rfl, hq, rfl⟩
  have Hr := Am hq
  clear hq
  go_wp2_with (fail)
  refine (rleft_any _ _ _ Hl.out).mono ?_
  rintro e w' ⟨pll, rfl, hq, rfl⟩
  have Hll := Am hq
  clear hq
  go_wp2_with (fail)
  refine (rright_any _ _ _ Hl.out).mono ?_
  rintro e w' ⟨plr, rfl, hq, rfl⟩
  have Hlr := Am hq
  clear hq
  go_wp2_with (fail)
  refine (rleft_any _ _ _ Hr.out).mono ?_
  rintro e w' ⟨prl, rfl, hq, rfl⟩
  have Hrl := Am hq
  clear hq
  go_wp2_with (fail)
  refine (rright_any _ _ _ Hr.out).mono ?_
  rintro e w' ⟨prr, rfl, hq, rfl⟩
  have Hrr := Am hq
  clear hq
  go_wp2_with (first | (go_at_call 80; refine (rw_any _ _ _ (by first | exact Hx.out | exact Hl.out | exact Hr.out | exact Hll.out | exact Hlr.out | exact Hrl.out | exact Hrr.out)).mono ?_; rintro e w' ⟨rfl, rfl⟩) | (go_at_call 81; refine (rinner_any _ _ _ Hlr.out (by rintro e; rw [e] at h2; exact absurd h2 (by decide))).mono ?_; rintro e w' ⟨rfl, rfl⟩))
  go_ret
  exact ⟨by rw [← HR.out]; simp only [can3]; simp [*], rfl⟩
theorem rcan4_any (p : Option Addr) (T : Tr) (rt : Bool) (w : World) (Hx : Aside0 (Rp S w (.pointer p) T)) :
  Calls Try.prog 53 #[.pointer p, .int .i64 4, .bool rt] w fun e w' => e = .returned (.bool (can4 false T)) ∧ w' = w := by
 obtain ⟨r, hr⟩ : ∃ r, can4 false T = r := ⟨_, rfl⟩
 rw [hr]
 have HR := Am hr
 clear hr
 rcases ch4 (decide (1 < wt (lT false T))) (wt (rT false T) == 1) (decide (0 < wt (lT false (rT false T)))) (decide (0 < wt (rT false (rT false T)))) with h0 | ⟨h0, h1⟩ | ⟨h0, h1, h2⟩ | ⟨h0, h1, h2, h3⟩ | ⟨h0, h1, h2, h3⟩
 all_goals
  go_enter Try.func53, Try.ntmps53
  go_wp2_with (fail)
  refine (rleft_any _ _ _ Hx.out).mono ?_
  rintro e w' ⟨pl, rfl, hq, rfl⟩
  have Hl := Am hq
  clear hq
  go_wp2_with (fail)
  refine (rright_any _ _ _ Hx.out).mono ?_
  rintro e w' ⟨pr, rfl, hq, rfl⟩
  have Hr := Am hq
  clear hq
  go_wp2_with (fail)
  refine (rleft_any _ _ _ Hl.out).mono ?_
  rintro e w' ⟨pll, rfl, hq, rfl⟩
  have Hll := Am hq
  clear hq
  go_wp2_with (fail)
  refine (rright_any _ _ _ Hl.out).mono ?_
  rintro e w' ⟨plr, rfl, hq, rfl⟩
  have Hlr := Am hq
  clear hq
  go_wp2_with (fail)
  refine (rleft_any _ _ _ Hr.out).mono ?_
  rintro e w' ⟨prl, rfl, hq, rfl⟩
  have Hrl := Am hq
  clear hq
  go_wp2_with (fail)
  refine (rright_any _ _ _ Hr.out).mono ?_
  rintro e w' ⟨prr, rfl, hq, rfl⟩
  have Hrr := Am hq
  clear hq
  go_wp2_with (first | (go_at_call 80; refine (rw_any _ _ _ (by first | exact Hx.out | exact Hl.out | exact Hr.out | exact Hll.out | exact Hlr.out | exact Hrl.out | exact Hrr.out)).mono ?_; rintro e w' ⟨rfl, rfl⟩))
  go_ret
  exact ⟨by rw [← HR.out]; simp only [can4]; simp [*], rfl⟩
theorem rcan11_any (p : Option Addr) (T : Tr) (rt : Bool) (w : World) (Hx : Aside0 (Rp S w (.pointer p) T)) :
  Calls Try.prog 53 #[.pointer p, .int .i64 11, .bool rt] w fun e w' => e = .returned (.bool (can11 false T)) ∧ w' = w := by
 obtain ⟨r, hr⟩ : ∃ r, can11 false T = r := ⟨_, rfl⟩
 rw [hr]
 have HR := Am hr
 clear hr
 rcases ch2 (decide (1 < wt (lT false T))) (decide (1 < wt (rT false T))) with h0 | ⟨h0, h1⟩ | ⟨h0, h1⟩
 all_goals
  go_enter Try.func53, Try.ntmps53
  go_wp2_with (fail)
  refine (rleft_any _ _ _ Hx.out).mono ?_
  rintro e w' ⟨pl, rfl, hq, rfl⟩
  have Hl := Am hq
  clear hq
  go_wp2_with (fail)
  refine (rright_any _ _ _ Hx.out).mono ?_
  rintro e w' ⟨pr, rfl, hq, rfl⟩
  have Hr := Am hq
  clear hq
  go_wp2_with (fail)
  refine (rleft_any _ _ _ Hl.out).mono ?_
  rintro e w' ⟨pll, rfl, hq, rfl⟩
  have Hll := Am hq
  clear hq
  go_wp2_with (fail)
  refine (rright_any _ _ _ Hl.out).mono ?_
  rintro e w' ⟨plr, rfl, hq, rfl⟩
  have Hlr := Am hq
  clear hq
  go_wp2_with (fail)
  refine (rleft_any _ _ _ Hr.out).mono ?_
  rintro e w' ⟨prl, rfl, hq, rfl⟩
  have Hrl := Am hq
  clear hq
  go_wp2_with (fail)
  refine (rright_any _ _ _ Hr.out).mono ?_
  rintro e w' ⟨prr, rfl, hq, rfl⟩
  have Hrr := Am hq
  clear hq
  go_wp2_with (first | (go_at_call 80; refine (rw_any _ _ _ (by first | exact Hx.out | exact Hl.out | exact Hr.out | exact Hll.out | exact Hlr.out | exact Hrl.out | exact Hrr.out)).mono ?_; rintro e w' ⟨rfl, rfl⟩))
  go_ret
  exact ⟨by rw [← HR.out]; simp only [can11]; simp [*], rfl⟩
theorem rcan9_any (p : Option Addr) (T : Tr) (rt : Bool) (w : World) (Hx : Aside0 (Rp S w (.pointer p) T)) :
  Calls Try.prog 53 #[.pointer p, .int .i64 9, .bool rt] w fun e w' => e = .returned (.bool (can9 false T)) ∧ w' = w := by
 obtain ⟨r, hr⟩ : ∃ r, can9 false T = r := ⟨_, rfl⟩
 rw [hr]
 have HR := Am hr
 clear hr
 rcases ch3 (decide (1 < wt (lT false T))) (wt (rT false T) == 1) (wt (rT false (rT false T)) == 0) with h0 | ⟨h0, h1⟩ | ⟨h0, h1, h2⟩ | ⟨h0, h1, h2⟩
 all_goals
  go_enter Try.func53, Try.ntmps53
  go_wp2_with (fail)
  refine (rleft_any _ _ _ Hx.out).mono ?_
  rintro e w' ⟨pl, rfl, hq, rfl⟩
  have Hl := Am hq
  clear hq
  go_wp2_with (fail)
  refine (rright_any _ _ _ Hx.out).mono ?_
  rintro e w' ⟨pr, rfl, hq, rfl⟩
  have Hr := Am hq
  clear hq
  go_wp2_with (fail)
  refine (rleft_any _ _ _ Hl.out).mono ?_
  rintro e w' ⟨pll, rfl, hq, rfl⟩
  have Hll := Am hq
  clear hq
  go_wp2_with (fail)
  refine (rright_any _ _ _ Hl.out).mono ?_
  rintro e w' ⟨plr, rfl, hq, rfl⟩
  have Hlr := Am hq
  clear hq
  go_wp2_with (fail)
  refine (rleft_any _ _ _ Hr.out).mono ?_
  rintro e w' ⟨prl, rfl, hq, rfl⟩
  have Hrl := Am hq
  clear hq
  go_wp2_with (fail)
  refine (rright_any _ _ _ Hr.out).mono ?_
  rintro e w' ⟨prr, rfl, hq, rfl⟩
  have Hrr := Am hq
  clear hq
  go_wp2_with (first | (go_at_call 80; refine (rw_any _ _ _ (by first | exact Hx.out | exact Hl.out | exact Hr.out | exact Hll.out | exact Hlr.out | exact Hrl.out | exact Hrr.out)).mono ?_; rintro e w' ⟨rfl, rfl⟩))
  go_ret
  exact ⟨by rw [← HR.out]; simp only [can9]; simp [*], rfl⟩
theorem rcan12_any (p : Option Addr) (T : Tr) (rt : Bool) (w : World) (Hx : Aside0 (Rp S w (.pointer p) T)) :
  Calls Try.prog 53 #[.pointer p, .int .i64 12, .bool rt] w fun e w' => e = .returned (.bool (rt && wt T != 1)) ∧ w' = w := by
 cases rt
 all_goals
  go_enter Try.func53, Try.ntmps53
  go_wp2_with (fail)
  refine (rleft_any _ _ _ Hx.out).mono ?_
  rintro e w' ⟨pl, rfl, hq, rfl⟩
  have Hl := Am hq
  clear hq
  go_wp2_with (fail)
  refine (rright_any _ _ _ Hx.out).mono ?_
  rintro e w' ⟨pr, rfl, hq, rfl⟩
  have Hr := Am hq
  clear hq
  go_wp2_with (fail)
  refine (rleft_any _ _ _ Hl.out).mono ?_
  rintro e w' ⟨pll, rfl, hq, rfl⟩
  have Hll := Am hq
  clear hq
  go_wp2_with (fail)
  refine (rright_any _ _ _ Hl.out).mono ?_
  rintro e w' ⟨plr, rfl, hq, rfl⟩
  have Hlr := Am hq
  clear hq
  go_wp2_with (fail)
  refine (rleft_any _ _ _ Hr.out).mono ?_
  rintro e w' ⟨prl, rfl, hq, rfl⟩
  have Hrl := Am hq
  clear hq
  go_wp2_with (fail)
  refine (rright_any _ _ _ Hr.out).mono ?_
  rintro e w' ⟨prr, rfl, hq, rfl⟩
  have Hrr := Am hq
  clear hq
  go_wp2_with (first | (go_at_call 80; refine (rw_any _ _ _ (by first | exact Hx.out | exact Hl.out | exact Hr.out | exact Hll.out | exact Hlr.out | exact Hrl.out | exact Hrr.out)).mono ?_; rintro e w' ⟨rfl, rfl⟩))
  go_ret
  exact ⟨by simp, rfl⟩
end
section
variable {S : Nat → Prop}
theorem rcan10_any (p : Option Addr) (T : Tr) (rt : Bool) (w : World) (Hx : Aside0 (Rp S w (.pointer p) T)) :
  Calls Try.prog 53 #[.pointer p, .int .i64 10, .bool rt] w fun e w' => e = .returned (.bool (can10 false T)) ∧ w' = w := by
 obtain ⟨r, hr⟩ : ∃ r, can10 false T = r := ⟨_, rfl⟩
 rw [hr]
 have HR := Am hr
 clear hr
 rcases ch5 (decide (1 < wt (lT false T))) (wt (rT false T) == 1) (wt (lT false (rT false T)) == 0) (innerB (lT false (rT false T))) (decide (0 < wt (rT false (rT false T)))) with h0 | ⟨h0, h1⟩ | ⟨h0, h1, h2⟩ | ⟨h0, h1, h2, h3⟩ | ⟨h0, h1, h2, h3, h4⟩ | ⟨h0, h1, h2, h3, h4⟩
 all_goals
  go_enter Try.func53, Try.ntmps53
  go_wp2_with (fail)
  refine (rleft_any _ _ _ Hx.out).mono ?_
  rintro e w' ⟨pl, rfl, hq, rfl⟩
  have Hl := Am hq
  clear hq
  go_wp2_with (fail)
  refine (rright_any _ _ _ Hx.out).mono ?_
  rintro e w' ⟨pr, rfl, hq, rfl⟩
  have Hr := Am hq
  clear hq
  go_wp2_with (fail)
  refine (rleft_any _ _ _ Hl.out).mono ?_
  rintro e w' ⟨pll, rfl, hq, rfl⟩
  have Hll := Am hq
  clear hq
  go_wp2_with (fail)
  refine (rright_any _ _ _ Hl.out).mono ?_
  rintro e w' ⟨plr, rfl, hq, rfl⟩
  have Hlr := Am hq
  clear hq
  go_wp2_with (fail)
  refine (rleft_any _ _ _ Hr.out).mono ?_
  rintro e w' ⟨prl, rfl, hq, rfl⟩
  have Hrl := Am hq
  clear hq
  go_wp2_with (fail)
  refine (rright_any _ _ _ Hr.out).mono ?_
  rintro e w' ⟨prr, rfl, hq, rfl⟩
  have Hrr := Am hq
  clear hq
  go_wp2_with (first | (go_at_call 80; refine (rw_any _ _ _ (by first | exact Hx.out | exact Hl.out | exact Hr.out | exact Hll.out | exact Hlr.out | exact Hrl.out | exact Hrr.out)).mono ?_; rintro e w' ⟨rfl, rfl⟩) | (go_at_call 81; refine (rinner_any _ _ _ Hrl.out (by rintro e; rw [e] at h2; exact absurd h2 (by decide))).mono ?_; rintro e w' ⟨rfl, rfl⟩))
  go_ret
  exact ⟨by rw [← HR.out]; simp only [can10]; simp [*], rfl⟩
theorem rcan5_any (p : Option Addr) (T : Tr) (rt : Bool) (w : World) (Hx : Aside0 (Rp S w (.pointer p) T)) :
  Calls Try.prog 53 #[.pointer p, .int .i64 5, .bool rt] w fun e w' => e = .returned (.bool (can5 false T)) ∧ w' = w := by
 obtain ⟨r, hr⟩ : ∃ r, can5 false T = r := ⟨_, rfl⟩
 rw [hr]
 have HR := Am hr
 clear hr
 rcases ch3 (decide (1 < wt (lT false T))) (wt (rT false T) == 0) (decide (1 < wt (lT false (rT false T)))) with h0 | ⟨h0, h1⟩ | ⟨h0, h1, h2⟩ | ⟨h0, h1, h2⟩
 all_goals
  go_enter Try.func53, Try.ntmps53
  go_wp2_with (fail)
  refine (rleft_any _ _ _ Hx.out).mono ?_
  rintro e w' ⟨pl, rfl, hq, rfl⟩
  have Hl := Am hq
  clear hq
  go_wp2_with (fail)
  refine (rright_any _ _ _ Hx.out).mono ?_
  rintro e w' ⟨pr, rfl, hq, rfl⟩
  have Hr := Am hq
  clear hq
  go_wp2_with (fail)
  refine (rleft_any _ _ _ Hl.out).mono ?_
  rintro e w' ⟨pll, rfl, hq, rfl⟩
  have Hll := Am hq
  clear hq
  go_wp2_with (fail)
  refine (rright_any _ _ _ Hl.out).mono ?_
  rintro e w' ⟨plr, rfl, hq, rfl⟩
  have Hlr := Am hq
  clear hq
  go_wp2_with (fail)
  refine (rleft_any _ _ _ Hr.out).mono ?_
  rintro e w' ⟨prl, rfl, hq, rfl⟩
  have Hrl := Am hq
  clear hq
  go_wp2_with (fail)
  refine (rright_any _ _ _ Hr.out).mono ?_
  rintro e w' ⟨prr, rfl, hq, rfl⟩
  have Hrr := Am hq
  clear hq
  go_wp2_with (first | (go_at_call 80; refine (rw_any _ _ _ (by first | exact Hx.out | exact Hl.out | exact Hr.out | exact Hll.out | exact Hlr.out | exact Hrl.out | exact Hrr.out)).mono ?_; rintro e w' ⟨rfl, rfl⟩))
  go_ret
  exact ⟨by rw [← HR.out]; simp only [can5]; simp [*], rfl⟩
theorem rcan6_any (p : Option Addr) (T : Tr) (rt : Bool) (w : World) (Hx : Aside0 (Rp S w (.pointer p) T)) :
  Calls Try.prog 53 #[.pointer p, .int .i64 6, .bool rt] w fun e w' => e = .returned (.bool (can6 false T)) ∧ w' = w := by
 obtain ⟨r, hr⟩ : ∃ r, can6 false T = r := ⟨_, rfl⟩
 rw [hr]
 have HR := Am hr
 clear hr
 rcases ch5 (decide (1 < wt (lT false T))) (wt (rT false T) == 0) (wt (lT false (rT false T)) == 1) (decide (0 < wt (lT false (lT false (rT false T))))) (decide (0 < wt (rT false (lT false (rT false T))))) with h0 | ⟨h0, h1⟩ | ⟨h0, h1, h2⟩ | ⟨h0, h1, h2, h3⟩ | ⟨h0, h1, h2, h3, h4⟩ | ⟨h0, h1, h2, h3, h4⟩
 all_goals
  go_enter Try.func53, Try.ntmps53
  go_wp2_with (fail)
  refine (rleft_any _ _ _ Hx.out).mono ?_
  rintro e w' ⟨pl, rfl, hq, rfl⟩
  have Hl := Am hq
  clear hq
  go_wp2_with (fail)
  refine (rright_any _ _ _ Hx.out).mono ?_
  rintro e w' ⟨pr, rfl, hq, rfl⟩
  have Hr := Am hq
  clear hq
  go_wp2_with (fail)
  refine (rleft_any _ _ _ Hl.out).mono ?_
  rintro e w' ⟨pll, rfl, hq, rfl⟩
  have Hll := Am hq
  clear hq
  go_wp2_with (fail)
  refine (rright_any _ _ _ Hl.out).mono ?_
  rintro e w' ⟨plr, rfl, hq, rfl⟩
  have Hlr := Am hq
  clear hq
  go_wp2_with (fail)
  refine (rleft_any _ _ _ Hr.out).mono ?_
  rintro e w' ⟨prl, rfl, hq, rfl⟩
  have Hrl := Am hq
  clear hq
  go_wp2_with (fail)
  refine (rright_any _ _ _ Hr.out).mono ?_
  rintro e w' ⟨prr, rfl, hq, rfl⟩
  have Hrr := Am hq
  clear hq
  go_wp2_with (first | (go_at_call 80; refine (rw_any _ _ _ (by first | exact Hx.out | exact Hl.out | exact Hr.out | exact Hll.out | exact Hlr.out | exact Hrl.out | exact Hrr.out | exact Ha.out | exact Hb.out)).mono ?_; rintro e w' ⟨rfl, rfl⟩) | (go_at_call 78; refine (rleft_any _ _ _ Hrl.out).mono ?_; rintro e w' ⟨pa, rfl, hq, rfl⟩; have Ha := Am hq; clear hq) | (go_at_call 79; refine (rright_any _ _ _ Hrl.out).mono ?_; rintro e w' ⟨pb, rfl, hq, rfl⟩; have Hb := Am hq; clear hq))
  go_ret
  exact ⟨by rw [← HR.out]; simp only [can6]; simp [*], rfl⟩
end
section
variable {S : Nat → Prop}
theorem rcan7_any (p : Option Addr) (T : Tr) (rt : Bool) (w : World) (Hx : Aside0 (Rp S w (.pointer p) T)) :
  Calls Try.prog 53 #[.pointer p, .int .i64 7, .bool rt] w fun e w' => e = .returned (.bool (can7 false T)) ∧ w' = w := by
 obtain ⟨r, hr⟩ : ∃ r, can7 false T = r := ⟨_, rfl⟩
 rw [hr]
 have HR := Am hr
 clear hr
 rcases ch6 (decide (1 < wt (lT false T))) (wt (rT false T) == 0) (wt (lT false (rT false T)) == 1) (wt (lT false (lT false (rT false T))) == 0) (innerB (lT false (lT false (rT false T)))) (decide (0 < wt (rT false (lT false (rT false T))))) with h0 | ⟨h0, h1⟩ | ⟨h0, h1, h2⟩ | ⟨h0, h1, h2, h3⟩ | ⟨h0, h1, h2, h3, h4⟩ | ⟨h0, h1, h2, h3, h4, h5⟩ | ⟨h0, h1, h2, h3, h4, h5⟩
 all_goals
  go_enter Try.func53, Try.ntmps53
  go_wp2_with (fail)
  refine (rleft_any _ _ _ Hx.out).mono ?_
  rintro e w' ⟨pl, rfl, hq, rfl⟩
  have Hl := Am hq
  clear hq
  go_wp2_with (fail)
  refine (rright_any _ _ _ Hx.out).mono ?_
  rintro e w' ⟨pr, rfl, hq, rfl⟩
  have Hr := Am hq
  clear hq
  go_wp2_with (fail)
  refine (rleft_any _ _ _ Hl.out).mono ?_
  rintro e w' ⟨pll, rfl, hq, rfl⟩
  have Hll := Am hq
  clear hq
  go_wp2_with (fail)
  refine (rright_any _ _ _ Hl.out).mono ?_
  rintro e w' ⟨plr, rfl, hq, rfl⟩
  have Hlr := Am hq
  clear hq
  go_wp2_with (fail)
  refine (rleft_any _ _ _ Hr.out).mono ?_
  rintro e w' ⟨prl, rfl, hq, rfl⟩
  have Hrl := Am hq
  clear hq
  go_wp2_with (fail)
  refine (rright_any _ _ _ Hr.out).mono ?_
  rintro e w' ⟨prr, rfl, hq, rfl⟩
  have Hrr := Am hq
  clear hq
  go_wp2_with (first | (go_at_call 80; refine (rw_any _ _ _ (by first | exact Hx.out | exact Hl.out | exact Hr.out | exact Hll.out | exact Hlr.out | exact Hrl.out | exact Hrr.out | exact Ha.out | exact Hb.out)).mono ?_; rintro e w' ⟨rfl, rfl⟩) | (go_at_call 78; refine (rleft_any _ _ _ Hrl.out).mono ?_; rintro e w' ⟨pa, rfl, hq, rfl⟩; have Ha := Am hq; clear hq) | (go_at_call 79; refine (rright_any _ _ _ Hrl.out).mono ?_; rintro e w' ⟨pb, rfl, hq, rfl⟩; have Hb := Am hq; clear hq) | (go_at_call 81; refine (rinner_any _ _ _ Ha.out (by rintro e; rw [e] at h3; exact absurd h3 (by decide))).mono ?_; rintro e w' ⟨rfl, rfl⟩))
  go_ret
  exact ⟨by rw [← HR.out]; simp only [can7]; simp [*], rfl⟩
theorem rcan8_any (p : Option Addr) (T : Tr) (rt : Bool) (w : World) (Hx : Aside0 (Rp S w (.pointer p) T)) :
  Calls Try.prog 53 #[.pointer p, .int .i64 8, .bool rt] w fun e w' => e = .returned (.bool (can8 false T)) ∧ w' = w := by
 obtain ⟨r, hr⟩ : ∃ r, can8 false T = r := ⟨_, rfl⟩
 rw [hr]
 have HR := Am hr
 clear hr
 rcases ch4 (decide (1 < wt (lT false T))) (wt (rT false T) == 0) (wt (lT false (rT false T)) == 1) (wt (rT false (lT false (rT false T))) == 0) with h0 | ⟨h0, h1⟩ | ⟨h0, h1, h2⟩ | ⟨h0, h1, h2, h3⟩ | ⟨h0, h1, h2, h3⟩
 all_goals
  go_enter Try.func53, Try.ntmps53
  go_wp2_with (fail)
  refine (rleft_any _ _ _ Hx.out).mono ?_
  rintro e w' ⟨pl, rfl, hq, rfl⟩
  have Hl := Am hq
  clear hq
  go_wp2_with (fail)
  refine (rright_any _ _ _ Hx.out).mono ?_
  rintro e w' ⟨pr, rfl, hq, rfl⟩
  have Hr := Am hq
  clear hq
  go_wp2_with (fail)
  refine (rleft_any _ _ _ Hl.out).mono ?_
  rintro e w' ⟨pll, rfl, hq, rfl⟩
  have Hll := Am hq
  clear hq
  go_wp2_with (fail)
  refine (rright_any _ _ _ Hl.out).mono ?_
  rintro e w' ⟨plr, rfl, hq, rfl⟩
  have Hlr := Am hq
  clear hq
  go_wp2_with (fail)
  refine (rleft_any _ _ _ Hr.out).mono ?_
  rintro e w' ⟨prl, rfl, hq, rfl⟩
  have Hrl := Am hq
  clear hq
  go_wp2_with (fail)
  refine (rright_any _ _ _ Hr.out).mono ?_
  rintro e w' ⟨prr, rfl, hq, rfl⟩
  have Hrr := Am hq
  clear hq
  go_wp2_with (first | (go_at_call 80; refine (rw_any _ _ _ (by first | exact Hx.out | exact Hl.out | exact Hr.out | exact Hll.out | exact Hlr.out | exact Hrl.out | exact Hrr.out | exact Hb.out)).mono ?_; rintro e w' ⟨rfl, rfl⟩) | (go_at_call 79; refine (rright_any _ _ _ Hrl.out).mono ?_; rintro e w' ⟨pb, rfl, hq, rfl⟩; have Hb := Am hq; clear hq))
  go_ret
  exact ⟨by rw [← HR.out]; simp only [can8]; simp [*], rfl⟩
end
def AskR (k : Nat) (t : List S34) (a kind : Int) (mir : Bool) (X : Tr) (rt : Bool) (e : Int) : Prop :=
 (larchref16_Check.f k t = some e ∧ (e != 0) = true ∧ X = .nil ∧ rt = false) ∨
 (larchref16_Check.f k t = some 0 ∧ ∃ r, larchref16_Root.f k t = some (r, e) ∧ (e != 0) = true ∧ X = .nil ∧ rt = false) ∨
 (larchref16_Check.f k t = some 0 ∧ ∃ r, larchref16_Root.f k t = some (r, 0) ∧ larchref18_IsMove.f kind mir = some false ∧ X = .nil ∧ rt = false ∧ e = 5) ∨
 (larchref16_Check.f k t = some 0 ∧ larchref18_IsMove.f kind mir = some true ∧ (∀ i, i < t.length → fmN (t.getD i z34) t.length = true) ∧ ∃ (r : Nat) (X0 : Tr) (b : Bool), larchref16_Root.f k t = some ((r : Int), 0) ∧ mkT t t.length r = some X0 ∧ (a == (r : Int)) = b ∧
  ((plaT a X0 = .nil ∧ X = .nil ∧ rt = false ∧ e = 1) ∨ (plaT a X0 = X ∧ X ≠ .nil ∧ rt = b ∧ e = 0)))
theorem asked_any (k : Nat) (A0 : Option Addr) (c0 : Nat) (t : List S34) (a kind : Int) (mir : Bool) (X : Tr) (rt : Bool) (e : Int) (w : World) (hr0 : Kd.C k34 w A0 t.length t) (hc0 : t.length ≤ c0) (h : AskR k t a kind mir X rt e) :
  Calls Try.prog 52 #[.slice A0 t.length c0, .int .i64 a, .agg #[.int .i64 kind, .bool mir]] w fun ed w' => ∃ p, ed = .returned (.tuple #[.pointer p, .bool rt, .int .i64 e]) ∧ Rp (fun _ => True) w' (.pointer p) X ∧ Below w.heap.size w w' := by
 have HR0 := Am hr0
 have HC0 := Am hc0
 clear hr0 hc0
 rcases h with ⟨h1, h2, rfl, rfl⟩ | ⟨h1, r, h2, h3, rfl, rfl⟩ | ⟨h1, r, h2, h3, rfl, rfl, rfl⟩ | ⟨h1, h2, hf, r, X0, b, h3, h4, h5, h6⟩
 ·have H1 := Am h1
  clear h1
  go_enter Try.func52, Try.ntmps52
  go_wp2_with (fail)
  refine (larchref16_Check.calls k A0 c0 t e _ (Kd.C_below HR0.out (ba (Below.refl _ _) _)) HC0.out H1.out).mono ?_
  rintro _ w1 ⟨rfl, hb⟩
  have hk := (hb.block w.heap.size (by simp)).trans (heap_alloc_new w (.cells #[.int .i64 kind, .bool mir] 24))
  have HB := Am ((ba (Below.refl w.heap.size w) _).trans (hb.mono (by simp)))
  have HK := Am hk
  clear hb hk
  go_wp2
  go_ret3
  exact ⟨none, rfl, rfl, HB.out⟩
 ·have H1 := Am h1
  have H2 := Am h2
  clear h1 h2
  go_enter Try.func52, Try.ntmps52
  go_wp2_with (fail)
  refine (larchref16_Check.calls k A0 c0 t 0 _ (Kd.C_below HR0.out (ba (Below.refl _ _) _)) HC0.out H1.out).mono ?_
  rintro _ w1 ⟨rfl, hb⟩
  have hk := (hb.block w.heap.size (by simp)).trans (heap_alloc_new w (.cells #[.int .i64 kind, .bool mir] 24))
  have HB := Am ((ba (Below.refl w.heap.size w) _).trans (hb.mono (by simp)))
  have HK := Am hk
  clear hb hk
  go_wp2_with (fail)
  refine (larchref16_Root.calls k A0 c0 t r e _ (Kd.C_below HR0.out HB.out) HC0.out H2.out).mono ?_
  rintro _ w2 ⟨rfl, hb⟩
  have hk := (hb.block w.heap.size (blk_lt HK.out)).trans HK.out
  have HB2 := Am (bel_t' HB.out hb)
  have HK2 := Am hk
  have z0 : w2.cell? ⟨w.heap.size, 0, none⟩ = some (.int .i64 kind) := (cell_of hk 0).trans rfl
  have z1 : w2.cell? ⟨w.heap.size, 1, none⟩ = some (.bool mir) := (cell_of hk 1).trans rfl
  clear hb hk HK HB
  go_wp2
  go_ret3
  exact ⟨none, rfl, rfl, HB2.out⟩
 ·have H1 := Am h1
  have H2 := Am h2
  have H3 := Am h3
  clear h1 h2 h3
  go_enter Try.func52, Try.ntmps52
  go_wp2_with (fail)
  refine (larchref16_Check.calls k A0 c0 t 0 _ (Kd.C_below HR0.out (ba (Below.refl _ _) _)) HC0.out H1.out).mono ?_
  rintro _ w1 ⟨rfl, hb⟩
  have hk := (hb.block w.heap.size (by simp)).trans (heap_alloc_new w (.cells #[.int .i64 kind, .bool mir] 24))
  have HB := Am ((ba (Below.refl w.heap.size w) _).trans (hb.mono (by simp)))
  have HK := Am hk
  clear hb hk
  go_wp2_with (fail)
  refine (larchref16_Root.calls k A0 c0 t r 0 _ (Kd.C_below HR0.out HB.out) HC0.out H2.out).mono ?_
  rintro _ w2 ⟨rfl, hb⟩
  have hk := (hb.block w.heap.size (blk_lt HK.out)).trans HK.out
  have HB2 := Am (bel_t' HB.out hb)
  have HK2 := Am hk
  have z0 : w2.cell? ⟨w.heap.size, 0, none⟩ = some (.int .i64 kind) := (cell_of hk 0).trans rfl
  have z1 : w2.cell? ⟨w.heap.size, 1, none⟩ = some (.bool mir) := (cell_of hk 1).trans rfl
  clear hb hk HK HB
  go_wp2_with (fail)
  refine (larchref18_IsMove.calls kind mir false _ H3.out).mono ?_
  rintro _ w3 ⟨rfl, hb⟩
  have HB3 := Am (bel_t' HB2.out hb)
  clear hb HB2 HK2 z0 z1
  go_wp2
  go_ret3
  exact ⟨none, rfl, rfl, HB3.out⟩
 ·have H1 := Am h1
  have H3 := Am h2
  have H2 := Am h3
  have HM := Am h4
  have HF := Am hf
  have H6 := Am h6
  clear h1 h2 h3 h4 hf h6
  go_enter Try.func52, Try.ntmps52
  go_wp2_with (fail)
  refine (larchref16_Check.calls k A0 c0 t 0 _ (Kd.C_below HR0.out (ba (Below.refl _ _) _)) HC0.out H1.out).mono ?_
  rintro _ w1 ⟨rfl, hb⟩
  have hk := (hb.block w.heap.size (by simp)).trans (heap_alloc_new w (.cells #[.int .i64 kind, .bool mir] 24))
  have HB := Am ((ba (Below.refl w.heap.size w) _).trans (hb.mono (by simp)))
  have HK := Am hk
  clear hb hk
  go_wp2_with (fail)
  refine (larchref16_Root.calls k A0 c0 t r 0 _ (Kd.C_below HR0.out HB.out) HC0.out H2.out).mono ?_
  rintro _ w2 ⟨rfl, hb⟩
  have hk := (hb.block w.heap.size (blk_lt HK.out)).trans HK.out
  have HB2 := Am (bel_t' HB.out hb)
  have HK2 := Am hk
  have z0 : w2.cell? ⟨w.heap.size, 0, none⟩ = some (.int .i64 kind) := (cell_of hk 0).trans rfl
  have z1 : w2.cell? ⟨w.heap.size, 1, none⟩ = some (.bool mir) := (cell_of hk 1).trans rfl
  clear hb hk HK HB
  go_wp2_with (fail)
  refine (larchref18_IsMove.calls kind mir true _ H3.out).mono ?_
  rintro _ w3 ⟨rfl, hb⟩
  have HB3 := Am (bel_t' HB2.out hb)
  clear hb HB2 HK2 z0 z1
  go_wp2_with (fail)
  refine (rgrow_any A0 c0 t HF.out _ r X0 _ (Kd.C_below HR0.out HB3.out) HC0.out HM.out).mono ?_
  rintro _ w4 ⟨p1, rfl, h1, hb⟩
  have HB4 := Am (bel_t' HB3.out hb)
  have HT := Am h1
  clear hb h1 HB3
  go_wp2_with (fail)
  refine (rplace_any a X0 _ _ HT.out).mono ?_
  rintro _ w5 ⟨p2, rfl, h1, rfl⟩
  rcases H6.out with ⟨e1, rfl, rfl, rfl⟩ | ⟨e1, e2, rfl, rfl⟩
  ·rw [e1] at h1
   obtain ⟨rfl⟩ := h1
   go_wp2
   go_ret3
   exact ⟨none, rfl, rfl, HB4.out⟩
  ·rw [e1] at h1
   obtain ⟨ad, e3⟩ := h1.some e2
   cases e3
   have HX := Am (Rp.mono (S' := fun _ => True) (fun _ _ => trivial) h1)
   clear h1 e1
   go_wp2
   go_ret3
   exact ⟨_, rfl, HX.out, HB4.out⟩
def sideT (mir : Bool) (X : Tr) : Tr := if mir then mirT X else X
theorem side_any (p : Option Addr) (X : Tr) (kind : Int) (mir : Bool) (w : World) (h : Rp (fun _ => True) w (.pointer p) X) :
  Calls Try.prog 54 #[.pointer p, .agg #[.int .i64 kind, .bool mir]] w fun e w' => ∃ q, e = .returned (.pointer q) ∧ Rp (fun _ => True) w' (.pointer q) (sideT mir X) ∧ Below w.heap.size w w' := by
 have H := Am h
 clear h
 cases mir with
 | false =>
  go_enter Try.func54, Try.ntmps54
  go_wp2
  go_ret
  exact ⟨_, rfl, H.out.below (ba (Below.refl _ _) _), ba (Below.refl _ _) _⟩
 | true =>
  go_enter Try.func54, Try.ntmps54
  go_wp2_with (fail)
  refine (rmirrored_any X _ _ (H.out.below (ba (Below.refl _ _) (.cells #[.int .i64 kind, .bool true] 24)))).mono ?_
  rintro _ w1 ⟨q, rfl, h1, hb⟩
  have H1 := Am h1
  have HB := Am ((ba (Below.refl w.heap.size w) _).trans (hb.mono (by simp)))
  clear h1 hb
  go_wp2
  go_ret
  exact ⟨_, rfl, H1.out, HB.out⟩
theorem rcan_all (p : Option Addr) (T : Tr) (rt : Bool) (w : World) (Hx : Aside0 (Rp (fun _ => True) w (.pointer p) T)) (kind : Int) (hk : 1 ≤ kind ∧ kind ≤ 12) :
  Calls Try.prog 53 #[.pointer p, .int .i64 kind, .bool rt] w fun e w' => e = .returned (.bool (canT false rt T kind)) ∧ w' = w := by
 have hd : kind = 1 ∨ kind = 2 ∨ kind = 3 ∨ kind = 4 ∨ kind = 5 ∨ kind = 6 ∨ kind = 7 ∨ kind = 8 ∨ kind = 9 ∨ kind = 10 ∨ kind = 11 ∨ kind = 12 := by omega
 rcases hd with rfl | rfl | rfl | rfl | rfl | rfl | rfl | rfl | rfl | rfl | rfl | rfl
 ·exact rcan1_any p T rt w Hx
 ·exact rcan2_any p T rt w Hx
 ·exact rcan3_any p T rt w Hx
 ·exact rcan4_any p T rt w Hx
 ·exact rcan5_any p T rt w Hx
 ·exact rcan6_any p T rt w Hx
 ·exact rcan7_any p T rt w Hx
 ·exact rcan8_any p T rt w Hx
 ·exact rcan9_any p T rt w Hx
 ·exact rcan10_any p T rt w Hx
 ·exact rcan11_any p T rt w Hx
 ·exact rcan12_any p T rt w Hx
theorem side_can (mir rt : Bool) {X : Tr} (h : Ok X) (kind : Int) : canT false rt (sideT mir X) kind = canT mir rt X kind := by
 cases mir with
 | false => rfl
 | true => exact mir_can true rt (two_ok h) kind
theorem c2_of {W : World} {g : Nat} {t : TypeId} {a b : Value} (h : W.heap[g]? = some (.cells #[a, b] t (0, 0))) : W.cell? ⟨g, 0, none⟩ = some a ∧ W.cell? ⟨g, 1, none⟩ = some b := ⟨(cell_of h 0).trans rfl, (cell_of h 1).trans rfl⟩
def allM : List S24 := [⟨1, false⟩, ⟨2, false⟩, ⟨2, true⟩, ⟨3, false⟩, ⟨3, true⟩, ⟨4, false⟩, ⟨4, true⟩, ⟨5, false⟩, ⟨5, true⟩, ⟨6, false⟩, ⟨6, true⟩, ⟨7, false⟩, ⟨7, true⟩, ⟨8, false⟩, ⟨8, true⟩, ⟨9, false⟩, ⟨9, true⟩, ⟨10, false⟩, ⟨10, true⟩, ⟨11, false⟩, ⟨12, false⟩]
theorem all_f : larchref18_All.f 20 = some allM := by kernel_rfl
def hereL (rt : Bool) (X : Tr) : List S24 := allM.filter (fun m => canT m.f1 rt X m.f0)
theorem take_filter {α : Type} (P : α → Bool) (l : List α) (i : Nat) (d : α) (h : i < l.length) : (l.take (i + 1)).filter P = (l.take i).filter P ++ (if P (l.getD i d) then [l.getD i d] else []) := by
 rw [← List.take_append_getElem h, List.filter_append, List.filter_cons, List.filter_nil, List.getD, List.getElem?_eq_getElem h, Option.getD_some]
def allS : List S62 := allM.map (fun m => ⟨m.f0, m.f1⟩)
theorem sall_f : steps_All.f 20 = some allS := by kernel_rfl
theorem allS_ok : ∀ i, i < 21 → 1 ≤ (allS.getD i z62).f0 ∧ (allS.getD i z62).f0 ≤ 12 := by decide
def hereS (rt : Bool) (X : Tr) : List S62 := allS.filter (fun m => canT m.f1 rt X m.f0)
theorem hereS_map (rt : Bool) (X : Tr) : (hereS rt X).map (fun m => (⟨m.f0, m.f1⟩ : S24)) = hereL rt X := by
 have : ∀ l : List S24, ((l.map (fun m => (⟨m.f0, m.f1⟩ : S62))).filter (fun m => canT m.f1 rt X m.f0)).map (fun m => (⟨m.f0, m.f1⟩ : S24)) = l.filter (fun m => canT m.f1 rt X m.f0) := by
  intro l
  induction l with
  | nil => rfl
  | cons a l ih =>
   rw [List.map_cons, List.filter_cons, List.filter_cons]
   split
   ·rw [List.map_cons, ih]
   ·exact ih
 exact this allM
theorem here_any {S : Nat → Prop} (p : Option Addr) (T : Tr) (rt : Bool) (w : World) (h : Rep S w (.pointer p) T) :
  Calls Try.prog 50 #[.pointer p, .bool rt] w fun ed w' => ∃ v, ed = .returned v ∧ Kd.R k62 62 w' w.heap.size (fun _ => True) v (hereS rt T) ∧ Below w.heap.size w w' := by
 have HT0 := Am h
 clear h
 go_enter Try.func50, Try.ntmps50
 go_wp2_with (fail)
 refine (steps_All.calls 20 allS _ sall_f).mono ?_
 rintro _ w2 ⟨vl, rfl, ho, hb⟩
 obtain ⟨Al, cl, rfl⟩ := Kd.R_slice ho
 have HL := Am (Kd.R_reads' ho).2.2
 have HB2 := Am hb
 have HT := Am (HT0.out.below hb)
 clear ho hb HT0
 have h21 : allS.length = 21 := rfl
 go_wp2
 go_loopg [5, 10] 22 (fun kq v5 v10 w' => ∃ i : Nat, v10 = .int .i64 i ∧ Aside0 (i ≤ 21 ∧ kq + i = 22) ∧ Aside0 (Kd.R k62 62 w' w2.heap.size (fun _ => True) v5 ((allS.take i).filter (fun m => canT m.f1 rt T m.f0))) ∧ Aside0 (Below w2.heap.size w2 w'))
 case atStart => exact ⟨0, rfl, ⟨by decide, rfl⟩, ⟨Kd.R_nil _ _ _ _ _⟩, ⟨Below.refl _ _⟩⟩
 case round =>
  obtain ⟨i, rfl, HI, HO, HW⟩ := hrel
  obtain ⟨kq1, rfl⟩ : ∃ x, gk = x + 1 := ⟨gk - 1, by have := HI.out; omega⟩
  by_cases q1 : i < 21
  ·obtain ⟨m2, m3⟩ := allS_ok i q1
   obtain ⟨ad1, e1, x0, x1⟩ := at_T62 (Kd.C_below HL.out HW.out) (i : Int) (by omega) (by omega)
   cases e1
   rw [Int.toNat_natCast, show rd_T62 allS (i : Int) = allS.getD i z62 from rfl] at x0 x1
   have p5 : (0 ≤ (i : Int)) = True := eq_true (by omega)
   have p6 : ((i : Int) < (allS.length : Int)) = True := eq_true (by omega)
   have p7 : decide ((i : Int) < (allS.length : Int)) = true := decide_eq_true (by omega)
   have hstep := take_filter (fun m : S62 => canT m.f1 rt T m.f0) allS i z62 (by omega)
   generalize hm : allS.getD i z62 = m at m2 m3 x0 x1 hstep
   have HLn : Aside0 (((allS.take i).filter (fun m => canT m.f1 rt T m.f0)).length ≤ 21) := ⟨Nat.le_trans (List.length_filter_le _ _) (by rw [List.length_take]; omega)⟩
   have HS := Am hstep
   have HM := Am (And.intro m2 m3)
   clear m2 m3 hstep hm h21
   go_wp2
   clear x0 x1 p5 p6 p7
   refine sT 7 [] (S := fun W' => Below w2.heap.size w2 W' ∧ W'.heap[wr.heap.size]? = some (.cells #[.int .i64 m.f0, .bool m.f1] 62 (0, 0)) ∧ Kd.R k62 62 W' w2.heap.size (fun _ => True) u5 ((allS.take i).filter (fun m => canT m.f1 rt T m.f0))) ⟨below_drew (ba HW.out _), heap_alloc_new wr _, Kd.R_drew (Kd.R_alloc HO.out _)⟩ fun hHeld => ?_
   refine pu 0 14 ?_
   refine ta 1 15 hHeld (hy := by intro w' hs; obtain ⟨y0, y1⟩ := c2_of hs.2.1; go_simp; with_reducible rfl) ?_
   refine pu 2 16 ?_
   refine pu 4 18 ?_
   refine ta 5 19 hHeld (hy := by intro w' hs; obtain ⟨y0, y1⟩ := c2_of hs.2.1; go_simp; with_reducible rfl) ?_
   refine on 3 17 fun K hK => ?_
   refine gO Try.func63 #[.pointer p, .agg #[.int .i64 m.f0, .bool m.f1], .bool rt] ?_
   refine (look_any (S := S) p T m.f0 m.f1 rt _ (HT.out.below hHeld.1)).mono ?_
   rintro e w4 ⟨pl, pr, pll, plr, prl, prr, pa, pb, rfl, hb4, hl, hr, hll, hlr, hrl, hrr, ha, hb⟩
   have HS4 := Am (And.intro (hHeld.1.trans (hb4.mono hHeld.1.size)) (And.intro ((hb4.block wr.heap.size (blk_lt hHeld.2.1)).trans hHeld.2.1) (Kd.R_below hHeld.2.2 hb4)))
   have Hl := Am (hl.below hb4)
   have Hr := Am (hr.below hb4)
   have Hll := Am (hll.below hb4)
   have Hlr := Am (hlr.below hb4)
   have Hrl := Am (hrl.below hb4)
   have Hrr := Am (hrr.below hb4)
   have Ha := Am (ha.below hb4)
   have Hb := Am (hb.below hb4)
   clear hl hr hll hlr hrl hrr ha hb hb4
   refine ⟨_, rfl, ?_⟩
   refine hK.out _ _ HS4.out (fun hHeld => ?_)
   clear hK K
   refine nm 17 ?_
   refine on 6 20 fun K hK => ?_
   refine gO Try.func64 #[.agg #[.bool m.f1, .pointer p, .pointer pl, .pointer pr, .pointer pll, .pointer plr, .pointer prl, .pointer prr, .pointer pa, .pointer pb, .bool rt], .int .i64 m.f0] ?_
   refine (can_any (S := S) m.f1 rt p pl pr pll plr prl prr pa pb T w4 ⟨HT.out.below HS4.out.1⟩ Hl Hr Hll Hlr Hrl Hrr Ha Hb m.f0 HM.out).mono ?_
   rintro e w5 ⟨rfl, hb5⟩
   have HS5 := Am (And.intro (HS4.out.1.trans (hb5.mono HS4.out.1.size)) (And.intro ((hb5.block wr.heap.size (blk_lt HS4.out.2.1)).trans HS4.out.2.1) (Kd.R_below HS4.out.2.2 hb5)))
   clear hb5
   refine ⟨_, rfl, ?_⟩
   refine hK.out _ _ HS5.out (fun hHeld => ?_)
   clear hK K
   refine nm 20 ?_
   refine done_ (by kernel_rfl) ?_
   obtain ⟨y0, y1⟩ := c2_of HS5.out.2.1
   cases hc : canT m.f1 rt T m.f0
   ·go_wp2
    go_roundg kq1
    case measure => omega
    case rel => exact ⟨i + 1, by first | rfl | (rw [Go.IntWalk.wrap64_in _ (by omega)]; rfl), ⟨by omega, by have := HI.out.2; omega⟩, ⟨by rw [HS.out, hc, if_neg (by simp), List.append_nil]; exact HS5.out.2.2⟩, ⟨HS5.out.1⟩⟩
   ·go_wp2_with (first | ((with_reducible refine gate_builtin (b := .append) (xs := #[.tmp 21, .tmp 23]) rfl ?_); at_builtin; refine Kd.R_append k62 (w0 := w2) w2.heap.size rfl (.tmp 21) (.tmp 23) 40 62 (.agg #[(.int .i64 0), (.bool false)]) 16 rfl Try.underlying40 info62 rfl (by decide) (by omega) u5 ((allS.take i).filter (fun m => canT m.f1 rt T m.f0)) m [.int .i64 m.f0, .bool m.f1] (fun _ => True) (fun _ => False) rfl rfl ?aP (fun _ hk => hk.elim) ?aF ?aO ?aB ?aS ?aL ?_; (case aP => exact k62_mkM _ _ _ m); (case aB => exact HS5.out.1); (case aF => exact (fun _ _ => trivial)); (case aO => exact HS5.out.2.2); (case aS => exact (below_size HS5.out.1)); (case aL => have := HLn.out; omega); intro vN wN hoN hbN hgN hatN; have HoN := Am hoN; have HbN := Am hbN; clear hoN hbN hgN hatN))
    go_roundg kq1
    case measure => omega
    case rel => exact ⟨i + 1, by first | rfl | (rw [Go.IntWalk.wrap64_in _ (by omega)]; rfl), ⟨by omega, by have := HI.out.2; omega⟩, ⟨by rw [HS.out, hc, if_pos rfl]; exact HoN.out⟩, ⟨HbN.out⟩⟩
  ·have p7 : decide ((i : Int) < (allS.length : Int)) = false := decide_eq_false (by omega)
   have hi := HI.out.1
   have HO9 := Am (show Kd.R k62 62 wr w2.heap.size (fun _ => True) u5 (hereS rt T) by
    have := HO.out
    rw [List.take_of_length_le (by omega)] at this
    exact this)
   clear HO
   go_wp2
   go_ret
   exact ⟨_, rfl, Kd.R_lower HO9.out HB2.out.size, HB2.out.trans (HW.out.mono HB2.out.size)⟩
theorem R_okv' {e : Nat} {w : World} {base : Nat} {ok : Nat → Prop} {v : Value} {xs : List S62} (h : Kd.R k62 e w base ok v xs) {Q : Nat → Prop} (hQ : ∀ k, v.ownBlock = some k → Q k) : Kd.R k62 e w base Q v xs := by
 obtain ⟨h1, cs, h2, h3, h4⟩ := h
 refine ⟨hQ, cs, h2, h3, fun j p hj => ?_⟩
 have e := k62_openM (h4 j p hj)
 rw [e]
 exact k62_mkM _ _ _ p
theorem R_ok' {e : Nat} {w : World} {base : Nat} {ok : Nat → Prop} {v : Value} {xs : List S62} (h : Kd.R k62 e w base ok v xs) {Q : Nat → Prop} (hQ : ∀ k, base ≤ k → Q k) : Kd.R k62 e w base Q v xs := by
 refine R_okv' h (fun k hk => ?_)
 obtain ⟨h1, cs, h2, h3, h4⟩ := h
 rcases h2.2 with ⟨rfl, _⟩ | ⟨g, c, cur, rfl, hg, _⟩
 ·simp [Value.ownBlock] at hk
 ·simp only [Value.ownBlock, Option.some.injEq] at hk
  exact hQ k (by omega)
theorem R_sym' {e e' : Nat} {w w' : World} {b b' : Nat} {ok : Nat → Prop} {v v' : Value} {xs xs' : List S62} (h : Kd.R k62 e w b ok v xs) (h' : Kd.R k62 e' w' b' (fun k => some k ≠ v.ownBlock) v' xs') : Kd.R k62 e w b (fun k => some k ≠ v'.ownBlock) v xs :=
 R_okv' h (fun k hk e => h'.1 k e.symm hk.symm)
theorem box_kept {α : Type} {d : Kd α} {e : Nat} {W W1 : World} {base g : Nat} {ok : Nat → Prop} {v : Value} {xs : List α} {c : Array Value} {t : Nat} (hb : W.heap[g]? = some (.cells c t (0, 0))) (h : Kd.R d e W base ok v xs) (hg : W.grownBy W1 v.ownBlock) (hne : e ≠ t) : W1.heap[g]? = some (.cells c t (0, 0)) := by
 refine (hg.block g (blk_lt hb) (fun e' => ?_)).trans hb
 obtain ⟨cells, hc⟩ := Kd.R_typed h g e'.symm
 rw [hb] at hc
 simp only [Option.some.injEq, Obj.cells.injEq] at hc
 exact hne hc.2.1.symm
theorem box_own {e : Nat} {W W1 : World} {base g : Nat} {v : Value} {xs : List S62} {c : Array Value} {t : Nat} {P : Nat → Prop} (hb : W.heap[g]? = some (.cells c t (0, 0))) (h : Kd.R k62 e W base (fun k => P k ∧ k ≠ g) v xs) (hg : W.grownBy W1 v.ownBlock) : W1.heap[g]? = some (.cells c t (0, 0)) :=
 (hg.block g (blk_lt hb) (fun e' => (h.1 g e'.symm).2 rfl)).trans hb
theorem reps62 (W : World) (b : Nat) (ok : Nat → Prop) (m : S62) : Reps (k62.M W b ok) k62.sz [m] [.int .i64 m.f0, .bool m.f1] := ⟨rfl, fun j p hj => by
 cases j with
 | zero => simp at hj; subst hj; exact k62_mkM _ _ _ m
 | succ j => simp at hj⟩
def sqM (H : Nat → List S62) (n : Nat) : List S62 := (List.range n).flatMap H
def sqP (H : Nat → List S62) (n : Nat) : List Int := (List.range n).flatMap (fun i => List.replicate (H i).length (i : Int))
theorem sqM_succ (H : Nat → List S62) (n : Nat) : sqM H (n + 1) = sqM H n ++ H n := by simp [sqM, List.range_succ]
theorem sqP_succ (H : Nat → List S62) (n : Nat) : sqP H (n + 1) = sqP H n ++ List.replicate (H n).length (n : Int) := by simp [sqP, List.range_succ]
theorem sq_len {H : Nat → List S62} (h : ∀ i, (H i).length ≤ 21) : ∀ n, (sqM H n).length ≤ 21 * n ∧ (sqP H n).length ≤ 21 * n
 | 0 => ⟨by simp [sqM], by simp [sqP]⟩
 | n + 1 => by
  obtain ⟨h1, h2⟩ := sq_len h n
  have := h n
  rw [sqM_succ, sqP_succ, List.length_append, List.length_append, List.length_replicate]
  omega
theorem sspots_err (k : Nat) (A0 : Option Addr) (c0 : Nat) (t : List S34) (r1 : Int) (r2 : List Bool) (e : Int) (w : World) (hr0 : Kd.C k34 w A0 t.length t) (hc0 : t.length ≤ c0) (h : steps_keys.f k t = some (r1, r2, e)) (he : (e != 0) = true) :
  Calls Try.prog 16 #[.slice A0 t.length c0] w (RB w (.tuple #[.slice none 0 0, .slice none 0 0, .int .i64 e])) := by
 have HR0 := Am hr0
 have HC0 := Am hc0
 have H1 := Am h
 clear hr0 hc0 h
 go_enter Try.func16, Try.ntmps16
 go_wp2_with (fail)
 refine (steps_keys.calls k A0 c0 t r1 r2 e _ HR0.out HC0.out H1.out).mono ?_
 rintro _ w1 ⟨v1, rfl, ho, hb⟩
 obtain ⟨Av, cv, rfl⟩ := Kd.R_slice ho
 have HB := Am hb
 clear hb ho
 go_wp2
 go_ret3
 exact ⟨rfl, HB.out⟩
theorem sspots_ok (k : Nat) (A0 : Option Addr) (c0 : Nat) (t : List S34) (r : Int) (met : List Bool) (H : Nat → List S62) (w : World) (hr0 : Kd.C k34 w A0 t.length t) (hc0 : t.length ≤ c0) (hlen : t.length ≤ 1000) (h1 : steps_keys.f k t = some (r, met, 0)) (hml : met.length = t.length) (h21 : ∀ i, (H i).length ≤ 21)
  (hc : ∀ i, i < t.length → 0 ≤ (t.getD i z34).f4 → (t.getD i z34).f4 < t.length ∧ 0 ≤ (t.getD i z34).f5 ∧ (t.getD i z34).f5 < t.length)
  (hA : ∀ i : Nat, i < t.length → (met.getD i false = true → ∃ K X, mkT t K i = some X ∧ hereS ((i : Int) == r) X = H i) ∧ (met.getD i false = false → H i = [])) :
  Calls Try.prog 16 #[.slice A0 t.length c0] w fun ed w' => ∃ v1 v2, ed = .returned (.tuple #[v1, v2, .int .i64 0]) ∧ Kd.R (Kd.int .i64) 3 w' w.heap.size (fun _ => True) v1 (sqP H t.length) ∧ Kd.R k62 62 w' w.heap.size (fun _ => True) v2 (sqM H t.length) ∧ Below w.heap.size w w' := by
 have HR0 := Am hr0
 have HC0 := Am hc0
 have H1 := Am h1
 have H21 := Am h21
 have HA := Am hA
 have HLN := Am hlen
 have HCC := Am hc
 have HML := Am hml
 clear hr0 hc0 h1 hA h21 hlen hc hml
 go_enter Try.func16, Try.ntmps16
 go_wp2_with (fail)
 refine (steps_keys.calls k A0 c0 t r met 0 _ HR0.out HC0.out H1.out).mono ?_
 rintro _ w1 ⟨v1, rfl, ho, hb⟩
 obtain ⟨Av, cv, rfl⟩ := Kd.R_slice ho
 have HB := Am hb
 have HMet := Am (Kd.R_reads' ho).2.2
 clear hb ho
 go_wp2_with (fail)
 refine (grow_any A0 c0 t _ (Kd.C_below HR0.out HB.out) (by have := HLN.out; omega) HCC.out).mono ?_
 rintro _ w2 ⟨rfl, hfo⟩
 have HFO := Am hfo
 have HB2 := Am (bel_t' HB.out hfo.bel)
 clear hfo
 go_wp2
 go_loopg [9, 10, 28] (t.length + 1) (fun kq v9 v10 v28 w' => ∃ i : Nat, v28 = .int .i64 i ∧ Aside0 (i ≤ t.length ∧ kq + i = t.length + 1) ∧ Aside0 (Kd.R (Kd.int .i64) 3 w' w2.heap.size (fun _ => True) v9 (sqP H i)) ∧ Aside0 (Kd.R k62 62 w' w2.heap.size (fun _ => True) v10 (sqM H i)) ∧ Aside0 (Below w2.heap.size w2 w'))
 case atStart => exact ⟨0, rfl, ⟨Nat.zero_le _, rfl⟩, ⟨Kd.R_nil _ _ _ _ _⟩, ⟨Kd.R_nil _ _ _ _ _⟩, ⟨Below.refl _ _⟩⟩
 case round =>
  obtain ⟨i, rfl, HI, HP, HM, HW⟩ := hrel
  obtain ⟨kq1, rfl⟩ : ∃ x, gk = x + 1 := ⟨gk - 1, by have := HI.out; omega⟩
  by_cases q1 : i < t.length
  ·have p7 : decide ((i : Int) < (t.length : Int)) = true := decide_eq_true (by omega)
   have p6 : decide (i < t.length) = true := decide_eq_true q1
   have p5 : (0 ≤ (i : Int)) = True := eq_true (by omega)
   have p4 : ((i : Int) < (t.length : Int)) = True := eq_true (by omega)
   have p3 : ((i : Int) < (met.length : Int)) = True := eq_true (by have := HML.out; omega)
   have hcellP : wr.cell? ⟨w1.heap.size, i, none⟩ = some (.pointer (nb w1.heap.size i)) := by
    have := rowIs_cell HFO.out.ptrs i q1
    rw [if_pos q1] at this
    exact (HW.out.cell (p := ⟨w1.heap.size, i, none⟩) (rowIs_lt HFO.out.ptrs)).trans this
   obtain ⟨adB, eB, hxB⟩ := Kd.at_bool (Kd.C_below (Kd.C_below HMet.out HFO.out.bel) HW.out) (i : Int) (by omega) (by have := HML.out; omega)
   cases eB
   obtain ⟨ha1, ha2⟩ := HA.out i q1
   have HI1 := Am (show i < t.length from q1)
   rw [show rdOf false met (i : Int) = met.getD i false from rfl, Int.toNat_natCast] at hxB
   cases hmt : met.getD i false with
   | false =>
    have hH := ha2 hmt
    rw [hmt] at hxB
    have HP9 := Am (show Kd.R (Kd.int .i64) 3 wr w2.heap.size (fun _ => True) u9 (sqP H (i + 1)) by
     rw [sqP_succ, hH, List.length_nil, List.replicate_zero, List.append_nil]; exact HP.out)
    have HM9 := Am (show Kd.R k62 62 wr w2.heap.size (fun _ => True) u10 (sqM H (i + 1)) by
     rw [sqM_succ, hH, List.append_nil]; exact HM.out)
    clear HP HM ha1 ha2 hH hmt
    go_wp2
    go_roundg kq1
    case measure => omega
    case rel => exact ⟨i + 1, by have := HLN.out; first | rfl | (rw [Go.IntWalk.wrap64_in _ (by omega)]; rfl), ⟨by omega, by have := HI.out.2; omega⟩, HP9, HM9, HW⟩
   | true =>
    rw [hmt] at hxB
    obtain ⟨K, X, hX, hH⟩ := ha1 hmt
    have hrep := forest_rep HFO.out hX K i X hX (Nat.le_refl _)
    have HRep := Am (hrep.below HW.out)
    have hspl := sq_len H21.out i
    have hl21 := H21.out i
    have HSP := Am (And.intro hspl.1 hspl.2)
    generalize hL : H i = L at hH hl21
    have HLL := Am hL
    have HL21 := Am hl21
    have HHX := Am hH
    clear ha1 ha2 hmt hX hH hrep hspl hl21 hL q1
    generalize hP : sqP H i = P at *
    generalize hM : sqM H i = M at *
    have HPP := Am hP
    have HMM := Am hM
    clear hP hM
    go_wp2_with (fail)
    refine (here_any _ X ((i : Int) == r) _ HRep.out).mono ?_
    rintro _ w4 ⟨vl, rfl, ho, hb⟩
    rw [HHX.out] at ho
    have hlt := Kd.R_lt HM.out
    obtain ⟨Al, cl, rfl⟩ := Kd.R_slice ho
    have HLr0 := Am (Kd.R_lower (R_ok' ho (Q := fun k_ => some k_ ≠ (u10 : Value).ownBlock) (fun k_ hk => Kd.fresh' hlt k_ hk)) HW.out.size)
    have HP0 := Am (Kd.R_below HP.out hb)
    have HM0 := Am (Kd.R_below HM.out hb)
    have HW0 := Am (HW.out.trans (hb.mono HW.out.size))
    clear ho hb HP HM HW hlt p7 p6 p5 p4 p3 hcellP hxB
    go_wp2
    go_loopg [9, 10, 44] (L.length + 1) (fun kq v9 v10 v44 w' => ∃ n : Nat, v44 = .int .i64 n ∧ Aside0 (n ≤ L.length ∧ kq + n = L.length + 1) ∧ Aside0 (Kd.R (Kd.int .i64) 3 w' w2.heap.size (fun _ => True) v9 (P ++ List.replicate n (i : Int))) ∧ Aside0 (Kd.R k62 62 w' w2.heap.size (fun k_ => some k_ ≠ (.slice Al L.length cl : Value).ownBlock) v10 (M ++ L.take n)) ∧ Aside0 (Kd.R k62 62 w' w2.heap.size (fun k_ => some k_ ≠ (v10 : Value).ownBlock) (.slice Al L.length cl) L) ∧ Aside0 (Below w2.heap.size w2 w'))
    case atStart => exact ⟨0, rfl, ⟨Nat.zero_le _, rfl⟩, ⟨by simpa using HP0.out⟩, ⟨by simpa using R_sym' HM0.out HLr0.out⟩, HLr0, HW0⟩
    case round =>
     clear HP0 HM0 HLr0 HW0
     obtain ⟨n, rfl, HN, HP, HM, HLr, HW⟩ := hrel
     obtain ⟨kq2, rfl⟩ : ∃ x, gk = x + 1 := ⟨gk - 1, by have := HN.out; omega⟩
     by_cases q2 : n < L.length
     ·have p8 : decide ((n : Int) < (L.length : Int)) = true := decide_eq_true (by omega)
      have p11 : decide (n < L.length) = true := decide_eq_true q2
      have p9 : (0 ≤ (n : Int)) = True := eq_true (by omega)
      have p10 : ((n : Int) < (L.length : Int)) = True := eq_true (by omega)
      obtain ⟨ad1, e1, x0, x1⟩ := at_T62 (Kd.R_reads' HLr.out).2.2 (n : Int) (by omega) (by omega)
      subst e1
      generalize hm : L.getD n z62 = m
      rw [Int.toNat_natCast, show rd_T62 L (n : Int) = L.getD n z62 from rfl, hm] at x0 x1
      have HS : Aside0 ((P ++ List.replicate n (i : Int)).length + 1 ≤ 30000 ∧ (M ++ L.take n).length + 1 ≤ 30000) := ⟨by have := HSP.out; have := HLN.out; have := HL21.out; have := HI.out; simp only [List.length_append, List.length_replicate, List.length_take]; omega⟩
      have htk : L.take (n + 1) = L.take n ++ [m] := by rw [← hm, List.getD, List.getElem?_eq_getElem q2, Option.getD_some, List.take_append_getElem q2]
      have HTK := Am htk
      clear hm htk
      go_wp2
      have hgb := Kd.R_lt HM.out
      have HBw := Am (ba HW.out (.cells #[.int .i64 m.f0, .bool m.f1] 62))
      have HBx := Am (heap_alloc_new wr (.cells #[.int .i64 m.f0, .bool m.f1] 62))
      have H9 := Am (Kd.R_alloc HP.out (.cells #[.int .i64 m.f0, .bool m.f1] 62))
      have H10 := Am (R_okv' (Kd.R_alloc HM.out (.cells #[.int .i64 m.f0, .bool m.f1] 62)) (Q := fun k_ => some k_ ≠ (.slice (some ad1) L.length cl : Value).ownBlock ∧ k_ ≠ wr.heap.size) (fun k hk => ⟨HM.out.1 k hk, fun e => by have := Kd.R_lt HM.out k hk; omega⟩))
      have HLr1 := Am (Kd.R_alloc HLr.out (.cells #[.int .i64 m.f0, .bool m.f1] 62))
      clear HP HM HLr x0 x1 hgb HW
      have HLr := HLr1
      clear HLr1
      generalize (wr.alloc (.cells #[.int .i64 m.f0, .bool m.f1] 62)) = w3 at HBw HBx H9 H10 HLr ⊢
      generalize wr.heap.size = gb at HBx H10 ⊢
      generalize hP2 : P ++ List.replicate n (i : Int) = P2 at H9 HS
      generalize hM2 : M ++ L.take n = M2 at H10 HS
      have HP2 := Am hP2
      have HM2 := Am hM2
      clear hP2 hM2
      refine sT 10 [] (S := fun W' => Below w2.heap.size w2 W' ∧ W'.heap[gb]? = some (.cells #[.int .i64 m.f0, .bool m.f1] 62 (0, 0))) ⟨below_drew HBw.out, HBx.out⟩ fun hHeld => ?_
      refine gen_any (fun W => Below w2.heap.size w2 W ∧ W.heap[gb]? = some (.cells #[.int .i64 m.f0, .bool m.f1] 62 (0, 0)) ∧ Kd.R (Kd.int .i64) 3 W w2.heap.size (fun _ => True) u9 P2 ∧ Kd.R k62 62 W w2.heap.size (fun k_ => some k_ ≠ (.slice (some ad1) L.length cl : Value).ownBlock ∧ k_ ≠ gb) u10 M2 ∧ Kd.R k62 62 W w2.heap.size (fun k_ => some k_ ≠ (u10 : Value).ownBlock) (.slice (some ad1) L.length cl) L) ⟨below_drew HBw.out, HBx.out, Kd.R_drew H9.out, Kd.R_drew H10.out, Kd.R_drew HLr.out⟩ (fun w5 ⟨k1, k2, k3, k4, k5⟩ => ?_)
      clear hHeld HBw HBx H9 H10 HLr
      have HBw := Am k1
      have HBx := Am k2
      have H9 := Am k3
      have H10 := Am k4
      have HLr := Am k5
      have hHeld := And.intro k1 k2
      clear k1 k2 k3 k4 k5
      refine pu 0 48 ?_
      refine pu 1 49 ?_
      refine pu 4 52 ?_
      refine ta 5 53 hHeld (hy := by intro w' hs; obtain ⟨y0, y1⟩ := c2_of hs.2; go_simp; with_reducible rfl) ?_
      refine join_ (σ := Value × Value × Value × Value) 2 #[true, true, true, true, true, true, true, true, false, false] (fun s => [(50, s.1), (51, s.2.1), (54, s.2.2.1), (55, s.2.2.2)]) (fun s W => Below w2.heap.size w2 W ∧ Kd.R (Kd.int .i64) 3 W w2.heap.size (fun _ => True) s.2.1 (P2 ++ [(i : Int)]) ∧ Kd.R k62 62 W w2.heap.size (fun k_ => some k_ ≠ (.slice (some ad1) L.length cl : Value).ownBlock ∧ k_ ≠ gb) s.2.2.2 (M2 ++ [m]) ∧ Kd.R k62 62 W w2.heap.size (fun _ => True) (.slice (some ad1) L.length cl) L) ?_ ?_
      rotate_left
      ·intro hCont
       clear hHeld
       refine two_ (i := 2) (j := 6) (Ni := some 50) (Nj := some 54) #[true, true, true, false, true, true, false, false, false, false] #[true, true, false, false, true, true, true, false, false, false] rfl rfl rfl rfl (by kernel_rfl) (by decide) (by decide) (fun K hK => ?_) (fun K hK => ?_)
       ·refine Kd.R_lit_step (Kd.int .i64) _ 3 ?hg1 (N := 50) ?hd1 (xs := ([(i : Int)] : List Int)) (inner := [.int .i64 (i : Int)]) (ok := fun _ => True) (okp := fun _ => True) ?hr1 ?hp1 (fun _ hk => hk) trivial (Below.refl _ _) (Nat.le_refl _) (by simp) ?_
        case hd1 => rfl
        case hg1 => rfl
        case hr1 => first | (go_simp; done) | (go_simp; rfl)
        case hp1 => exact (Reps.one (show Kd.M (Kd.int .i64) _ _ _ (i : Int) [.int .i64 (i : Int)] from rfl) (Reps.none _ _))
        intro v50 w6 ho hb hg_ hnew_
        clear hg_ hnew_
        have H9' := Am (Kd.R_below H9.out hb)
        have H10' := Am (Kd.R_below H10.out hb)
        have HLr' := Am (Kd.R_below HLr.out hb)
        have HBw' := Am (HBw.out.trans (hb.mono HBw.out.size))
        have HBx' := Am ((hb.block _ (blk_lt HBx.out)).trans HBx.out)
        have H50 := Am (Kd.R_lower ho HBw.out.size)
        clear ho hb
        clear H9 H10 HLr HBw HBx
        have H9 := H9'
        have H10 := H10'
        have HLr := HLr'
        have HBw := HBw'
        have HBx := HBx'
        clear H9' H10' HLr' HBw' HBx'
        obtain ⟨Av50, cv50, ev50⟩ := Kd.R_slice H50.out
        subst ev50
        refine hK.out _ _ ⟨HBw.out, HBx.out⟩ (fun hHeld => ?_)
        clear hK K
        refine nm 50 ?_
        refine two_ (i := 3) (j := 6) (Ni := some 51) (Nj := some 54) #[true, true, true, true, true, true, false, false, false, false] #[true, true, true, false, true, true, true, false, false, false] rfl rfl rfl rfl (by kernel_rfl) (by decide) (by decide) (fun K hK => ?_) (fun K hK => ?_)
        ·refine Kd.R_append_rows_step (Kd.int .i64) (w0 := w2) w2.heap.size (by rfl) (.tmp 48) (.tmp 50) 31 3 (.int .i64 0) 8 rfl Try.underlying31 info3 rfl (by decide) (by omega) u9 P2 ([(i : Int)] : List Int) _ _ _ (fun _ => True) (fun _ => False) rfl rfl ?aO2 ?aR2 (fun _ _ h => h) (fun _ h => h.elim) ?aF2 ?aB2 ?aS2 ?aL2 ?_
         case aR2 => exact (Kd.R_reads' H50.out).2.2
         case aB2 => exact HBw.out
         case aF2 => exact (fun _ _ => trivial)
         case aO2 => exact H9.out
         case aS2 => exact HBw.out.size
         case aL2 => have := HS.out; simp only [List.length_cons, List.length_nil]; omega
         intro v51 w7 ho hb hg hat
         have H10' := Am (Kd.R_over' H10.out (Kd.R_typed H9.out) (by decide) hg)
         have HLr' := Am (Kd.R_over' HLr.out (Kd.R_typed H9.out) (by decide) hg)
         have HBw' := Am hb
         have HBx' := Am (box_kept HBx.out H9.out hg (by decide))
         have H51 := Am ho
         clear ho hb hg hat H9 H50
         clear H10 HLr HBw HBx
         have H10 := H10'
         have HLr := HLr'
         have HBw := HBw'
         have HBx := HBx'
         clear H10' HLr' HBw' HBx'
         refine hK.out _ _ ⟨HBw.out, HBx.out⟩ (fun hHeld => ?_)
         clear hK K
         refine nm 51 ?_
         refine on 6 54 fun K hK => ?_
         refine Kd.R_lit_step k62 _ 62 ?hg3 (N := 54) ?hd3 (xs := ([m] : List S62)) (inner := [.int .i64 m.f0, .bool m.f1]) (ok := fun _ => True) (okp := fun _ => True) ?hr3 ?hp3 (fun _ hk => hk) trivial (Below.refl _ _) (Nat.le_refl _) (by simp) ?_
         case hd3 => rfl
         case hg3 => rfl
         case hr3 => first | (go_simp; done) | (go_simp; rfl)
         case hp3 => exact reps62 _ _ _ m
         intro v54 w8 ho hb hg_ hnew_
         clear hg_ hnew_
         have H10' := Am (Kd.R_below H10.out hb)
         have HLr' := Am (Kd.R_below HLr.out hb)
         have HBw' := Am (HBw.out.trans (hb.mono HBw.out.size))
         have HBx' := Am ((hb.block _ (blk_lt HBx.out)).trans HBx.out)
         have H51' := Am (Kd.R_below H51.out hb)
         have H54 := Am (Kd.R_lower ho HBw.out.size)
         clear ho hb
         clear H10 HLr HBw HBx H51
         have H10 := H10'
         have HLr := HLr'
         have HBw := HBw'
         have HBx := HBx'
         have H51 := H51'
         clear H10' HLr' HBw' HBx' H51'
         obtain ⟨Av54, cv54, ev54⟩ := Kd.R_slice H54.out
         subst ev54
         refine hK.out _ _ ⟨HBw.out, HBx.out⟩ (fun hHeld => ?_)
         clear hK K
         refine nm 54 ?_
         refine on 7 55 fun K hK => ?_
         refine Kd.R_append_rows_step k62 (Rr := k62.K w8) (w0 := w2) w2.heap.size (by rfl) (.tmp 52) (.tmp 54) 40 62 (.agg #[(.int .i64 0), (.bool false)]) 16 rfl Try.underlying40 info62 rfl (by decide) (by omega) u10 M2 ([m] : List S62) _ _ _ (fun k_ => some k_ ≠ (.slice (some ad1) L.length cl : Value).ownBlock ∧ k_ ≠ gb) (fun _ => False) rfl rfl ?aO4 ?aR4 ?aK4 (fun _ h => h.elim) ?aF4 ?aB4 ?aS4 ?aL4 ?_
         case aR4 => exact (Kd.R_reads' H54.out).2.2
         case aK4 => intro x cs h; rw [k62_open h]; exact k62_mkM _ _ _ x
         case aB4 => exact HBw.out
         case aF4 => exact (fun k_ hk => ⟨Kd.fresh' (Kd.R_lt HLr.out) k_ hk, by have := blk_lt HBx.out; omega⟩)
         case aO4 => exact H10.out
         case aS4 => exact HBw.out.size
         case aL4 => have := HS.out; simp only [List.length_cons, List.length_nil]; omega
         intro v55 w9 ho hb hg hat
         have HLr' := Am (Kd.R_after (ok := (fun _ => True)) (Kd.R_mono HLr.out (fun _ hk => ⟨trivial, hk⟩)) hg hat)
         have H51' := Am (Kd.R_over' H51.out (Kd.R_typed H10.out) (by decide) hg)
         have HBw' := Am hb
         have HBx' := Am (box_own HBx.out H10.out hg)
         have H55 := Am ho
         clear ho hb hg hat H10 H54
         clear HLr H51 HBw HBx
         have HLr := HLr'
         have H51 := H51'
         have HBw := HBw'
         have HBx := HBx'
         clear HLr' H51' HBw' HBx'
         refine hK.out _ _ ⟨HBw.out, HBx.out⟩ (fun hHeld => ?_)
         clear hK K
         refine nm 55 ?_
         exact norm_ (by simp only [putAll, Act.put, sI, sZ, sS]; rfl) (hCont (_, v51, _, v55) _ ⟨HBw.out, H51.out, H55.out, R_okv' HLr.out (fun _ _ => trivial)⟩)
        ·refine Kd.R_lit_step k62 _ 62 ?hg5 (N := 54) ?hd5 (xs := ([m] : List S62)) (inner := [.int .i64 m.f0, .bool m.f1]) (ok := fun _ => True) (okp := fun _ => True) ?hr5 ?hp5 (fun _ hk => hk) trivial (Below.refl _ _) (Nat.le_refl _) (by simp) ?_
         case hd5 => rfl
         case hg5 => rfl
         case hr5 => first | (go_simp; done) | (go_simp; rfl)
         case hp5 => exact reps62 _ _ _ m
         intro v54 w7 ho hb hg_ hnew_
         clear hg_ hnew_
         have H9' := Am (Kd.R_below H9.out hb)
         have H10' := Am (Kd.R_below H10.out hb)
         have HLr' := Am (Kd.R_below HLr.out hb)
         have HBw' := Am (HBw.out.trans (hb.mono HBw.out.size))
         have HBx' := Am ((hb.block _ (blk_lt HBx.out)).trans HBx.out)
         have H50' := Am (Kd.R_below H50.out hb)
         have H54 := Am (Kd.R_lower ho HBw.out.size)
         clear ho hb
         clear H9 H10 HLr HBw HBx H50
         have H9 := H9'
         have H10 := H10'
         have HLr := HLr'
         have HBw := HBw'
         have HBx := HBx'
         have H50 := H50'
         clear H9' H10' HLr' HBw' HBx' H50'
         obtain ⟨Av54, cv54, ev54⟩ := Kd.R_slice H54.out
         subst ev54
         refine hK.out _ _ ⟨HBw.out, HBx.out⟩ (fun hHeld => ?_)
         clear hK K
         refine nm 54 ?_
         refine on 3 51 fun K hK => ?_
         refine Kd.R_append_rows_step (Kd.int .i64) (w0 := w2) w2.heap.size (by rfl) (.tmp 48) (.tmp 50) 31 3 (.int .i64 0) 8 rfl Try.underlying31 info3 rfl (by decide) (by omega) u9 P2 ([(i : Int)] : List Int) _ _ _ (fun _ => True) (fun _ => False) rfl rfl ?aO6 ?aR6 (fun _ _ h => h) (fun _ h => h.elim) ?aF6 ?aB6 ?aS6 ?aL6 ?_
         case aR6 => exact (Kd.R_reads' H50.out).2.2
         case aB6 => exact HBw.out
         case aF6 => exact (fun _ _ => trivial)
         case aO6 => exact H9.out
         case aS6 => exact HBw.out.size
         case aL6 => have := HS.out; simp only [List.length_cons, List.length_nil]; omega
         intro v51 w8 ho hb hg hat
         have H10' := Am (Kd.R_over' H10.out (Kd.R_typed H9.out) (by decide) hg)
         have HLr' := Am (Kd.R_over' HLr.out (Kd.R_typed H9.out) (by decide) hg)
         have HBw' := Am hb
         have HBx' := Am (box_kept HBx.out H9.out hg (by decide))
         have H54' := Am (Kd.R_over' H54.out (Kd.R_typed H9.out) (by decide) hg)
         have H51 := Am ho
         clear ho hb hg hat H9 H50
         clear H10 HLr HBw HBx H54
         have H10 := H10'
         have HLr := HLr'
         have HBw := HBw'
         have HBx := HBx'
         have H54 := H54'
         clear H10' HLr' HBw' HBx' H54'
         refine hK.out _ _ ⟨HBw.out, HBx.out⟩ (fun hHeld => ?_)
         clear hK K
         refine nm 51 ?_
         refine on 7 55 fun K hK => ?_
         refine Kd.R_append_rows_step k62 (Rr := k62.K w8) (w0 := w2) w2.heap.size (by rfl) (.tmp 52) (.tmp 54) 40 62 (.agg #[(.int .i64 0), (.bool false)]) 16 rfl Try.underlying40 info62 rfl (by decide) (by omega) u10 M2 ([m] : List S62) _ _ _ (fun k_ => some k_ ≠ (.slice (some ad1) L.length cl : Value).ownBlock ∧ k_ ≠ gb) (fun _ => False) rfl rfl ?aO7 ?aR7 ?aK7 (fun _ h => h.elim) ?aF7 ?aB7 ?aS7 ?aL7 ?_
         case aR7 => exact (Kd.R_reads' H54.out).2.2
         case aK7 => intro x cs h; rw [k62_open h]; exact k62_mkM _ _ _ x
         case aB7 => exact HBw.out
         case aF7 => exact (fun k_ hk => ⟨Kd.fresh' (Kd.R_lt HLr.out) k_ hk, by have := blk_lt HBx.out; omega⟩)
         case aO7 => exact H10.out
         case aS7 => exact HBw.out.size
         case aL7 => have := HS.out; simp only [List.length_cons, List.length_nil]; omega
         intro v55 w9 ho hb hg hat
         have HLr' := Am (Kd.R_after (ok := (fun _ => True)) (Kd.R_mono HLr.out (fun _ hk => ⟨trivial, hk⟩)) hg hat)
         have H51' := Am (Kd.R_over' H51.out (Kd.R_typed H10.out) (by decide) hg)
         have HBw' := Am hb
         have HBx' := Am (box_own HBx.out H10.out hg)
         have H55 := Am ho
         clear ho hb hg hat H10 H54
         clear HLr H51 HBw HBx
         have HLr := HLr'
         have H51 := H51'
         have HBw := HBw'
         have HBx := HBx'
         clear HLr' H51' HBw' HBx'
         refine hK.out _ _ ⟨HBw.out, HBx.out⟩ (fun hHeld => ?_)
         clear hK K
         refine nm 55 ?_
         exact norm_ (by simp only [putAll, Act.put, sI, sZ, sS]; rfl) (hCont (_, v51, _, v55) _ ⟨HBw.out, H51.out, H55.out, R_okv' HLr.out (fun _ _ => trivial)⟩)
       ·refine Kd.R_lit_step k62 _ 62 ?hg8 (N := 54) ?hd8 (xs := ([m] : List S62)) (inner := [.int .i64 m.f0, .bool m.f1]) (ok := fun _ => True) (okp := fun _ => True) ?hr8 ?hp8 (fun _ hk => hk) trivial (Below.refl _ _) (Nat.le_refl _) (by simp) ?_
        case hd8 => rfl
        case hg8 => rfl
        case hr8 => first | (go_simp; done) | (go_simp; rfl)
        case hp8 => exact reps62 _ _ _ m
        intro v54 w6 ho hb hg_ hnew_
        clear hg_ hnew_
        have H9' := Am (Kd.R_below H9.out hb)
        have H10' := Am (Kd.R_below H10.out hb)
        have HLr' := Am (Kd.R_below HLr.out hb)
        have HBw' := Am (HBw.out.trans (hb.mono HBw.out.size))
        have HBx' := Am ((hb.block _ (blk_lt HBx.out)).trans HBx.out)
        have H54 := Am (Kd.R_lower ho HBw.out.size)
        clear ho hb
        clear H9 H10 HLr HBw HBx
        have H9 := H9'
        have H10 := H10'
        have HLr := HLr'
        have HBw := HBw'
        have HBx := HBx'
        clear H9' H10' HLr' HBw' HBx'
        obtain ⟨Av54, cv54, ev54⟩ := Kd.R_slice H54.out
        subst ev54
        refine hK.out _ _ ⟨HBw.out, HBx.out⟩ (fun hHeld => ?_)
        clear hK K
        refine nm 54 ?_
        refine on 2 50 fun K hK => ?_
        refine Kd.R_lit_step (Kd.int .i64) _ 3 ?hg9 (N := 50) ?hd9 (xs := ([(i : Int)] : List Int)) (inner := [.int .i64 (i : Int)]) (ok := fun _ => True) (okp := fun _ => True) ?hr9 ?hp9 (fun _ hk => hk) trivial (Below.refl _ _) (Nat.le_refl _) (by simp) ?_
        case hd9 => rfl
        case hg9 => rfl
        case hr9 => first | (go_simp; done) | (go_simp; rfl)
        case hp9 => exact (Reps.one (show Kd.M (Kd.int .i64) _ _ _ (i : Int) [.int .i64 (i : Int)] from rfl) (Reps.none _ _))
        intro v50 w7 ho hb hg_ hnew_
        clear hg_ hnew_
        have H9' := Am (Kd.R_below H9.out hb)
        have H10' := Am (Kd.R_below H10.out hb)
        have HLr' := Am (Kd.R_below HLr.out hb)
        have HBw' := Am (HBw.out.trans (hb.mono HBw.out.size))
        have HBx' := Am ((hb.block _ (blk_lt HBx.out)).trans HBx.out)
        have H54' := Am (Kd.R_below H54.out hb)
        have H50 := Am (Kd.R_lower ho HBw.out.size)
        clear ho hb
        clear H9 H10 HLr HBw HBx H54
        have H9 := H9'
        have H10 := H10'
        have HLr := HLr'
        have HBw := HBw'
        have HBx := HBx'
        have H54 := H54'
        clear H9' H10' HLr' HBw' HBx' H54'
        obtain ⟨Av50, cv50, ev50⟩ := Kd.R_slice H50.out
        subst ev50
        refine hK.out _ _ ⟨HBw.out, HBx.out⟩ (fun hHeld => ?_)
        clear hK K
        refine nm 50 ?_
        refine on 3 51 fun K hK => ?_
        refine Kd.R_append_rows_step (Kd.int .i64) (w0 := w2) w2.heap.size (by rfl) (.tmp 48) (.tmp 50) 31 3 (.int .i64 0) 8 rfl Try.underlying31 info3 rfl (by decide) (by omega) u9 P2 ([(i : Int)] : List Int) _ _ _ (fun _ => True) (fun _ => False) rfl rfl ?aO10 ?aR10 (fun _ _ h => h) (fun _ h => h.elim) ?aF10 ?aB10 ?aS10 ?aL10 ?_
        case aR10 => exact (Kd.R_reads' H50.out).2.2
        case aB10 => exact HBw.out
        case aF10 => exact (fun _ _ => trivial)
        case aO10 => exact H9.out
        case aS10 => exact HBw.out.size
        case aL10 => have := HS.out; simp only [List.length_cons, List.length_nil]; omega
        intro v51 w8 ho hb hg hat
        have H10' := Am (Kd.R_over' H10.out (Kd.R_typed H9.out) (by decide) hg)
        have HLr' := Am (Kd.R_over' HLr.out (Kd.R_typed H9.out) (by decide) hg)
        have HBw' := Am hb
        have HBx' := Am (box_kept HBx.out H9.out hg (by decide))
        have H54' := Am (Kd.R_over' H54.out (Kd.R_typed H9.out) (by decide) hg)
        have H51 := Am ho
        clear ho hb hg hat H9 H50
        clear H10 HLr HBw HBx H54
        have H10 := H10'
        have HLr := HLr'
        have HBw := HBw'
        have HBx := HBx'
        have H54 := H54'
        clear H10' HLr' HBw' HBx' H54'
        refine hK.out _ _ ⟨HBw.out, HBx.out⟩ (fun hHeld => ?_)
        clear hK K
        refine nm 51 ?_
        refine on 7 55 fun K hK => ?_
        refine Kd.R_append_rows_step k62 (Rr := k62.K w8) (w0 := w2) w2.heap.size (by rfl) (.tmp 52) (.tmp 54) 40 62 (.agg #[(.int .i64 0), (.bool false)]) 16 rfl Try.underlying40 info62 rfl (by decide) (by omega) u10 M2 ([m] : List S62) _ _ _ (fun k_ => some k_ ≠ (.slice (some ad1) L.length cl : Value).ownBlock ∧ k_ ≠ gb) (fun _ => False) rfl rfl ?aO11 ?aR11 ?aK11 (fun _ h => h.elim) ?aF11 ?aB11 ?aS11 ?aL11 ?_
        case aR11 => exact (Kd.R_reads' H54.out).2.2
        case aK11 => intro x cs h; rw [k62_open h]; exact k62_mkM _ _ _ x
        case aB11 => exact HBw.out
        case aF11 => exact (fun k_ hk => ⟨Kd.fresh' (Kd.R_lt HLr.out) k_ hk, by have := blk_lt HBx.out; omega⟩)
        case aO11 => exact H10.out
        case aS11 => exact HBw.out.size
        case aL11 => have := HS.out; simp only [List.length_cons, List.length_nil]; omega
        intro v55 w9 ho hb hg hat
        have HLr' := Am (Kd.R_after (ok := (fun _ => True)) (Kd.R_mono HLr.out (fun _ hk => ⟨trivial, hk⟩)) hg hat)
        have H51' := Am (Kd.R_over' H51.out (Kd.R_typed H10.out) (by decide) hg)
        have HBw' := Am hb
        have HBx' := Am (box_own HBx.out H10.out hg)
        have H55 := Am ho
        clear ho hb hg hat H10 H54
        clear HLr H51 HBw HBx
        have HLr := HLr'
        have H51 := H51'
        have HBw := HBw'
        have HBx := HBx'
        clear HLr' H51' HBw' HBx'
        refine hK.out _ _ ⟨HBw.out, HBx.out⟩ (fun hHeld => ?_)
        clear hK K
        refine nm 55 ?_
        exact norm_ (by simp only [putAll, Act.put, sI, sZ, sS]; rfl) (hCont (_, v51, _, v55) _ ⟨HBw.out, H51.out, H55.out, R_okv' HLr.out (fun _ _ => trivial)⟩)
      rintro ⟨v50, v51, v54, v55⟩ w9 ⟨k1, k2, k3, k4⟩
      have HBw := Am k1
      have H51 := Am k2
      have H55 := Am k3
      have HLr := Am k4
      clear k1 k2 k3 k4 hHeld
      refine norm_ (a' := ?_) ?_ ?_
      rotate_left
      ·simp only [putAll, Act.put, sI, sZ, sS]
       rfl
      refine pu 8 9 ?_
      refine pu 9 10 ?_
      refine done_ (by kernel_rfl) ?_
      have HPn := Am (show Kd.R (Kd.int .i64) 3 w9 w2.heap.size (fun _ => True) v51 (P ++ List.replicate (n + 1) (i : Int)) by
       rw [List.replicate_succ', ← List.append_assoc, HP2.out]; exact H51.out)
      have HMn := Am (show Kd.R k62 62 w9 w2.heap.size (fun k_ => some k_ ≠ (.slice (some ad1) L.length cl : Value).ownBlock) v55 (M ++ L.take (n + 1)) by
       rw [HTK.out, ← List.append_assoc, HM2.out]; exact R_okv' H55.out (fun k hk => (H55.out.1 k hk).1))
      have HLn := Am (R_okv' HLr.out (Q := fun k_ => some k_ ≠ (v55 : Value).ownBlock) (fun k hk e => (H55.out.1 k e.symm).1 hk.symm))
      clear H51 H55 HLr
      go_wp2
      go_roundg kq2
      case measure => omega
      case rel => exact ⟨n + 1, by have := HL21.out; first | rfl | (rw [Go.IntWalk.wrap64_in _ (by omega)]; rfl), ⟨by omega, by have := HN.out.2; omega⟩, HPn, HMn, HLn, HBw⟩
     ·have p8 : decide ((n : Int) < (L.length : Int)) = false := decide_eq_false (by omega)
      have p11 : decide (n < L.length) = false := decide_eq_false q2
      have hn := HN.out.1
      have HP9 := Am (show Kd.R (Kd.int .i64) 3 wr w2.heap.size (fun _ => True) u9 (sqP H (i + 1)) by
       have := HP.out
       rw [show n = L.length by omega] at this
       rw [sqP_succ, HPP.out, HLL.out]; exact this)
      have HM9 := Am (show Kd.R k62 62 wr w2.heap.size (fun _ => True) u10 (sqM H (i + 1)) by
       have := HM.out
       rw [show n = L.length by omega, List.take_length] at this
       rw [sqM_succ, HMM.out, HLL.out]; exact Kd.R_mono this (fun _ _ => trivial))
      clear HP HM HLr
      go_wp2
      go_roundg kq1
      case measure => omega
      case rel => exact ⟨i + 1, by have := HLN.out; have := HI1.out; first | rfl | (rw [Go.IntWalk.wrap64_in _ (by omega)]; rfl), ⟨by have := HI1.out; omega, by have := HI.out.2; omega⟩, HP9, HM9, HW⟩
  ·have p7 : decide ((i : Int) < (t.length : Int)) = false := decide_eq_false (by omega)
   have p6 : decide (i < t.length) = false := decide_eq_false q1
   have hi := HI.out.1
   have HP9 := Am (Kd.R_lower (show Kd.R (Kd.int .i64) 3 wr w2.heap.size (fun _ => True) u9 (sqP H t.length) by
    have := HP.out
    rw [show i = t.length by omega] at this
    exact this) HB2.out.size)
   have HM9 := Am (Kd.R_lower (show Kd.R k62 62 wr w2.heap.size (fun _ => True) u10 (sqM H t.length) by
    have := HM.out
    rw [show i = t.length by omega] at this
    exact this) HB2.out.size)
   clear HP HM
   go_wp2
   go_ret3
   exact ⟨_, _, rfl, HP9.out, HM9.out, HB2.out.trans (HW.out.mono HB2.out.size)⟩
theorem pla_out (a : Int) : ∀ {T : Tr}, a ∉ plT T → plaT a T = .nil
 | .nil, _ => rfl
 | .node n p l r, h => by
  simp only [plT, List.mem_cons, List.mem_append, not_or] at h
  rw [plaT, if_neg (fun e => h.1 e.symm), pla_out a h.2.1, pla_out a h.2.2]
  rfl
theorem pla_in {t : List S34} (a : Int) : ∀ (k i : Nat) (T : Tr), mkT t k i = some T → a ∈ plT T → plaT a T ≠ .nil ∧ mkT t k a.toNat = some (plaT a T) := by
 intro k
 induction k with
 | zero => intro i T h; simp [mkT] at h
 | succ k ih =>
  intro i T h ha
  have h0 := h
  rw [mkT] at h
  split at h
  case isFalse => exact absurd h (by simp)
  split at h
  ·obtain ⟨l, hl, h⟩ := Option.bind_eq_some_iff.1 h
   obtain ⟨r, hr, h⟩ := Option.bind_eq_some_iff.1 h
   obtain rfl := Option.some.inj h
   rw [plaT]
   by_cases hp : (i : Int) = a
   ·rw [if_pos hp]
    subst hp
    exact ⟨by simp, by rw [Int.toNat_natCast]; exact h0⟩
   ·rw [if_neg hp]
    simp only [plT, List.mem_cons, List.mem_append] at ha
    by_cases hal : a ∈ plT l
    ·obtain ⟨h1, h2⟩ := ih _ _ hl hal
     cases hx : plaT a l with
     | nil => exact absurd hx h1
     | node _ _ _ _ =>
      rw [hx] at h2
      exact ⟨by simp [orT], mkT_mono t _ _ _ h2⟩
    ·have har : a ∈ plT r := by rcases ha with e | e | e; exact absurd e.symm hp; exact absurd e hal; exact e
     obtain ⟨h1, h2⟩ := ih _ _ hr har
     rw [pla_out a hal]
     exact ⟨h1, mkT_mono t _ _ _ h2⟩
  ·obtain rfl := Option.some.inj h
   simp only [plT, List.append_nil, List.mem_singleton] at ha
   subst ha
   rw [plaT, if_pos rfl]
   exact ⟨by simp, by rw [Int.toNat_natCast]; exact h0⟩
def toR (m : S62) : S24 := ⟨m.f0, m.f1⟩
theorem hereS_le (rt : Bool) (X : Tr) : (hereS rt X).length ≤ 21 := by
 unfold hereS
 exact Nat.le_trans (List.length_filter_le _ _) (by decide)
structure SpotsOk (k : Nat) (t : List S34) (r : Int) (met : List Bool) (H : Nat → List S62) : Prop where
 keys : steps_keys.f k t = some (r, met, 0)
 check : larchref16_Check.f k t = some 0
 root : larchref16_Root.f k t = some (r, 0)
 len : met.length = t.length
 le : ∀ i, (H i).length ≤ 21
 form : ∀ i, i < t.length → 0 ≤ (t.getD i z34).f4 → (t.getD i z34).f4 < t.length ∧ 0 ≤ (t.getD i z34).f5 ∧ (t.getD i z34).f5 < t.length
 prog : ∀ i : Nat, i < t.length → (met.getD i false = true → ∃ K X, mkT t K i = some X ∧ hereS ((i : Int) == r) X = H i) ∧ (met.getD i false = false → H i = [])
 ref : ∀ i : Nat, i < t.length → ∃ X rt e, AskR k t i 1 false X rt e ∧ (e = 0 → Ok X ∧ hereL rt X = (H i).map toR) ∧ (e ≠ 0 → (H i).map toR = [])
def SpotsErr (k : Nat) (t : List S34) (e : Int) : Prop := (e != 0) = true ∧ steps_keys.f k t = some (0, [], e) ∧ ((larchref16_Check.f k t = some e ∧ (e != 0) = true) ∨ (larchref16_Check.f k t = some 0 ∧ ∃ r, larchref16_Root.f k t = some (r, e) ∧ (e != 0) = true))
theorem spots_facts (t : List S34) : ∃ k, (∃ e, SpotsErr k t e) ∨ (∃ r met H, SpotsOk k t r met H) := by
 obtain ⟨kc, vc, c1, c2, c3⟩ := checks_alike t
 obtain ⟨kr, v, h1, h2, h3⟩ := roots_alike t
 by_cases hv : v.2 = 0
 ·obtain ⟨T, X0, hT, hX, hr⟩ := h3 hv
  obtain ⟨c0, hc, hcl, hm, hn, hl⟩ := crown_tree hT hX
  have hlen := hT.len
  have hp := plF_mk (i := v.1) (by omega) (by rw [show v.1.toNat = c0 by omega]; exact hm) (plF.eq_1 t t.length)
  rw [List.append_nil] at hp
  generalize hK : kc + kr + t.length + 1 = K
  obtain ⟨met, e1, e2, e3⟩ := keys_tree t v.1 t.length hlen (formT_of hT.form) K (List.replicate t.length false) [v.1] (plT X0) List.length_replicate hp (by omega) (by omega)
  have hmet : ∀ c : Nat, c < t.length → (met.getD c false = true ↔ (c : Int) ∈ plT X0) := fun c hc => by rw [e3 c hc, getD_replicate_false]; simp
  have hroot : larchref16_Root.f K t = some (v.1, 0) := by
   rw [up_to (fun k => larchref16_Root.mono t k) (show kr ≤ K by omega) h2, ← hv]
  have htroot := up_to (fun k => table_Root.mono t k) (show kr ≤ K by omega) h1
  have hcheck : larchref16_Check.f K t = some 0 := by
   have hc2 := up_to (fun k => larchref16_Check.mono t k) (show kc ≤ K by omega) c2
   unfold larchref16_Root.f at hroot
   rw [hc2, Option.bind_some] at hroot
   by_cases h0 : vc = 0
   ·rw [hc2, h0]
   ·rw [if_neg h0] at hroot
    simp only [Option.some.injEq, Prod.mk.injEq] at hroot
    exact absurd hroot.2 h0
  have hkeys : steps_keys.f K t = some (v.1, met, 0) := by
   unfold steps_keys.f
   rw [htroot, Option.bind_some]
   rw [if_pos hv, if_pos (by omega), if_pos (by omega), Int.toNat_natCast]
   exact e1
  have hin : ∀ i : Nat, (i : Int) ∈ plT X0 → ∃ X, mkT t t.length i = some X ∧ plaT i X0 = X ∧ X ≠ .nil ∧ Ok X := fun i hi => by
   obtain ⟨a1, a2⟩ := pla_in (i : Int) _ _ _ hm hi
   rw [Int.toNat_natCast] at a2
   exact ⟨_, a2, rfl, a1, ok_mkT hT.form a2⟩
  refine ⟨K, .inr ⟨v.1, met, fun i => if met.getD i false = true then hereS ((i : Int) == v.1) ((mkT t t.length i).getD .nil) else [], hkeys, hcheck, hroot, e2, ?_, ?_, ?_, ?_⟩⟩
  ·intro i
   split
   ·exact hereS_le _ _
   ·simp
  ·intro i hi h4
   have := formT_of hT.form i hi
   omega
  ·intro i hi
   constructor
   ·intro h
    obtain ⟨X, a1, a2, a3, a4⟩ := hin i ((hmet i hi).1 h)
    exact ⟨t.length, X, a1, by rw [if_pos h, a1, Option.getD_some]⟩
   ·intro h
    rw [if_neg (by rw [h]; simp)]
  ·intro i hi
   have hmv : larchref18_IsMove.f 1 false = some true := by decide
   by_cases h : met.getD i false = true
   ·obtain ⟨X, a1, a2, a3, a4⟩ := hin i ((hmet i hi).1 h)
    refine ⟨X, (i : Int) == v.1, 0, .inr (.inr (.inr ⟨hcheck, hmv, hT.form, c0, X0, _, by rw [← hc, hr]; exact hroot, hm, rfl, .inr ⟨a2, a3, by rw [← hc, hr], rfl⟩⟩)), fun _ => ⟨a4, ?_⟩, fun e => absurd rfl e⟩
    rw [if_pos h, a1, Option.getD_some, ← hereS_map]
    rfl
   ·refine ⟨.nil, false, 1, .inr (.inr (.inr ⟨hcheck, hmv, hT.form, c0, X0, _, by rw [← hc, hr]; exact hroot, hm, rfl, .inl ⟨pla_out _ (fun e => h ((hmet i hi).2 e)), rfl, rfl, rfl⟩⟩)), fun e => absurd e (by decide), fun _ => ?_⟩
    rw [if_neg h]
    rfl
 ·generalize hK : kc + kr = K
  have hne : (v.2 != 0) = true := by simpa using hv
  have hroot := up_to (fun k => larchref16_Root.mono t k) (show kr ≤ K by omega) h2
  have htroot := up_to (fun k => table_Root.mono t k) (show kr ≤ K by omega) h1
  have hc2 := up_to (fun k => larchref16_Check.mono t k) (show kc ≤ K by omega) c2
  refine ⟨K, .inl ⟨v.2, hne, ?_, ?_⟩⟩
  ·unfold steps_keys.f
   rw [htroot, Option.bind_some]
   rw [if_neg hv]
  ·by_cases h0 : vc = 0
   ·right
    exact ⟨by rw [hc2, h0], v.1, hroot, hne⟩
   ·left
    have hr := hroot
    unfold larchref16_Root.f at hr
    rw [hc2, Option.bind_some, if_neg h0] at hr
    have : vc = v.2 := by rw [← Option.some.inj hr]
    exact ⟨by rw [hc2, this], hne⟩
theorem ints_f (l : List Int) (hl : l.length ≤ 10000) : ∀ (d i k : Nat), i + d = l.length → d < k → larchref02_Ints.l0 k l l i = some true
 | 0, i, k, h, hk => by
  obtain ⟨k, rfl⟩ : ∃ x, k = x + 1 := ⟨k - 1, by omega⟩
  rw [larchref02_Ints.l0, if_neg (by omega)]
 | d + 1, i, k, h, hk => by
  obtain ⟨k, rfl⟩ : ∃ x, k = x + 1 := ⟨k - 1, by omega⟩
  rw [larchref02_Ints.l0, if_pos (by omega), if_pos (by omega), if_pos (by omega), if_pos rfl, wi (by omega)]
  exact ints_f l hl d (i + 1) k (by omega) (by omega)
theorem cellB {w W' : World} (h : Below w.heap.size w W') {a : Addr} {v : Value} (hc : w.cell? a = some v) : W'.cell? a = some v := (h.cell (blt w a hc)).trans hc
theorem blkB {w W' : World} (h : Below w.heap.size w W') {k : Nat} {o : Obj} (hc : w.heap[k]? = some o) : W'.heap[k]? = some o := (h.block k (blk_lt hc)).trans hc
theorem rd6 {w : World} {g : Nat} {t : TypeId} {a b c d e f : Value} (h : w.heap[g]? = some (.cells #[a, b, c, d, e, f] t (0, 0))) : w.cell? ⟨g, 0, none⟩ = some a ∧ w.cell? ⟨g, 1, none⟩ = some b ∧ w.cell? ⟨g, 2, none⟩ = some c ∧ w.cell? ⟨g, 3, none⟩ = some d ∧ w.cell? ⟨g, 4, none⟩ = some e ∧ w.cell? ⟨g, 5, none⟩ = some f :=
 ⟨(cell_of h 0).trans rfl, (cell_of h 1).trans rfl, (cell_of h 2).trans rfl, (cell_of h 3).trans rfl, (cell_of h 4).trans rfl, (cell_of h 5).trans rfl⟩
theorem rnode_any (v vl vr : Value) (n : S34) (pl : Int) (lk rk : Tr) (x : Int) (L R : Tr) (w : World) (h : Rp (fun _ => True) w v (.node n pl lk rk)) (hl : Rp (fun _ => True) w vl L) (hr : Rp (fun _ => True) w vr R) :
  Calls Try.prog 83 #[v, .int .i64 x, vl, vr] w fun e w' => ∃ q, e = .returned (.pointer q) ∧ Rp (fun _ => True) w' (.pointer q) (.node ⟨n.f0, n.f1, x, 0, 0, 0⟩ (-1) L R) ∧ Below w.heap.size w w' := by
 obtain ⟨b, ul, ur, rfl, hb, _, _, _⟩ := h
 obtain ⟨pL, rfl⟩ := hl.ptr
 obtain ⟨pR, rfl⟩ := hr.ptr
 have HL := Am hl
 have HR := Am hr
 have Z0 := Am (show w.cell? ⟨b, 0, none⟩ = some (.int .i64 n.f0) from (cell_of hb 0).trans rfl)
 have Z1 := Am (show w.cell? ⟨b, 1, none⟩ = some (.int .i64 n.f1) from (cell_of hb 1).trans rfl)
 clear hb hl hr
 go_enter Try.func83, Try.ntmps83
 go_wp2
 refine sG 17 (w0 := w) (below_drew (Below.refl _ _)) fun w2 hHeld => ?_
 refine pu 0 9 ?_
 refine pu 1 10 ?_
 refine pu 2 11 ?_
 refine pu 3 12 ?_
 refine ta 4 13 hHeld (hy := by intro w' hs; have y0 := cellB hs Z0.out; have y1 := cellB hs Z1.out; go_simp; with_reducible rfl) ?_
 refine pu 5 14 ?_
 refine pu 6 15 ?_
 refine pu 7 16 ?_
 refine pu 8 17 ?_
 refine ta 9 18 hHeld (hy := by intro w' hs; have y0 := cellB hs Z0.out; have y1 := cellB hs Z1.out; go_simp; with_reducible rfl) ?_
 refine pu 10 19 ?_
 refine pu 11 20 ?_
 refine pu 12 21 ?_
 refine pu 13 22 ?_
 refine pu 14 23 ?_
 refine on 15 24 fun K hK => ?_
 refine box_step (by rfl) (N := 24) rfl (cs := #[.int .i64 n.f0, .int .i64 n.f1, .int .i64 x, .int .i64 0, .int .i64 0, .int .i64 0, .pointer pL, .pointer pR, .int .i64 (-1)]) (t := 107) ?hr ?_
 case hr => first | (go_simp; done) | (go_simp; rfl)
 intro g hg w3 k3 b3
 subst hg
 have HF := Am (And.intro k3 (And.intro ((HL.out.below hHeld).below b3) (And.intro ((HR.out.below hHeld).below b3) (bel_t' hHeld b3))))
 clear k3 b3
 refine hK.out _ _ (HF.out.2.2.2) (fun hHeld => ?_)
 clear hK K
 refine nm 24 ?_
 refine pu 16 8 ?_
 refine done_ (by kernel_rfl) ?_
 go_wp2
 go_ret
 exact ⟨_, rfl, ⟨_, _, _, rfl, HF.out.1, HF.out.2.1, HF.out.2.2.1, trivial⟩, HF.out.2.2.2⟩
theorem rwith_any (v : Value) (n : S34) (pl : Int) (l r : Tr) (x : Int) (w : World) (h : Rp (fun _ => True) w v (.node n pl l r)) :
  Calls Try.prog 56 #[v, .int .i64 x] w fun e w' => ∃ q, e = .returned (.pointer q) ∧ Rp (fun _ => True) w' (.pointer q) (setW (.node n pl l r) x) ∧ Below w.heap.size w w' := by
 obtain ⟨b, ul, ur, rfl, hb, hl, hr, _⟩ := h
 obtain ⟨pL, rfl⟩ := hl.ptr
 obtain ⟨pR, rfl⟩ := hr.ptr
 have HL := Am hl
 have HR := Am hr
 have HB := Am hb
 obtain ⟨z0, z1, z2, z3, z4, z5, z6, z7, z8⟩ := rd9 hb
 clear hb hl hr
 go_enter Try.func56, Try.ntmps56
 go_wp2
 have HW := Am (ba (Below.refl w.heap.size w) (.cells #[.int .i64 n.f0, .int .i64 n.f1, .int .i64 x, .int .i64 n.f3, .int .i64 n.f4, .int .i64 n.f5] 34))
 have HK := Am (heap_alloc_new w (.cells #[.int .i64 n.f0, .int .i64 n.f1, .int .i64 x, .int .i64 n.f3, .int .i64 n.f4, .int .i64 n.f5] 34))
 have HB1 := Am (blkB HW.out HB.out)
 have HL1 := Am (HL.out.below HW.out)
 have HR1 := Am (HR.out.below HW.out)
 clear HB HL HR z0 z1 z2 z3 z4 z5 z6 z7 z8
 generalize w.alloc (.cells #[.int .i64 n.f0, .int .i64 n.f1, .int .i64 x, .int .i64 n.f3, .int .i64 n.f4, .int .i64 n.f5] 34) = w1 at HW HK HB1 HL1 HR1 ⊢
 generalize w.heap.size = g at HK ⊢
 refine sG 16 (w0 := w1) (below_drew (Below.refl _ _)) fun w2 hHeld => ?_
 refine ta 0 12 hHeld (hy := by intro w' hs; obtain ⟨y0, y1, y2, y3, y4, y5⟩ := rd6 (blkB hs HK.out); obtain ⟨x0, x1, x2, x3, x4, x5, x6, x7, x8⟩ := rd9 (blkB hs HB1.out); go_simp; with_reducible rfl) ?_
 refine pu 1 13 ?_
 refine pu 2 14 ?_
 refine pu 3 15 ?_
 refine ta 4 16 hHeld (hy := by intro w' hs; obtain ⟨y0, y1, y2, y3, y4, y5⟩ := rd6 (blkB hs HK.out); obtain ⟨x0, x1, x2, x3, x4, x5, x6, x7, x8⟩ := rd9 (blkB hs HB1.out); go_simp; with_reducible rfl) ?_
 refine pu 5 17 ?_
 refine pu 6 18 ?_
 refine pu 7 19 ?_
 refine ta 8 20 hHeld (hy := by intro w' hs; obtain ⟨y0, y1, y2, y3, y4, y5⟩ := rd6 (blkB hs HK.out); obtain ⟨x0, x1, x2, x3, x4, x5, x6, x7, x8⟩ := rd9 (blkB hs HB1.out); go_simp; with_reducible rfl) ?_
 refine pu 9 21 ?_
 refine pu 10 22 ?_
 refine pu 11 23 ?_
 refine ta 12 24 hHeld (hy := by intro w' hs; obtain ⟨y0, y1, y2, y3, y4, y5⟩ := rd6 (blkB hs HK.out); obtain ⟨x0, x1, x2, x3, x4, x5, x6, x7, x8⟩ := rd9 (blkB hs HB1.out); go_simp; with_reducible rfl) ?_
 refine pu 13 25 ?_
 refine on 14 26 fun K hK => ?_
 refine box_step (by rfl) (N := 26) rfl (cs := rdC ⟨n.f0, n.f1, x, n.f3, n.f4, n.f5⟩ pl (.pointer pL) (.pointer pR)) (t := 107) ?hr ?_
 case hr => first | (go_simp; done) | (go_simp; rfl)
 intro g hg w3 k3 b3
 subst hg
 have HF := Am (And.intro k3 (And.intro ((HL1.out.below hHeld).below b3) (And.intro ((HR1.out.below hHeld).below b3) (And.intro (bel_t' HW.out (bel_t' hHeld b3)) (bel_t' hHeld b3)))))
 clear k3 b3
 refine hK.out _ _ (HF.out.2.2.2.2) (fun hHeld => ?_)
 clear hK K
 refine nm 26 ?_
 refine pu 15 4 ?_
 refine done_ (by kernel_rfl) ?_
 go_wp2
 go_ret
 exact ⟨_, rfl, ⟨_, _, _, rfl, HF.out.1, HF.out.2.1, HF.out.2.2.1, trivial⟩, HF.out.2.2.2.1⟩
def kP : Kd (Option Addr) := Kd.scalar (fun p => .pointer p) (fun _ => rfl)
def PtO (w : World) : List (Option Addr) → List Tr → Prop
 | [], [] => True
 | p :: ps, T :: Ts => Rp (fun _ => True) w (.pointer p) T ∧ PtO w ps Ts
 | _, _ => False
def OutP (w : World) (Ts : List Tr) (e : Ending) (w' : World) : Prop := ∃ g c ps, e = .returned (.slice (some ⟨g, 0, none⟩) ps.length c) ∧ Kd.R kP 94 w' w.heap.size (fun _ => True) (.slice (some ⟨g, 0, none⟩) ps.length c) ps ∧ PtO w ps Ts ∧ Below w.heap.size w w'
theorem repsP (W : World) (b : Nat) (ok : Nat → Prop) (xs : List (Option Addr)) : Reps (kP.M W b ok) kP.sz xs (xs.map fun p => .pointer p) := ⟨by simp [kP, Kd.scalar], fun j p hj => by
 show ((xs.map fun p => Value.pointer p).drop (j * 1)).take 1 = [.pointer p]
 rw [Nat.mul_one, ← List.map_drop, ← List.map_take]
 have hlt : j < xs.length := (List.getElem?_eq_some_iff.1 hj).1
 rw [List.drop_eq_getElem_cons hlt]
 have := (List.getElem?_eq_some_iff.1 hj).2
 simp [this]⟩
theorem R_litP (W : World) (xs : List (Option Addr)) {base : Nat} (hb : base ≤ W.heap.size) (hm : xs.length ≤ 1000 := by simp) : Kd.R kP 94 (W.alloc (.cells (xs.map fun p => Value.pointer p).toArray 94)) base (fun _ => True) (.slice (some ⟨W.heap.size, 0, none⟩) xs.length xs.length) xs := by
 refine ⟨fun _ _ => trivial, _, World.ownsRow_lit W _ xs.length hb (by simp [maxLen]; omega) (by simp [kP, Kd.scalar]), ?_⟩
 simpa using repsP _ _ _ xs
theorem R_ptrP {W : World} {base : Nat} {ok : Nat → Prop} {v : Value} {xs : List (Option Addr)} (h : Kd.R kP 94 W base ok v xs) (hne : xs ≠ []) : ∃ g c, v = .slice (some ⟨g, 0, none⟩) xs.length c ∧ base ≤ g ∧ ∃ cs, W.heap[g]? = some (.cells cs 94 (0, 0)) := by
 obtain ⟨h1, cs, h2, h3, h4⟩ := h
 rcases h2.2 with ⟨rfl, h⟩ | ⟨g, c, cur, rfl, hg, hh, _⟩
 ·exact absurd (List.eq_nil_of_length_eq_zero h) hne
 ·exact ⟨g, c, rfl, hg, cur, hh⟩
theorem rout1 (p : Option Addr) (nx : S34) (px : Int) (tl tr : Tr) (w : World) (h : Rp (fun _ => True) w (.pointer p) (.node nx px tl tr)) :
  Calls Try.prog 61 #[.pointer p, .int .i64 1] w fun e w' => OutP w [(.node nx px tl tr), tl, tr] e w' := by
 have Hx := Am h
 obtain ⟨bx, vx, ux, e, hx, ax, cx, _⟩ := h
 obtain rfl : p = some ⟨bx, 0, none⟩ := by injection e
 have Hl := Am ax
 obtain ⟨ql, rfl⟩ := ax.ptr
 clear ax
 have Hr := Am cx
 obtain ⟨qr, rfl⟩ := cx.ptr
 clear cx
 have Bx := Am hx
 clear hx
 go_enter Try.func61, Try.ntmps61
 go_wp2
 refine sG 10 (w0 := w) (below_drew (Below.refl _ _)) fun w1 hHeld => ?_
 refine pu 0 7 ?_
 refine pu 1 8 ?_
 refine pu 2 9 ?_
 refine tb 3 10 hHeld (fun _ s => blkB s Bx.out) ?_
 refine pu 4 11 ?_
 refine pu 5 12 ?_
 refine pu 6 13 ?_
 refine tb 7 14 hHeld (fun _ s => blkB s Bx.out) ?_
 refine pu 8 5 ?_
 refine pu 9 6 ?_
 refine done_ (by kernel_rfl) ?_
 go_wp2
 go_ret
 exact ⟨w1.heap.size, 3, [(some ⟨bx, 0, none⟩), ql, qr], rfl, R_litP w1 [(some ⟨bx, 0, none⟩), ql, qr] hHeld.size, ⟨Hx.out, Hl.out, Hr.out, trivial⟩, ba hHeld _⟩
theorem rout2 (p : Option Addr) (nx : S34) (px : Int) (tl tr : Tr) (w : World) (h : Rp (fun _ => True) w (.pointer p) (.node nx px tl tr)) :
  Calls Try.prog 61 #[.pointer p, .int .i64 2] w fun e w' => OutP w [(.node nx px tl tr), tl] e w' := by
 have Hx := Am h
 obtain ⟨bx, vx, ux, e, hx, ax, cx, _⟩ := h
 obtain rfl : p = some ⟨bx, 0, none⟩ := by injection e
 have Hl := Am ax
 obtain ⟨ql, rfl⟩ := ax.ptr
 clear ax
 have Hr := Am cx
 obtain ⟨qr, rfl⟩ := cx.ptr
 clear cx
 have Bx := Am hx
 clear hx
 go_enter Try.func61, Try.ntmps61
 go_wp2
 refine sG 10 (w0 := w) (below_drew (Below.refl _ _)) fun w1 hHeld => ?_
 refine pu 0 7 ?_
 refine pu 1 8 ?_
 refine pu 2 9 ?_
 refine tb 3 10 hHeld (fun _ s => blkB s Bx.out) ?_
 refine pu 4 11 ?_
 refine pu 5 12 ?_
 refine pu 6 13 ?_
 refine tb 7 14 hHeld (fun _ s => blkB s Bx.out) ?_
 refine pu 8 5 ?_
 refine pu 9 6 ?_
 refine done_ (by kernel_rfl) ?_
 go_wp2
 go_ret
 exact ⟨w1.heap.size, 2, [(some ⟨bx, 0, none⟩), ql], rfl, R_litP w1 [(some ⟨bx, 0, none⟩), ql] hHeld.size, ⟨Hx.out, Hl.out, trivial⟩, ba hHeld _⟩
theorem rout3 (p : Option Addr) (nx : S34) (px : Int) (nl : S34) (pl : Int) (tr tll tlr : Tr) (w : World) (h : Rp (fun _ => True) w (.pointer p) (.node nx px (.node nl pl tll tlr) tr)) :
  Calls Try.prog 61 #[.pointer p, .int .i64 3] w fun e w' => OutP w [(.node nx px (.node nl pl tll tlr) tr), (.node nl pl tll tlr), tlr] e w' := by
 have Hx := Am h
 obtain ⟨bx, vx, ux, e, hx, ax, cx, _⟩ := h
 obtain rfl : p = some ⟨bx, 0, none⟩ := by injection e
 have Hl := Am ax
 obtain ⟨bl, vl, ul, rfl, hl, al, cl, _⟩ := ax
 have Hll := Am al
 obtain ⟨qll, rfl⟩ := al.ptr
 clear al
 have Hlr := Am cl
 obtain ⟨qlr, rfl⟩ := cl.ptr
 clear cl
 have Bl := Am hl
 clear hl
 have Hr := Am cx
 obtain ⟨qr, rfl⟩ := cx.ptr
 clear cx
 have Bx := Am hx
 clear hx
 go_enter Try.func61, Try.ntmps61
 go_wp2
 refine sG 10 (w0 := w) (below_drew (Below.refl _ _)) fun w1 hHeld => ?_
 refine pu 0 7 ?_
 refine pu 1 8 ?_
 refine pu 2 9 ?_
 refine tb 3 10 hHeld (fun _ s => blkB s Bx.out) ?_
 refine pu 4 11 ?_
 refine pu 5 12 ?_
 refine pu 6 13 ?_
 refine tb 7 14 hHeld (fun _ s => blkB s Bx.out) ?_
 refine pu 8 5 ?_
 refine pu 9 6 ?_
 refine done_ (by kernel_rfl) ?_
 obtain ⟨yl0, yl1, yl2, yl3, yl4, yl5, yl6, yl7, yl8⟩ := rd9 (blkB hHeld Bl.out)
 go_wp2
 go_ret
 exact ⟨w1.heap.size, 3, [(some ⟨bx, 0, none⟩), (some ⟨bl, 0, none⟩), qlr], rfl, R_litP w1 [(some ⟨bx, 0, none⟩), (some ⟨bl, 0, none⟩), qlr] hHeld.size, ⟨Hx.out, Hl.out, Hlr.out, trivial⟩, ba hHeld _⟩
theorem rout4 (p : Option Addr) (nx : S34) (px : Int) (tl tr : Tr) (w : World) (h : Rp (fun _ => True) w (.pointer p) (.node nx px tl tr)) :
  Calls Try.prog 61 #[.pointer p, .int .i64 4] w fun e w' => OutP w [(.node nx px tl tr), tl, tr] e w' := by
 have Hx := Am h
 obtain ⟨bx, vx, ux, e, hx, ax, cx, _⟩ := h
 obtain rfl : p = some ⟨bx, 0, none⟩ := by injection e
 have Hl := Am ax
 obtain ⟨ql, rfl⟩ := ax.ptr
 clear ax
 have Hr := Am cx
 obtain ⟨qr, rfl⟩ := cx.ptr
 clear cx
 have Bx := Am hx
 clear hx
 go_enter Try.func61, Try.ntmps61
 go_wp2
 refine sG 10 (w0 := w) (below_drew (Below.refl _ _)) fun w1 hHeld => ?_
 refine pu 0 7 ?_
 refine pu 1 8 ?_
 refine pu 2 9 ?_
 refine tb 3 10 hHeld (fun _ s => blkB s Bx.out) ?_
 refine pu 4 11 ?_
 refine pu 5 12 ?_
 refine pu 6 13 ?_
 refine tb 7 14 hHeld (fun _ s => blkB s Bx.out) ?_
 refine pu 8 5 ?_
 refine pu 9 6 ?_
 refine done_ (by kernel_rfl) ?_
 go_wp2
 go_ret
 exact ⟨w1.heap.size, 3, [(some ⟨bx, 0, none⟩), ql, qr], rfl, R_litP w1 [(some ⟨bx, 0, none⟩), ql, qr] hHeld.size, ⟨Hx.out, Hl.out, Hr.out, trivial⟩, ba hHeld _⟩
theorem rout5 (p : Option Addr) (nx : S34) (px : Int) (nr : S34) (pr : Int) (tl trl trr : Tr) (w : World) (h : Rp (fun _ => True) w (.pointer p) (.node nx px tl (.node nr pr trl trr))) :
  Calls Try.prog 61 #[.pointer p, .int .i64 5] w fun e w' => OutP w [(.node nx px tl (.node nr pr trl trr)), tl, (.node nr pr trl trr), trl] e w' := by
 have Hx := Am h
 obtain ⟨bx, vx, ux, e, hx, ax, cx, _⟩ := h
 obtain rfl : p = some ⟨bx, 0, none⟩ := by injection e
 have Hl := Am ax
 obtain ⟨ql, rfl⟩ := ax.ptr
 clear ax
 have Hr := Am cx
 obtain ⟨br, vr, ur, rfl, hr, ar, cr, _⟩ := cx
 have Hrl := Am ar
 obtain ⟨qrl, rfl⟩ := ar.ptr
 clear ar
 have Hrr := Am cr
 obtain ⟨qrr, rfl⟩ := cr.ptr
 clear cr
 have Br := Am hr
 clear hr
 have Bx := Am hx
 clear hx
 go_enter Try.func61, Try.ntmps61
 go_wp2
 refine sG 10 (w0 := w) (below_drew (Below.refl _ _)) fun w1 hHeld => ?_
 refine pu 0 7 ?_
 refine pu 1 8 ?_
 refine pu 2 9 ?_
 refine tb 3 10 hHeld (fun _ s => blkB s Bx.out) ?_
 refine pu 4 11 ?_
 refine pu 5 12 ?_
 refine pu 6 13 ?_
 refine tb 7 14 hHeld (fun _ s => blkB s Bx.out) ?_
 refine pu 8 5 ?_
 refine pu 9 6 ?_
 refine done_ (by kernel_rfl) ?_
 obtain ⟨yr0, yr1, yr2, yr3, yr4, yr5, yr6, yr7, yr8⟩ := rd9 (blkB hHeld Br.out)
 go_wp2
 go_ret
 exact ⟨w1.heap.size, 4, [(some ⟨bx, 0, none⟩), ql, (some ⟨br, 0, none⟩), qrl], rfl, R_litP w1 [(some ⟨bx, 0, none⟩), ql, (some ⟨br, 0, none⟩), qrl] hHeld.size, ⟨Hx.out, Hl.out, Hr.out, Hrl.out, trivial⟩, ba hHeld _⟩
theorem rout6 (p : Option Addr) (nx : S34) (px : Int) (nr : S34) (pr : Int) (tl trl trr : Tr) (w : World) (h : Rp (fun _ => True) w (.pointer p) (.node nx px tl (.node nr pr trl trr))) :
  Calls Try.prog 61 #[.pointer p, .int .i64 6] w fun e w' => OutP w [(.node nx px tl (.node nr pr trl trr)), tl, (.node nr pr trl trr), trl] e w' := by
 have Hx := Am h
 obtain ⟨bx, vx, ux, e, hx, ax, cx, _⟩ := h
 obtain rfl : p = some ⟨bx, 0, none⟩ := by injection e
 have Hl := Am ax
 obtain ⟨ql, rfl⟩ := ax.ptr
 clear ax
 have Hr := Am cx
 obtain ⟨br, vr, ur, rfl, hr, ar, cr, _⟩ := cx
 have Hrl := Am ar
 obtain ⟨qrl, rfl⟩ := ar.ptr
 clear ar
 have Hrr := Am cr
 obtain ⟨qrr, rfl⟩ := cr.ptr
 clear cr
 have Br := Am hr
 clear hr
 have Bx := Am hx
 clear hx
 go_enter Try.func61, Try.ntmps61
 go_wp2
 refine sG 10 (w0 := w) (below_drew (Below.refl _ _)) fun w1 hHeld => ?_
 refine pu 0 7 ?_
 refine pu 1 8 ?_
 refine pu 2 9 ?_
 refine tb 3 10 hHeld (fun _ s => blkB s Bx.out) ?_
 refine pu 4 11 ?_
 refine pu 5 12 ?_
 refine pu 6 13 ?_
 refine tb 7 14 hHeld (fun _ s => blkB s Bx.out) ?_
 refine pu 8 5 ?_
 refine pu 9 6 ?_
 refine done_ (by kernel_rfl) ?_
 obtain ⟨yr0, yr1, yr2, yr3, yr4, yr5, yr6, yr7, yr8⟩ := rd9 (blkB hHeld Br.out)
 go_wp2
 go_ret
 exact ⟨w1.heap.size, 4, [(some ⟨bx, 0, none⟩), ql, (some ⟨br, 0, none⟩), qrl], rfl, R_litP w1 [(some ⟨bx, 0, none⟩), ql, (some ⟨br, 0, none⟩), qrl] hHeld.size, ⟨Hx.out, Hl.out, Hr.out, Hrl.out, trivial⟩, ba hHeld _⟩
theorem rout7 (p : Option Addr) (nx : S34) (px : Int) (nr : S34) (pr : Int) (nrl : S34) (prl : Int) (tl trr trll trlr : Tr) (w : World) (h : Rp (fun _ => True) w (.pointer p) (.node nx px tl (.node nr pr (.node nrl prl trll trlr) trr))) :
  Calls Try.prog 61 #[.pointer p, .int .i64 7] w fun e w' => OutP w [(.node nx px tl (.node nr pr (.node nrl prl trll trlr) trr)), tl, (.node nr pr (.node nrl prl trll trlr) trr), (.node nrl prl trll trlr), trll] e w' := by
 have Hx := Am h
 obtain ⟨bx, vx, ux, e, hx, ax, cx, _⟩ := h
 obtain rfl : p = some ⟨bx, 0, none⟩ := by injection e
 have Hl := Am ax
 obtain ⟨ql, rfl⟩ := ax.ptr
 clear ax
 have Hr := Am cx
 obtain ⟨br, vr, ur, rfl, hr, ar, cr, _⟩ := cx
 have Hrl := Am ar
 obtain ⟨brl, vrl, url, rfl, hrl, arl, crl, _⟩ := ar
 have Hrll := Am arl
 obtain ⟨qrll, rfl⟩ := arl.ptr
 clear arl
 have Hrlr := Am crl
 obtain ⟨qrlr, rfl⟩ := crl.ptr
 clear crl
 have Brl := Am hrl
 clear hrl
 have Hrr := Am cr
 obtain ⟨qrr, rfl⟩ := cr.ptr
 clear cr
 have Br := Am hr
 clear hr
 have Bx := Am hx
 clear hx
 go_enter Try.func61, Try.ntmps61
 go_wp2
 refine sG 10 (w0 := w) (below_drew (Below.refl _ _)) fun w1 hHeld => ?_
 refine pu 0 7 ?_
 refine pu 1 8 ?_
 refine pu 2 9 ?_
 refine tb 3 10 hHeld (fun _ s => blkB s Bx.out) ?_
 refine pu 4 11 ?_
 refine pu 5 12 ?_
 refine pu 6 13 ?_
 refine tb 7 14 hHeld (fun _ s => blkB s Bx.out) ?_
 refine pu 8 5 ?_
 refine pu 9 6 ?_
 refine done_ (by kernel_rfl) ?_
 go_wp2
 refine sT 16 [] (S := fun W' => Below w.heap.size w W') (below_drew hHeld) fun hH => ?_
 refine gen_any (fun W => Below w.heap.size w W) (below_drew hHeld) (fun w2 k1 => ?_)
 clear hH hHeld
 have hHeld := k1
 clear k1
 refine pu 0 52 ?_
 refine pu 1 53 ?_
 refine pu 2 54 ?_
 refine pu 3 55 ?_
 refine pu 4 56 ?_
 refine pu 5 57 ?_
 refine tb 6 58 hHeld (fun _ s => blkB s Br.out) ?_
 refine pu 7 59 ?_
 refine pu 8 60 ?_
 refine pu 9 61 ?_
 refine tb 10 62 hHeld (fun _ s => blkB s Br.out) ?_
 refine pu 11 63 ?_
 refine pu 12 64 ?_
 refine tb 13 65 hHeld (fun _ s => blkB s Brl.out) ?_
 refine on 14 66 fun K hK => ?_
 refine Kd.R_lit_step kP (w0 := w) w.heap.size 94 ?hg (N := 66) ?hd (xs := [(some ⟨bx, 0, none⟩), ql, (some ⟨br, 0, none⟩), (some ⟨brl, 0, none⟩), qrll]) (inner := [.pointer (some ⟨bx, 0, none⟩), .pointer ql, .pointer (some ⟨br, 0, none⟩), .pointer (some ⟨brl, 0, none⟩), .pointer qrll]) (ok := fun _ => True) (okp := fun _ => True) ?hr ?hp (fun _ hk => hk) trivial hHeld hHeld.size (by simp) ?_
 case hd => rfl
 case hg => rfl
 case hr => first | (go_simp; done) | (go_simp; rfl)
 case hp => exact repsP _ _ _ _
 intro v w9 ho hb hg_ hnew_
 obtain ⟨g, cg, rfl, _⟩ := R_ptrP ho (by simp)
 have HO := Am ho
 clear hg_ hnew_ ho
 refine hK.out _ _ hb (fun hHeld => ?_)
 clear hK K hb
 refine nm 66 ?_
 refine pu 15 4 ?_
 refine done_ (by kernel_rfl) ?_
 go_wp2
 go_ret
 exact ⟨g, cg, _, rfl, HO.out, ⟨Hx.out, Hl.out, Hr.out, Hrl.out, Hrll.out, trivial⟩, hHeld⟩
theorem rout8 (p : Option Addr) (nx : S34) (px : Int) (nr : S34) (pr : Int) (nrl : S34) (prl : Int) (tl trr trll trlr : Tr) (w : World) (h : Rp (fun _ => True) w (.pointer p) (.node nx px tl (.node nr pr (.node nrl prl trll trlr) trr))) :
  Calls Try.prog 61 #[.pointer p, .int .i64 8] w fun e w' => OutP w [(.node nx px tl (.node nr pr (.node nrl prl trll trlr) trr)), tl, (.node nr pr (.node nrl prl trll trlr) trr), (.node nrl prl trll trlr), trlr] e w' := by
 have Hx := Am h
 obtain ⟨bx, vx, ux, e, hx, ax, cx, _⟩ := h
 obtain rfl : p = some ⟨bx, 0, none⟩ := by injection e
 have Hl := Am ax
 obtain ⟨ql, rfl⟩ := ax.ptr
 clear ax
 have Hr := Am cx
 obtain ⟨br, vr, ur, rfl, hr, ar, cr, _⟩ := cx
 have Hrl := Am ar
 obtain ⟨brl, vrl, url, rfl, hrl, arl, crl, _⟩ := ar
 have Hrll := Am arl
 obtain ⟨qrll, rfl⟩ := arl.ptr
 clear arl
 have Hrlr := Am crl
 obtain ⟨qrlr, rfl⟩ := crl.ptr
 clear crl
 have Brl := Am hrl
 clear hrl
 have Hrr := Am cr
 obtain ⟨qrr, rfl⟩ := cr.ptr
 clear cr
 have Br := Am hr
 clear hr
 have Bx := Am hx
 clear hx
 go_enter Try.func61, Try.ntmps61
 go_wp2
 refine sG 10 (w0 := w) (below_drew (Below.refl _ _)) fun w1 hHeld => ?_
 refine pu 0 7 ?_
 refine pu 1 8 ?_
 refine pu 2 9 ?_
 refine tb 3 10 hHeld (fun _ s => blkB s Bx.out) ?_
 refine pu 4 11 ?_
 refine pu 5 12 ?_
 refine pu 6 13 ?_
 refine tb 7 14 hHeld (fun _ s => blkB s Bx.out) ?_
 refine pu 8 5 ?_
 refine pu 9 6 ?_
 refine done_ (by kernel_rfl) ?_
 go_wp2
 refine sT 16 [] (S := fun W' => Below w.heap.size w W') (below_drew hHeld) fun hH => ?_
 refine gen_any (fun W => Below w.heap.size w W) (below_drew hHeld) (fun w2 k1 => ?_)
 clear hH hHeld
 have hHeld := k1
 clear k1
 refine pu 0 69 ?_
 refine pu 1 70 ?_
 refine pu 2 71 ?_
 refine pu 3 72 ?_
 refine pu 4 73 ?_
 refine pu 5 74 ?_
 refine tb 6 75 hHeld (fun _ s => blkB s Br.out) ?_
 refine pu 7 76 ?_
 refine pu 8 77 ?_
 refine pu 9 78 ?_
 refine tb 10 79 hHeld (fun _ s => blkB s Br.out) ?_
 refine pu 11 80 ?_
 refine pu 12 81 ?_
 refine tb 13 82 hHeld (fun _ s => blkB s Brl.out) ?_
 refine on 14 83 fun K hK => ?_
 refine Kd.R_lit_step kP (w0 := w) w.heap.size 94 ?hg (N := 83) ?hd (xs := [(some ⟨bx, 0, none⟩), ql, (some ⟨br, 0, none⟩), (some ⟨brl, 0, none⟩), qrlr]) (inner := [.pointer (some ⟨bx, 0, none⟩), .pointer ql, .pointer (some ⟨br, 0, none⟩), .pointer (some ⟨brl, 0, none⟩), .pointer qrlr]) (ok := fun _ => True) (okp := fun _ => True) ?hr ?hp (fun _ hk => hk) trivial hHeld hHeld.size (by simp) ?_
 case hd => rfl
 case hg => rfl
 case hr => first | (go_simp; done) | (go_simp; rfl)
 case hp => exact repsP _ _ _ _
 intro v w9 ho hb hg_ hnew_
 obtain ⟨g, cg, rfl, _⟩ := R_ptrP ho (by simp)
 have HO := Am ho
 clear hg_ hnew_ ho
 refine hK.out _ _ hb (fun hHeld => ?_)
 clear hK K hb
 refine nm 83 ?_
 refine pu 15 4 ?_
 refine done_ (by kernel_rfl) ?_
 go_wp2
 go_ret
 exact ⟨g, cg, _, rfl, HO.out, ⟨Hx.out, Hl.out, Hr.out, Hrl.out, Hrlr.out, trivial⟩, hHeld⟩
theorem rout9 (p : Option Addr) (nx : S34) (px : Int) (nr : S34) (pr : Int) (tl trl trr : Tr) (w : World) (h : Rp (fun _ => True) w (.pointer p) (.node nx px tl (.node nr pr trl trr))) :
  Calls Try.prog 61 #[.pointer p, .int .i64 9] w fun e w' => OutP w [(.node nx px tl (.node nr pr trl trr)), tl, (.node nr pr trl trr), trr] e w' := by
 have Hx := Am h
 obtain ⟨bx, vx, ux, e, hx, ax, cx, _⟩ := h
 obtain rfl : p = some ⟨bx, 0, none⟩ := by injection e
 have Hl := Am ax
 obtain ⟨ql, rfl⟩ := ax.ptr
 clear ax
 have Hr := Am cx
 obtain ⟨br, vr, ur, rfl, hr, ar, cr, _⟩ := cx
 have Hrl := Am ar
 obtain ⟨qrl, rfl⟩ := ar.ptr
 clear ar
 have Hrr := Am cr
 obtain ⟨qrr, rfl⟩ := cr.ptr
 clear cr
 have Br := Am hr
 clear hr
 have Bx := Am hx
 clear hx
 go_enter Try.func61, Try.ntmps61
 go_wp2
 refine sG 10 (w0 := w) (below_drew (Below.refl _ _)) fun w1 hHeld => ?_
 refine pu 0 7 ?_
 refine pu 1 8 ?_
 refine pu 2 9 ?_
 refine tb 3 10 hHeld (fun _ s => blkB s Bx.out) ?_
 refine pu 4 11 ?_
 refine pu 5 12 ?_
 refine pu 6 13 ?_
 refine tb 7 14 hHeld (fun _ s => blkB s Bx.out) ?_
 refine pu 8 5 ?_
 refine pu 9 6 ?_
 refine done_ (by kernel_rfl) ?_
 obtain ⟨yr0, yr1, yr2, yr3, yr4, yr5, yr6, yr7, yr8⟩ := rd9 (blkB hHeld Br.out)
 go_wp2
 go_ret
 exact ⟨w1.heap.size, 4, [(some ⟨bx, 0, none⟩), ql, (some ⟨br, 0, none⟩), qrr], rfl, R_litP w1 [(some ⟨bx, 0, none⟩), ql, (some ⟨br, 0, none⟩), qrr] hHeld.size, ⟨Hx.out, Hl.out, Hr.out, Hrr.out, trivial⟩, ba hHeld _⟩
theorem rout10 (p : Option Addr) (nx : S34) (px : Int) (nr : S34) (pr : Int) (tl trl trr : Tr) (w : World) (h : Rp (fun _ => True) w (.pointer p) (.node nx px tl (.node nr pr trl trr))) :
  Calls Try.prog 61 #[.pointer p, .int .i64 10] w fun e w' => OutP w [(.node nx px tl (.node nr pr trl trr)), tl, (.node nr pr trl trr), trl] e w' := by
 have Hx := Am h
 obtain ⟨bx, vx, ux, e, hx, ax, cx, _⟩ := h
 obtain rfl : p = some ⟨bx, 0, none⟩ := by injection e
 have Hl := Am ax
 obtain ⟨ql, rfl⟩ := ax.ptr
 clear ax
 have Hr := Am cx
 obtain ⟨br, vr, ur, rfl, hr, ar, cr, _⟩ := cx
 have Hrl := Am ar
 obtain ⟨qrl, rfl⟩ := ar.ptr
 clear ar
 have Hrr := Am cr
 obtain ⟨qrr, rfl⟩ := cr.ptr
 clear cr
 have Br := Am hr
 clear hr
 have Bx := Am hx
 clear hx
 go_enter Try.func61, Try.ntmps61
 go_wp2
 refine sG 10 (w0 := w) (below_drew (Below.refl _ _)) fun w1 hHeld => ?_
 refine pu 0 7 ?_
 refine pu 1 8 ?_
 refine pu 2 9 ?_
 refine tb 3 10 hHeld (fun _ s => blkB s Bx.out) ?_
 refine pu 4 11 ?_
 refine pu 5 12 ?_
 refine pu 6 13 ?_
 refine tb 7 14 hHeld (fun _ s => blkB s Bx.out) ?_
 refine pu 8 5 ?_
 refine pu 9 6 ?_
 refine done_ (by kernel_rfl) ?_
 obtain ⟨yr0, yr1, yr2, yr3, yr4, yr5, yr6, yr7, yr8⟩ := rd9 (blkB hHeld Br.out)
 go_wp2
 go_ret
 exact ⟨w1.heap.size, 4, [(some ⟨bx, 0, none⟩), ql, (some ⟨br, 0, none⟩), qrl], rfl, R_litP w1 [(some ⟨bx, 0, none⟩), ql, (some ⟨br, 0, none⟩), qrl] hHeld.size, ⟨Hx.out, Hl.out, Hr.out, Hrl.out, trivial⟩, ba hHeld _⟩
theorem rout11 (p : Option Addr) (nx : S34) (px : Int) (tl tr : Tr) (w : World) (h : Rp (fun _ => True) w (.pointer p) (.node nx px tl tr)) :
  Calls Try.prog 61 #[.pointer p, .int .i64 11] w fun e w' => OutP w [(.node nx px tl tr), tl, tr] e w' := by
 have Hx := Am h
 obtain ⟨bx, vx, ux, e, hx, ax, cx, _⟩ := h
 obtain rfl : p = some ⟨bx, 0, none⟩ := by injection e
 have Hl := Am ax
 obtain ⟨ql, rfl⟩ := ax.ptr
 clear ax
 have Hr := Am cx
 obtain ⟨qr, rfl⟩ := cx.ptr
 clear cx
 have Bx := Am hx
 clear hx
 go_enter Try.func61, Try.ntmps61
 go_wp2
 refine sG 10 (w0 := w) (below_drew (Below.refl _ _)) fun w1 hHeld => ?_
 refine pu 0 7 ?_
 refine pu 1 8 ?_
 refine pu 2 9 ?_
 refine tb 3 10 hHeld (fun _ s => blkB s Bx.out) ?_
 refine pu 4 11 ?_
 refine pu 5 12 ?_
 refine pu 6 13 ?_
 refine tb 7 14 hHeld (fun _ s => blkB s Bx.out) ?_
 refine pu 8 5 ?_
 refine pu 9 6 ?_
 refine done_ (by kernel_rfl) ?_
 go_wp2
 go_ret
 exact ⟨w1.heap.size, 3, [(some ⟨bx, 0, none⟩), ql, qr], rfl, R_litP w1 [(some ⟨bx, 0, none⟩), ql, qr] hHeld.size, ⟨Hx.out, Hl.out, Hr.out, trivial⟩, ba hHeld _⟩
theorem rout12 (p : Option Addr) (nx : S34) (px : Int) (tl tr : Tr) (w : World) (h : Rp (fun _ => True) w (.pointer p) (.node nx px tl tr)) :
  Calls Try.prog 61 #[.pointer p, .int .i64 12] w fun e w' => OutP w [(.node nx px tl tr)] e w' := by
 have Hx := Am h
 obtain ⟨bx, vx, ux, e, hx, ax, cx, _⟩ := h
 obtain rfl : p = some ⟨bx, 0, none⟩ := by injection e
 have Hl := Am ax
 obtain ⟨ql, rfl⟩ := ax.ptr
 clear ax
 have Hr := Am cx
 obtain ⟨qr, rfl⟩ := cx.ptr
 clear cx
 have Bx := Am hx
 clear hx
 go_enter Try.func61, Try.ntmps61
 go_wp2
 refine sG 10 (w0 := w) (below_drew (Below.refl _ _)) fun w1 hHeld => ?_
 refine pu 0 7 ?_
 refine pu 1 8 ?_
 refine pu 2 9 ?_
 refine tb 3 10 hHeld (fun _ s => blkB s Bx.out) ?_
 refine pu 4 11 ?_
 refine pu 5 12 ?_
 refine pu 6 13 ?_
 refine tb 7 14 hHeld (fun _ s => blkB s Bx.out) ?_
 refine pu 8 5 ?_
 refine pu 9 6 ?_
 refine done_ (by kernel_rfl) ?_
 go_wp2
 go_ret
 exact ⟨w1.heap.size, 1, [(some ⟨bx, 0, none⟩)], rfl, R_litP w1 [(some ⟨bx, 0, none⟩)] hHeld.size, ⟨Hx.out, trivial⟩, ba hHeld _⟩
def outsT (m : Bool) (X : Tr) (kind : Int) : List Tr :=
 if kind = 1 then [X, (lT m X), (rT m X)] else if kind = 2 then [X, (lT m X)] else if kind = 3 then [X, (lT m X), (rT m (lT m X))] else if kind = 4 then [X, (lT m X), (rT m X)] else if kind = 5 then [X, (lT m X), (rT m X), (lT m (rT m X))] else if kind = 6 then [X, (lT m X), (rT m X), (lT m (rT m X))] else if kind = 7 then [X, (lT m X), (rT m X), (lT m (rT m X)), (lT m (lT m (rT m X)))] else if kind = 8 then [X, (lT m X), (rT m X), (lT m (rT m X)), (rT m (lT m (rT m X)))] else if kind = 9 then [X, (lT m X), (rT m X), (rT m (rT m X))] else if kind = 10 then [X, (lT m X), (rT m X), (lT m (rT m X))] else if kind = 11 then [X, (lT m X), (rT m X)] else [X]
theorem routa1 (rt : Bool) (p : Option Addr) (T : Tr) (w : World) (h : Rp (fun _ => True) w (.pointer p) T) (hT : T ≠ .nil) (hc : canT false rt T 1 = true) : Calls Try.prog 61 #[.pointer p, .int .i64 1] w fun e w' => OutP w (outsT false T 1) e w' := by
 cases T with
 | nil => exact absurd rfl hT
 | node nx px tl tr =>
  exact rout1 p nx px tl tr w h
theorem routa2 (rt : Bool) (p : Option Addr) (T : Tr) (w : World) (h : Rp (fun _ => True) w (.pointer p) T) (hT : T ≠ .nil) (hc : canT false rt T 2 = true) : Calls Try.prog 61 #[.pointer p, .int .i64 2] w fun e w' => OutP w (outsT false T 2) e w' := by
 cases T with
 | nil => exact absurd rfl hT
 | node nx px tl tr =>
  exact rout2 p nx px tl tr w h
theorem routa3 (rt : Bool) (p : Option Addr) (T : Tr) (w : World) (h : Rp (fun _ => True) w (.pointer p) T) (hT : T ≠ .nil) (hc : canT false rt T 3 = true) : Calls Try.prog 61 #[.pointer p, .int .i64 3] w fun e w' => OutP w (outsT false T 3) e w' := by
 cases T with
 | nil => exact absurd rfl hT
 | node nx px tl tr =>
  cases tl with
  | nil => simp [canT, can3, lT, rT, wt, innerB] at hc
  | node nl pl tll tlr =>
   exact rout3 p nx px nl pl tr tll tlr w h
theorem routa4 (rt : Bool) (p : Option Addr) (T : Tr) (w : World) (h : Rp (fun _ => True) w (.pointer p) T) (hT : T ≠ .nil) (hc : canT false rt T 4 = true) : Calls Try.prog 61 #[.pointer p, .int .i64 4] w fun e w' => OutP w (outsT false T 4) e w' := by
 cases T with
 | nil => exact absurd rfl hT
 | node nx px tl tr =>
  exact rout4 p nx px tl tr w h
theorem routa5 (rt : Bool) (p : Option Addr) (T : Tr) (w : World) (h : Rp (fun _ => True) w (.pointer p) T) (hT : T ≠ .nil) (hc : canT false rt T 5 = true) : Calls Try.prog 61 #[.pointer p, .int .i64 5] w fun e w' => OutP w (outsT false T 5) e w' := by
 cases T with
 | nil => exact absurd rfl hT
 | node nx px tl tr =>
  cases tr with
  | nil => simp [canT, can5, lT, rT, wt, innerB] at hc
  | node nr pr trl trr =>
   exact rout5 p nx px nr pr tl trl trr w h
theorem routa6 (rt : Bool) (p : Option Addr) (T : Tr) (w : World) (h : Rp (fun _ => True) w (.pointer p) T) (hT : T ≠ .nil) (hc : canT false rt T 6 = true) : Calls Try.prog 61 #[.pointer p, .int .i64 6] w fun e w' => OutP w (outsT false T 6) e w' := by
 cases T with
 | nil => exact absurd rfl hT
 | node nx px tl tr =>
  cases tr with
  | nil => simp [canT, can6, lT, rT, wt, innerB] at hc
  | node nr pr trl trr =>
   exact rout6 p nx px nr pr tl trl trr w h
theorem routa7 (rt : Bool) (p : Option Addr) (T : Tr) (w : World) (h : Rp (fun _ => True) w (.pointer p) T) (hT : T ≠ .nil) (hc : canT false rt T 7 = true) : Calls Try.prog 61 #[.pointer p, .int .i64 7] w fun e w' => OutP w (outsT false T 7) e w' := by
 cases T with
 | nil => exact absurd rfl hT
 | node nx px tl tr =>
  cases tr with
  | nil => simp [canT, can7, lT, rT, wt, innerB] at hc
  | node nr pr trl trr =>
   cases trl with
   | nil => simp [canT, can7, lT, rT, wt, innerB] at hc
   | node nrl prl trll trlr =>
    exact rout7 p nx px nr pr nrl prl tl trr trll trlr w h
theorem routa8 (rt : Bool) (p : Option Addr) (T : Tr) (w : World) (h : Rp (fun _ => True) w (.pointer p) T) (hT : T ≠ .nil) (hc : canT false rt T 8 = true) : Calls Try.prog 61 #[.pointer p, .int .i64 8] w fun e w' => OutP w (outsT false T 8) e w' := by
 cases T with
 | nil => exact absurd rfl hT
 | node nx px tl tr =>
  cases tr with
  | nil => simp [canT, can8, lT, rT, wt, innerB] at hc
  | node nr pr trl trr =>
   cases trl with
   | nil => simp [canT, can8, lT, rT, wt, innerB] at hc
   | node nrl prl trll trlr =>
    exact rout8 p nx px nr pr nrl prl tl trr trll trlr w h
theorem routa9 (rt : Bool) (p : Option Addr) (T : Tr) (w : World) (h : Rp (fun _ => True) w (.pointer p) T) (hT : T ≠ .nil) (hc : canT false rt T 9 = true) : Calls Try.prog 61 #[.pointer p, .int .i64 9] w fun e w' => OutP w (outsT false T 9) e w' := by
 cases T with
 | nil => exact absurd rfl hT
 | node nx px tl tr =>
  cases tr with
  | nil => simp [canT, can9, lT, rT, wt, innerB] at hc
  | node nr pr trl trr =>
   exact rout9 p nx px nr pr tl trl trr w h
theorem routa10 (rt : Bool) (p : Option Addr) (T : Tr) (w : World) (h : Rp (fun _ => True) w (.pointer p) T) (hT : T ≠ .nil) (hc : canT false rt T 10 = true) : Calls Try.prog 61 #[.pointer p, .int .i64 10] w fun e w' => OutP w (outsT false T 10) e w' := by
 cases T with
 | nil => exact absurd rfl hT
 | node nx px tl tr =>
  cases tr with
  | nil => simp [canT, can10, lT, rT, wt, innerB] at hc
  | node nr pr trl trr =>
   exact rout10 p nx px nr pr tl trl trr w h
theorem routa11 (rt : Bool) (p : Option Addr) (T : Tr) (w : World) (h : Rp (fun _ => True) w (.pointer p) T) (hT : T ≠ .nil) (hc : canT false rt T 11 = true) : Calls Try.prog 61 #[.pointer p, .int .i64 11] w fun e w' => OutP w (outsT false T 11) e w' := by
 cases T with
 | nil => exact absurd rfl hT
 | node nx px tl tr =>
  exact rout11 p nx px tl tr w h
theorem routa12 (rt : Bool) (p : Option Addr) (T : Tr) (w : World) (h : Rp (fun _ => True) w (.pointer p) T) (hT : T ≠ .nil) (hc : canT false rt T 12 = true) : Calls Try.prog 61 #[.pointer p, .int .i64 12] w fun e w' => OutP w (outsT false T 12) e w' := by
 cases T with
 | nil => exact absurd rfl hT
 | node nx px tl tr =>
  exact rout12 p nx px tl tr w h
theorem rout_any (rt : Bool) (p : Option Addr) (T : Tr) (w : World) (h : Rp (fun _ => True) w (.pointer p) T) (hT : T ≠ .nil) (kind : Int) (hk : 1 ≤ kind ∧ kind ≤ 12) (hc : canT false rt T kind = true) :
  Calls Try.prog 61 #[.pointer p, .int .i64 kind] w fun e w' => OutP w (outsT false T kind) e w' := by
 have hd : kind = 1 ∨ kind = 2 ∨ kind = 3 ∨ kind = 4 ∨ kind = 5 ∨ kind = 6 ∨ kind = 7 ∨ kind = 8 ∨ kind = 9 ∨ kind = 10 ∨ kind = 11 ∨ kind = 12 := by omega
 rcases hd with rfl | rfl | rfl | rfl | rfl | rfl | rfl | rfl | rfl | rfl | rfl | rfl
 ·exact routa1 rt p T w h hT hc
 ·exact routa2 rt p T w h hT hc
 ·exact routa3 rt p T w h hT hc
 ·exact routa4 rt p T w h hT hc
 ·exact routa5 rt p T w h hT hc
 ·exact routa6 rt p T w h hT hc
 ·exact routa7 rt p T w h hT hc
 ·exact routa8 rt p T w h hT hc
 ·exact routa9 rt p T w h hT hc
 ·exact routa10 rt p T w h hT hc
 ·exact routa11 rt p T w h hT hc
 ·exact routa12 rt p T w h hT hc
def kids : Tr → List Tr
 | .nil => []
 | .node _ _ .nil _ => []
 | .node _ _ (.node n p l r) r' => [.node n p l r, r']
def rowsR (O : List Int) : Nat → List Int → List Tr → Option (List Int)
 | 0, _, _ => none
 | _ + 1, out, [] => some out
 | k + 1, out, T :: row => if (out ++ (T :: row).flatMap (fun T => O.filter (· == plc T))).length = O.length then some (out ++ (T :: row).flatMap (fun T => O.filter (· == plc T))) else if (out ++ (T :: row).flatMap (fun T => O.filter (· == plc T))).length < O.length then rowsR O k (out ++ (T :: row).flatMap (fun T => O.filter (· == plc T))) ((T :: row).flatMap kids) else none
theorem PtO_len {w : World} : ∀ {ps : List (Option Addr)} {Ts : List Tr}, PtO w ps Ts → ps.length = Ts.length
 | [], [], _ => rfl
 | _ :: _, _ :: _, h => by rw [List.length_cons, List.length_cons, PtO_len h.2]
 | [], _ :: _, h => h.elim
 | _ :: _, [], h => h.elim
theorem PtO_get {w : World} : ∀ {ps : List (Option Addr)} {Ts : List Tr} (i : Nat), PtO w ps Ts → i < Ts.length → Rp (fun _ => True) w (.pointer (ps.getD i none)) (Ts.getD i .nil)
 | _ :: _, _ :: _, 0, h, _ => h.1
 | _ :: ps, _ :: Ts, i + 1, h, hi => by
  have := PtO_get (ps := ps) (Ts := Ts) i h.2 (by simpa using hi)
  simpa using this
 | [], [], _, _, hi => by simp at hi
 | [], _ :: _, _, h, _ => h.elim
 | _ :: _, [], _, h, _ => h.elim
theorem PtO_app {w : World} : ∀ {ps qs : List (Option Addr)} {Ts Us : List Tr}, PtO w ps Ts → PtO w qs Us → PtO w (ps ++ qs) (Ts ++ Us)
 | [], _, [], _, _, h => h
 | _ :: _, _, _ :: _, _, h, h' => ⟨h.1, PtO_app h.2 h'⟩
 | [], _, _ :: _, _, h, _ => h.elim
 | _ :: _, _, [], _, h, _ => h.elim
theorem at_P {w : World} {A : Option Addr} {n : Nat} {xs : List (Option Addr)} (h : Kd.C kP w A n xs) (i : Nat) (h1 : i < n) : ∃ ad, A = some ad ∧ w.cell? (ad.add i) = some (.pointer (xs.getD i none)) := by
 have := Go.Proofs.YtgleaefhflamnaaW.PrintWords.ReadsOf.at_ (Kd.reads_of_C (enc := fun p : Option Addr => Value.pointer p) (d := (none : Option Addr)) (h1 := fun _ => rfl) h) (i : Int) (by omega) (by omega)
 simpa [rdOf] using this
section
def Blk (w : World) (p : Option Addr) : Prop := ∃ b c t, p = some ⟨b, 0, none⟩ ∧ w.heap[b]? = some (.cells c t (0, 0))
theorem equal_pp {w : World} {p q : Option Addr} (hp : Blk w p) (hq : Blk w q) : (Op.equal 92 (.pointer p) (.pointer q)).run Try.prog w = .ok (decide (p = q)) w := by
 obtain ⟨b, c, t, rfl, hb⟩ := hp
 obtain ⟨b', c', t', rfl, hb'⟩ := hq
 obtain ⟨i, hi, hs⟩ := Option.map_eq_some_iff.1 size116
 by_cases h : b = b'
 ·subst h
  rw [decide_eq_true rfl]
  have h : ∀ d : Nat, (Op.equalIn (d + 1) 92 (.pointer (some ⟨b, 0, none⟩)) (.pointer (some ⟨b, 0, none⟩))).run Try.prog w = .ok true w := fun d => by
   simp [Op.equalIn, run_underlying Try.underlying92, sizeOf, typeInfo, hi, run_sameAddr_same]
  exact h 9999
 ·have hne : (⟨b, 0, none⟩ : Addr) ≠ ⟨b', 0, none⟩ := fun e => h (by injection e)
  rw [decide_eq_false (fun e => hne (by injection e))]
  have h : ∀ d : Nat, (Op.equalIn (d + 1) 92 (.pointer (some ⟨b, 0, none⟩)) (.pointer (some ⟨b', 0, none⟩))).run Try.prog w = .ok false w := fun d => by
   simp [Op.equalIn, run_underlying Try.underlying92, sizeOf, typeInfo, hi, show i.size ≠ 0 by rw [hs]; decide, run_sameAddr_other w hne hb hb']
  exact h 9999
def ents : Nat → List (Option Addr) → List MapEntry
 | _, [] => []
 | n, q :: os => { key := .pointer q, val := .bool true, born := n } :: ents (n + 1) os
theorem ents_snoc (p : Option Addr) : ∀ (n : Nat) (os : List (Option Addr)), ents n (os ++ [p]) = ents n os ++ [{ key := .pointer p, val := .bool true, born := n + os.length }]
 | n, [] => rfl
 | n, q :: os => by
  rw [List.cons_append, ents, ents, ents_snoc p (n + 1) os, List.cons_append, List.length_cons]
  rw [show n + 1 + os.length = n + (os.length + 1) by omega]
theorem find_p {w : World} {p : Option Addr} (hp : Blk w p) : ∀ (os : List (Option Addr)) (n i : Nat), (∀ q ∈ os, Blk w q) → ∃ r, (Instr.findAsking 92 (.pointer p) (ents n os) i).run Try.prog w = .ok r w ∧ (p ∉ os → r = none) ∧ (p ∈ os → ∃ j, r = some (j, .bool true))
 | [], n, i, _ => ⟨none, rfl, fun _ => rfl, fun h => by simp at h⟩
 | q :: os, n, i, h => by
  have hq := equal_pp hp (h q List.mem_cons_self)
  by_cases e : p = q
  ·refine ⟨some (i, .bool true), ?_, fun hn => absurd (by rw [e]; exact List.mem_cons_self) hn, fun _ => ⟨i, rfl⟩⟩
   subst e
   rw [ents, Instr.findAsking]
   simp [hq, Result.andThen]
  ·obtain ⟨r, h1, h2, h3⟩ := find_p hp os (n + 1) (i + 1) (fun x hx => h x (List.mem_cons_of_mem _ hx))
   refine ⟨r, ?_, fun hn => h2 (fun hm => hn (List.mem_cons_of_mem _ hm)), fun hm => h3 ((List.mem_cons.1 hm).resolve_left e)⟩
   rw [ents, Instr.findAsking]
   simp [hq, e, h1, Result.andThen]
theorem findKey_p {w : World} {p : Option Addr} (hp : Blk w p) (os : List (Option Addr)) (n : Nat) (h : ∀ q ∈ os, Blk w q) : ∃ r, (Instr.findKey 92 (.pointer p) (ents n os)).run Try.prog w = .ok r w ∧ (p ∉ os → r = none) ∧ (p ∈ os → ∃ j, r = some (j, .bool true)) := by
 cases os with
 | nil => exact ⟨none, by simp [Instr.findKey, run_underlying Try.underlying92, Result.andThen, ents, Instr.findNow], fun _ => rfl, fun h => by simp at h⟩
 | cons q os =>
  obtain ⟨r, h1, h2, h3⟩ := find_p hp (q :: os) n 0 h
  refine ⟨r, ?_, h2, h3⟩
  have hn : Instr.findNow (.pointer 116) (.pointer p) (ents n (q :: os)) 0 = none := rfl
  simp [Instr.findKey, run_underlying Try.underlying92, Result.andThen, hn, h1]
theorem checkKey_p (w : World) (p : Option Addr) (e : Bool) : (Instr.checkKey e 10000 92 (.pointer p)).run Try.prog w = .ok () w := by
 rw [show (10000 : Nat) = 9999 + 1 from rfl]
 unfold Instr.checkKey
 simp [run_underlying Try.underlying92, Result.andThen]
theorem run_put {w : World} {bm : Nat} {os : List (Option Addr)} {p : Option Addr} (hb : w.heap[bm]? = some (.map (ents 0 os).toArray os.length)) (hp : Blk w p) (h : ∀ q ∈ os, Blk w q) (hn : p ∉ os) :
  (Instr.mapUpdate 118 (.map (some bm)) (.pointer p) (.bool true)).run Try.prog w = .ok () { w with heap := w.heap.setIfInBounds bm (.map (ents 0 (os ++ [p])).toArray (os ++ [p]).length) } := by
 obtain ⟨r, h1, h2, _⟩ := findKey_p hp os 0 h
 obtain rfl := h2 hn
 rw [ents_snoc]
 simp [Instr.mapUpdate, run_underlying Try.underlying118, MapKept.run_getObj_map hb, checkKey_p, h1, MapKept.run_setObj_map _ hb, Result.andThen]
theorem zero4 : (Try.prog.info? 4).map (fun i => i.zero) = some (some (.bool false)) := by kernel_rfl
theorem run_get {w : World} {bm : Nat} {os : List (Option Addr)} {p : Option Addr} (hb : w.heap[bm]? = some (.map (ents 0 os).toArray os.length)) (hp : Blk w p) (h : ∀ q ∈ os, Blk w q) :
  (Instr.lookup 118 (.map (some bm)) (.pointer p) false).run Try.prog w = .ok (.bool (decide (p ∈ os))) w := by
 obtain ⟨r, h1, h2, h3⟩ := findKey_p hp os 0 h
 have hz : (zeroValue 4).run Try.prog w = .ok (.bool false) w := by
  obtain ⟨i, hi, he⟩ := Option.map_eq_some_iff.1 zero4
  simp [zeroValue, typeInfo, hi, he]
 by_cases hm : p ∈ os
 ·obtain ⟨j, rfl⟩ := h3 hm
  simp [Instr.lookup, run_underlying Try.underlying118, MapKept.run_getObj_map hb, checkKey_p, h1, Result.andThen, hm]
 ·obtain rfl := h2 hm
  simp [Instr.lookup, run_underlying Try.underlying118, MapKept.run_getObj_map hb, checkKey_p, h1, Result.andThen, hm, hz]
section
variable {ops : Array Oper} {rest : List Oper} {o : Oper} {a : Act} {Q : Exit → Act → World → Prop} {W : World}
theorem wp_put (hgd : o.guard = none) (hN : o.dst = none) (m x : Operand) (ho : o.op = .mapUpdate 118 m x (.const (.bool true))) (bm : Nat) (hm : a.eval m = .map (some bm)) (p : Option Addr) (hx : a.eval x = .pointer p) {os : List (Option Addr)} (hb : W.heap[bm]? = some (.map (ents 0 os).toArray os.length)) (hp : Blk W p) (hos : ∀ q ∈ os, Blk W q) (hn : p ∉ os)
  (h : ∀ W1, W1.heap[bm]? = some (.map (ents 0 (os ++ [p])).toArray (os ++ [p]).length) → W.grownBy W1 (some bm) → wpList Try.prog ops Q rest a W1) : wpList Try.prog ops Q (o :: rest) a W := by
 refine wpList_plain hgd fun K hK => ?_
 have hrun := run_put hb hp hos hn
 have hc : a.eval (.const (.bool true)) = .bool true := rfl
 unfold Oper.wp execOp
 simp only [ho, hm, hx, hc, Sem.run_bind, Sem.run_pure, Result.andThen_ok, hrun]
 show K (a.put o.dst undef) _
 rw [hN]
 refine hK a _ (h _ (MapKept.heap_set hb).1 ⟨rfl, rfl, rfl, by simp, fun k hk hne => (MapKept.heap_set hb).2 k (fun e => hne (by rw [e]))⟩)
end
end
section
section
variable {ops : Array Oper} {rest : List Oper} {o : Oper} {a : Act} {Q : Exit → Act → World → Prop} {W : World}
theorem wp_get (hgd : o.guard = none) (m x : Operand) (ho : o.op = .lookup 118 m x false) (bm : Nat) (hm : a.eval m = .map (some bm)) (p : Option Addr) (hx : a.eval x = .pointer p) {os : List (Option Addr)} (hb : W.heap[bm]? = some (.map (ents 0 os).toArray os.length)) (hp : Blk W p) (hos : ∀ q ∈ os, Blk W q)
  (h : wpList Try.prog ops Q rest (a.put o.dst (.bool (decide (p ∈ os)))) W) : wpList Try.prog ops Q (o :: rest) a W := by
 refine wpList_plain hgd fun K hK => ?_
 have hrun := run_get hb hp hos
 unfold Oper.wp execOp
 simp only [ho, hm, hx, Sem.run_bind, Sem.run_pure, Result.andThen_ok, hrun]
 exact hK _ _ h
theorem wp_make (hgd : o.guard = none) (ho : o.op = .makeMap 118 none) (h : wpList Try.prog ops Q rest (a.put o.dst (.map (some W.heap.size))) (W.alloc (.map #[] 0))) : wpList Try.prog ops Q (o :: rest) a W := by
 refine wpList_plain hgd fun K hK => ?_
 have hrun : (Instr.makeMap 118 none).run Try.prog W = .ok (.map (some W.heap.size)) (W.alloc (.map #[] 0)) := run_makeMap 118 W
 unfold Oper.wp execOp
 simp only [ho, Sem.run_bind, Sem.run_pure, Result.andThen_ok, hrun, Option.map_none]
 exact hK _ _ h
end
def TouP (w : World) (ps : List (Option Addr)) (e : Ending) (w' : World) : Prop := ∃ g, e = .returned (.slice (some ⟨g, 0, none⟩) ps.length ps.length) ∧ Kd.R kP 92 w' w.heap.size (fun _ => True) (.slice (some ⟨g, 0, none⟩) ps.length ps.length) ps ∧ Below w.heap.size w w'
theorem R_litQ (W : World) (xs : List (Option Addr)) {g : Nat} (hg : g = W.heap.size := by simp) (hm : xs.length ≤ 1000 := by simp) : Kd.R kP 92 (W.alloc (.cells (xs.map fun p => Value.pointer p).toArray 92)) W.heap.size (fun _ => True) (.slice (some ⟨g, 0, none⟩) xs.length xs.length) xs := by
 subst hg
 refine ⟨fun _ _ => trivial, _, World.ownsRow_lit W _ xs.length (Nat.le_refl _) (by simp [maxLen]; omega) (by simp [kP, Kd.scalar]), ?_⟩
 simpa using repsP _ _ _ xs
def touchP (p pl pr pll plr prl prr pa pb : Option Addr) (kind : Int) : List (Option Addr) :=
 if kind = 1 then [p, pl, pr] else if kind = 2 then [p, pl] else if kind = 3 then [p, pl, plr] else if kind = 4 then [p, pl, pr] else if kind = 5 then [p, pl, pr, prl] else if kind = 6 then [p, pl, pr, prl] else if kind = 7 then [p, pl, pr, prl, pa] else if kind = 8 then [p, pl, pr, prl, pb] else if kind = 9 then [p, pl, pr, prr] else if kind = 10 then [p, pl, pr, prl] else if kind = 11 then [p, pl, pr] else [p]
theorem touch1 (m rt : Bool) (p pl pr pll plr prl prr pa pb : Option Addr) (w : World) : Calls Try.prog 67 #[.agg #[.bool m, .pointer p, .pointer pl, .pointer pr, .pointer pll, .pointer plr, .pointer prl, .pointer prr, .pointer pa, .pointer pb, .bool rt], .int .i64 1] w fun e w' => TouP w [p, pl, pr] e w' := by
 go_enter Try.func67, Try.ntmps67
 go_wp2
 go_ret
 exact ⟨_, rfl, Kd.R_lower (R_litQ (w.alloc (.cells #[.bool m, .pointer p, .pointer pl, .pointer pr, .pointer pll, .pointer plr, .pointer prl, .pointer prr, .pointer pa, .pointer pb, .bool rt] 111)) [p, pl, pr]) (by simp), ba (ba (Below.refl _ _) _) _⟩
theorem touch2 (m rt : Bool) (p pl pr pll plr prl prr pa pb : Option Addr) (w : World) : Calls Try.prog 67 #[.agg #[.bool m, .pointer p, .pointer pl, .pointer pr, .pointer pll, .pointer plr, .pointer prl, .pointer prr, .pointer pa, .pointer pb, .bool rt], .int .i64 2] w fun e w' => TouP w [p, pl] e w' := by
 go_enter Try.func67, Try.ntmps67
 go_wp2
 go_ret
 exact ⟨_, rfl, Kd.R_lower (R_litQ (w.alloc (.cells #[.bool m, .pointer p, .pointer pl, .pointer pr, .pointer pll, .pointer plr, .pointer prl, .pointer prr, .pointer pa, .pointer pb, .bool rt] 111)) [p, pl]) (by simp), ba (ba (Below.refl _ _) _) _⟩
theorem touch3 (m rt : Bool) (p pl pr pll plr prl prr pa pb : Option Addr) (w : World) : Calls Try.prog 67 #[.agg #[.bool m, .pointer p, .pointer pl, .pointer pr, .pointer pll, .pointer plr, .pointer prl, .pointer prr, .pointer pa, .pointer pb, .bool rt], .int .i64 3] w fun e w' => TouP w [p, pl, plr] e w' := by
 go_enter Try.func67, Try.ntmps67
 go_wp2
 go_ret
 exact ⟨_, rfl, Kd.R_lower (R_litQ (w.alloc (.cells #[.bool m, .pointer p, .pointer pl, .pointer pr, .pointer pll, .pointer plr, .pointer prl, .pointer prr, .pointer pa, .pointer pb, .bool rt] 111)) [p, pl, plr]) (by simp), ba (ba (Below.refl _ _) _) _⟩
theorem touch4 (m rt : Bool) (p pl pr pll plr prl prr pa pb : Option Addr) (w : World) : Calls Try.prog 67 #[.agg #[.bool m, .pointer p, .pointer pl, .pointer pr, .pointer pll, .pointer plr, .pointer prl, .pointer prr, .pointer pa, .pointer pb, .bool rt], .int .i64 4] w fun e w' => TouP w [p, pl, pr] e w' := by
 go_enter Try.func67, Try.ntmps67
 go_wp2
 go_ret
 exact ⟨_, rfl, Kd.R_lower (R_litQ (w.alloc (.cells #[.bool m, .pointer p, .pointer pl, .pointer pr, .pointer pll, .pointer plr, .pointer prl, .pointer prr, .pointer pa, .pointer pb, .bool rt] 111)) [p, pl, pr]) (by simp), ba (ba (Below.refl _ _) _) _⟩
theorem touch5 (m rt : Bool) (p pl pr pll plr prl prr pa pb : Option Addr) (w : World) : Calls Try.prog 67 #[.agg #[.bool m, .pointer p, .pointer pl, .pointer pr, .pointer pll, .pointer plr, .pointer prl, .pointer prr, .pointer pa, .pointer pb, .bool rt], .int .i64 5] w fun e w' => TouP w [p, pl, pr, prl] e w' := by
 go_enter Try.func67, Try.ntmps67
 go_wp2
 go_ret
 exact ⟨_, rfl, Kd.R_lower (R_litQ (w.alloc (.cells #[.bool m, .pointer p, .pointer pl, .pointer pr, .pointer pll, .pointer plr, .pointer prl, .pointer prr, .pointer pa, .pointer pb, .bool rt] 111)) [p, pl, pr, prl]) (by simp), ba (ba (Below.refl _ _) _) _⟩
theorem touch6 (m rt : Bool) (p pl pr pll plr prl prr pa pb : Option Addr) (w : World) : Calls Try.prog 67 #[.agg #[.bool m, .pointer p, .pointer pl, .pointer pr, .pointer pll, .pointer plr, .pointer prl, .pointer prr, .pointer pa, .pointer pb, .bool rt], .int .i64 6] w fun e w' => TouP w [p, pl, pr, prl] e w' := by
 go_enter Try.func67, Try.ntmps67
 go_wp2
 go_ret
 exact ⟨_, rfl, Kd.R_lower (R_litQ (w.alloc (.cells #[.bool m, .pointer p, .pointer pl, .pointer pr, .pointer pll, .pointer plr, .pointer prl, .pointer prr, .pointer pa, .pointer pb, .bool rt] 111)) [p, pl, pr, prl]) (by simp), ba (ba (Below.refl _ _) _) _⟩
theorem touch7 (m rt : Bool) (p pl pr pll plr prl prr pa pb : Option Addr) (w : World) : Calls Try.prog 67 #[.agg #[.bool m, .pointer p, .pointer pl, .pointer pr, .pointer pll, .pointer plr, .pointer prl, .pointer prr, .pointer pa, .pointer pb, .bool rt], .int .i64 7] w fun e w' => TouP w [p, pl, pr, prl, pa] e w' := by
 go_enter Try.func67, Try.ntmps67
 go_wp2
 go_ret
 exact ⟨_, rfl, Kd.R_lower (R_litQ (w.alloc (.cells #[.bool m, .pointer p, .pointer pl, .pointer pr, .pointer pll, .pointer plr, .pointer prl, .pointer prr, .pointer pa, .pointer pb, .bool rt] 111)) [p, pl, pr, prl, pa]) (by simp), ba (ba (Below.refl _ _) _) _⟩
theorem touch8 (m rt : Bool) (p pl pr pll plr prl prr pa pb : Option Addr) (w : World) : Calls Try.prog 67 #[.agg #[.bool m, .pointer p, .pointer pl, .pointer pr, .pointer pll, .pointer plr, .pointer prl, .pointer prr, .pointer pa, .pointer pb, .bool rt], .int .i64 8] w fun e w' => TouP w [p, pl, pr, prl, pb] e w' := by
 go_enter Try.func67, Try.ntmps67
 go_wp2
 go_ret
 exact ⟨_, rfl, Kd.R_lower (R_litQ (w.alloc (.cells #[.bool m, .pointer p, .pointer pl, .pointer pr, .pointer pll, .pointer plr, .pointer prl, .pointer prr, .pointer pa, .pointer pb, .bool rt] 111)) [p, pl, pr, prl, pb]) (by simp), ba (ba (Below.refl _ _) _) _⟩
theorem touch9 (m rt : Bool) (p pl pr pll plr prl prr pa pb : Option Addr) (w : World) : Calls Try.prog 67 #[.agg #[.bool m, .pointer p, .pointer pl, .pointer pr, .pointer pll, .pointer plr, .pointer prl, .pointer prr, .pointer pa, .pointer pb, .bool rt], .int .i64 9] w fun e w' => TouP w [p, pl, pr, prr] e w' := by
 go_enter Try.func67, Try.ntmps67
 go_wp2
 go_ret
 exact ⟨_, rfl, Kd.R_lower (R_litQ (w.alloc (.cells #[.bool m, .pointer p, .pointer pl, .pointer pr, .pointer pll, .pointer plr, .pointer prl, .pointer prr, .pointer pa, .pointer pb, .bool rt] 111)) [p, pl, pr, prr]) (by simp), ba (ba (Below.refl _ _) _) _⟩
theorem touch10 (m rt : Bool) (p pl pr pll plr prl prr pa pb : Option Addr) (w : World) : Calls Try.prog 67 #[.agg #[.bool m, .pointer p, .pointer pl, .pointer pr, .pointer pll, .pointer plr, .pointer prl, .pointer prr, .pointer pa, .pointer pb, .bool rt], .int .i64 10] w fun e w' => TouP w [p, pl, pr, prl] e w' := by
 go_enter Try.func67, Try.ntmps67
 go_wp2
 go_ret
 exact ⟨_, rfl, Kd.R_lower (R_litQ (w.alloc (.cells #[.bool m, .pointer p, .pointer pl, .pointer pr, .pointer pll, .pointer plr, .pointer prl, .pointer prr, .pointer pa, .pointer pb, .bool rt] 111)) [p, pl, pr, prl]) (by simp), ba (ba (Below.refl _ _) _) _⟩
theorem touch11 (m rt : Bool) (p pl pr pll plr prl prr pa pb : Option Addr) (w : World) : Calls Try.prog 67 #[.agg #[.bool m, .pointer p, .pointer pl, .pointer pr, .pointer pll, .pointer plr, .pointer prl, .pointer prr, .pointer pa, .pointer pb, .bool rt], .int .i64 11] w fun e w' => TouP w [p, pl, pr] e w' := by
 go_enter Try.func67, Try.ntmps67
 go_wp2
 go_ret
 exact ⟨_, rfl, Kd.R_lower (R_litQ (w.alloc (.cells #[.bool m, .pointer p, .pointer pl, .pointer pr, .pointer pll, .pointer plr, .pointer prl, .pointer prr, .pointer pa, .pointer pb, .bool rt] 111)) [p, pl, pr]) (by simp), ba (ba (Below.refl _ _) _) _⟩
theorem touch12 (m rt : Bool) (p pl pr pll plr prl prr pa pb : Option Addr) (w : World) : Calls Try.prog 67 #[.agg #[.bool m, .pointer p, .pointer pl, .pointer pr, .pointer pll, .pointer plr, .pointer prl, .pointer prr, .pointer pa, .pointer pb, .bool rt], .int .i64 12] w fun e w' => TouP w [p] e w' := by
 go_enter Try.func67, Try.ntmps67
 go_wp2
 go_ret
 exact ⟨_, rfl, Kd.R_lower (R_litQ (w.alloc (.cells #[.bool m, .pointer p, .pointer pl, .pointer pr, .pointer pll, .pointer plr, .pointer prl, .pointer prr, .pointer pa, .pointer pb, .bool rt] 111)) [p]) (by simp), ba (ba (Below.refl _ _) _) _⟩
theorem touch_any (m rt : Bool) (p pl pr pll plr prl prr pa pb : Option Addr) (w : World) (kind : Int) (hk : 1 ≤ kind ∧ kind ≤ 12) : Calls Try.prog 67 #[.agg #[.bool m, .pointer p, .pointer pl, .pointer pr, .pointer pll, .pointer plr, .pointer prl, .pointer prr, .pointer pa, .pointer pb, .bool rt], .int .i64 kind] w fun e w' => TouP w (touchP p pl pr pll plr prl prr pa pb kind) e w' := by
 have hd : kind = 1 ∨ kind = 2 ∨ kind = 3 ∨ kind = 4 ∨ kind = 5 ∨ kind = 6 ∨ kind = 7 ∨ kind = 8 ∨ kind = 9 ∨ kind = 10 ∨ kind = 11 ∨ kind = 12 := by omega
 rcases hd with rfl | rfl | rfl | rfl | rfl | rfl | rfl | rfl | rfl | rfl | rfl | rfl
 ·exact touch1 m rt p pl pr pll plr prl prr pa pb w
 ·exact touch2 m rt p pl pr pll plr prl prr pa pb w
 ·exact touch3 m rt p pl pr pll plr prl prr pa pb w
 ·exact touch4 m rt p pl pr pll plr prl prr pa pb w
 ·exact touch5 m rt p pl pr pll plr prl prr pa pb w
 ·exact touch6 m rt p pl pr pll plr prl prr pa pb w
 ·exact touch7 m rt p pl pr pll plr prl prr pa pb w
 ·exact touch8 m rt p pl pr pll plr prl prr pa pb w
 ·exact touch9 m rt p pl pr pll plr prl prr pa pb w
 ·exact touch10 m rt p pl pr pll plr prl prr pa pb w
 ·exact touch11 m rt p pl pr pll plr prl prr pa pb w
 ·exact touch12 m rt p pl pr pll plr prl prr pa pb w
end
theorem touched_nocan (k : Nat) (A0 : Option Addr) (c0 : Nat) (l0 : List S34) (c : Nat) (kind : Int) (mir : Bool) (r1 : Int) (r2 : List Bool) (w : World) (hr0 : Kd.C k34 w A0 l0.length l0) (hc0 : l0.length ≤ c0)
  (h : steps_keys.f k l0 = some (r1, r2, 0)) (hm : steps_Move_is.f kind mir = some true) (hkd : 1 ≤ kind ∧ kind ≤ 12) (hp1 : (c : Int) < l0.length) (hp2 : (c : Int) < r2.length) (hbel : rdOf false r2 c = true) (ht : OkT l0) (K : Nat) (X : Tr) (hX : mkT l0 K c = some X) (rt : Bool) (hrt : ((c : Int) == r1) = rt) (hcan : canT mir rt X kind = false) :
  Calls Try.prog 32 #[.slice A0 l0.length c0, .int .i64 c, .agg #[.int .i64 kind, .bool mir]] w (RB w (.tuple #[.slice none 0 0, .int .i64 6])) := by
 have HCAN := Am hcan
 clear hcan
 have HR := Am hr0
 have HC := Am hc0
 have H := Am h
 have HM := Am hm
 have HT := Am ht
 have HX := Am hX
 have HKD := Am hkd
 have HBEL := Am hbel
 have hlen : l0.length ≤ 100000 := ht.len
 have hcl : c < l0.length := by omega
 clear hr0 hc0 h hm ht hX hkd hbel
 go_enter Try.func32, Try.ntmps32
 go_wp2_with (fail)
 refine (at_okt k A0 c0 l0 c kind mir r1 r2 _ (Kd.C_below HR.out ((Below.refl _ _).alloc (Nat.le_refl _) _)) HC.out H.out (fun _ => HM.out) (by omega) hp1 hp2 HBEL.out (by omega) (fun i hi h4 => ⟨(HT.out.kids i hi h4).1, (HT.out.kids i hi h4).2.1, (HT.out.kids i hi h4).2.2.1⟩)).mono ?_
 rintro e w2 ⟨wg, rfl, hbg, hfo⟩
 have hbw : Below w.heap.size w wg := ((Below.refl _ _).alloc (Nat.le_refl _) _).trans (hbg.mono (by simp))
 have hg0 : w.heap.size < wg.heap.size := by have h_ := hbg.size; simp at h_; omega
 have hbx0 : wg.cell? ⟨w.heap.size, 0, none⟩ = some (.int .i64 kind) := (hbg.cell (p := ⟨w.heap.size, 0, none⟩) (by simp)).trans (World.cell?_alloc_at _ _ _ _ rfl)
 have hbx1 : wg.cell? ⟨w.heap.size, 1, none⟩ = some (.bool mir) := (hbg.cell (p := ⟨w.heap.size, 1, none⟩) (by simp)).trans (World.cell?_alloc_at _ _ _ _ rfl)
 have HBW := Am hbw
 have HFO := Am hfo
 have HX0 := Am hbx0
 have HX1 := Am hbx1
 have HRX : Aside0 (Rep (fun k_ => SetC wg.heap.size l0 c k_ ∧ k_ < w2.heap.size) w2 (.pointer (some ⟨wg.heap.size + 2 + 2 * c, 0, none⟩)) X) := ⟨(forest_rep hfo HX.out K c X HX.out (Nat.le_refl _)).bound⟩
 have hg2 : wg.heap.size < w2.heap.size := rowIs_lt hfo.ptrs
 have hpc : w2.drew.cell? ⟨wg.heap.size, c, none⟩ = some (.pointer (some ⟨wg.heap.size + 2 + 2 * c, 0, none⟩)) := (rowIs_cell hfo.ptrs c hcl).trans (by rw [if_pos hcl]; rfl)
 have hb0 : w2.drew.cell? ⟨w.heap.size, 0, none⟩ = some (.int .i64 kind) := (hfo.bel.cell (p := ⟨w.heap.size, 0, none⟩) hg0).trans hbx0
 have hb1 : w2.drew.cell? ⟨w.heap.size, 1, none⟩ = some (.bool mir) := (hfo.bel.cell (p := ⟨w.heap.size, 1, none⟩) hg0).trans hbx1
 clear hbg hbw hfo hbx0 hbx1
 go_wp2
 have HPC := Am hpc
 have HB0 := Am hb0
 have HB1 := Am hb1
 refine sT 11 [10] (S := fun w' => w'.cell? ⟨wg.heap.size, c, none⟩ = some (.pointer (some ⟨wg.heap.size + 2 + 2 * c, 0, none⟩)) ∧ w'.cell? ⟨w.heap.size, 0, none⟩ = some (.int .i64 kind) ∧ w'.cell? ⟨w.heap.size, 1, none⟩ = some (.bool mir)) ⟨hpc, hb0, hb1⟩ fun hHeld => ?_
 refine pu 0 31 ?_
 refine pu 1 32 ?_
 refine pu 2 33 ?_
 refine pu 5 36 ?_
 refine pu 6 37 ?_
 refine pu 7 38 ?_
 refine ta 3 34 hHeld ?_
 refine ta 4 35 hHeld ?_
 refine join_ (σ := Nat × Option Addr × Option Addr × Option Addr × Option Addr × Option Addr × Option Addr × Option Addr × Option Addr) 1 #[true, true, true, true, true, true, true, true, true, true, false] (fun s => [(39, .agg #[.bool mir, .pointer (some ⟨wg.heap.size + 2 + 2 * c, 0, none⟩), .pointer s.2.1, .pointer s.2.2.1, .pointer s.2.2.2.1, .pointer s.2.2.2.2.1, .pointer s.2.2.2.2.2.1, .pointer s.2.2.2.2.2.2.1, .pointer s.2.2.2.2.2.2.2.1, .pointer s.2.2.2.2.2.2.2.2, .bool rt]), (11, .pointer (some ⟨s.1, 0, none⟩))]) (fun s w' => Below w2.heap.size w2 w' ∧ w2.heap.size ≤ s.1 ∧ w'.heap[s.1]? = some (.cells #[.bool false, .pointer none, .pointer none, .pointer none, .pointer none, .pointer none, .pointer none, .pointer none, .pointer none, .pointer none, .bool false] 111 (0, 0)) ∧ Rep (fun k_ => SetC wg.heap.size l0 c k_ ∧ k_ < w2.heap.size) w' (.pointer s.2.1) (lT mir X) ∧ Rep (fun k_ => SetC wg.heap.size l0 c k_ ∧ k_ < w2.heap.size) w' (.pointer s.2.2.1) (rT mir X) ∧ Rep (fun k_ => SetC wg.heap.size l0 c k_ ∧ k_ < w2.heap.size) w' (.pointer s.2.2.2.1) (lT mir (lT mir X)) ∧ Rep (fun k_ => SetC wg.heap.size l0 c k_ ∧ k_ < w2.heap.size) w' (.pointer s.2.2.2.2.1) (rT mir (lT mir X)) ∧ Rep (fun k_ => SetC wg.heap.size l0 c k_ ∧ k_ < w2.heap.size) w' (.pointer s.2.2.2.2.2.1) (lT mir (rT mir X)) ∧ Rep (fun k_ => SetC wg.heap.size l0 c k_ ∧ k_ < w2.heap.size) w' (.pointer s.2.2.2.2.2.2.1) (rT mir (rT mir X)) ∧ Rep (fun k_ => SetC wg.heap.size l0 c k_ ∧ k_ < w2.heap.size) w' (.pointer s.2.2.2.2.2.2.2.1) (lT mir (lT mir (rT mir X))) ∧ Rep (fun k_ => SetC wg.heap.size l0 c k_ ∧ k_ < w2.heap.size) w' (.pointer s.2.2.2.2.2.2.2.2) (rT mir (lT mir (rT mir X)))) ?_ ?_
 rotate_left
 ·intro hCont
  refine two_ (i := 8) (j := 9) (Ni := some 39) (Nj := some 11) #[true, true, true, true, true, true, true, true, true, false, false] #[true, true, true, true, true, true, true, true, false, true, false] rfl rfl rfl rfl (by kernel_rfl) (by decide) (by decide) (fun K hK => ?_) (fun K hK => ?_)
  ·skip
   refine gO Try.func63 #[.pointer (some ⟨wg.heap.size + 2 + 2 * c, 0, none⟩), .agg #[.int .i64 kind, .bool mir], .bool rt] ?_
   with_reducible refine (look_any (S := (fun k_ => SetC wg.heap.size l0 c k_ ∧ k_ < w2.heap.size)) _ X _ _ _ _ (by first | exact HRX.out.below ((Below.refl _ _).drew) | exact HRX.out.below HBA.out)).mono ?_
   rintro e wL ⟨pl, pr, pll, plr, prl, prr, pa, pb, rfl, hLb, r1, r2, r3, r4, r5, r6, r7, r8⟩
   refine ⟨_, rfl, ?_⟩
   refine hK.out _ _ ⟨(hLb.cell (blt _ _ hHeld.1)).trans hHeld.1, (hLb.cell (blt _ _ hHeld.2.1)).trans hHeld.2.1, (hLb.cell (blt _ _ hHeld.2.2)).trans hHeld.2.2⟩ (fun hHeld => ?_)
   clear hK K
   refine nm 39 ?_
   refine on 9 11 fun K hK => ?_
   refine box_step (by rfl) (N := 11) rfl (cs := #[.bool false, .pointer none, .pointer none, .pointer none, .pointer none, .pointer none, .pointer none, .pointer none, .pointer none, .pointer none, .bool false]) (t := 111) ?hr ?_
   case hr => first | (go_simp; done) | (go_simp; rfl)
   intro g hg wA hbox hbA
   have hgs : w2.heap.size ≤ g := by rw [hg]; exact hLb.size
   refine hK.out _ _ ⟨(hbA.cell (blt _ _ hHeld.1)).trans hHeld.1, (hbA.cell (blt _ _ hHeld.2.1)).trans hHeld.2.1, (hbA.cell (blt _ _ hHeld.2.2)).trans hHeld.2.2⟩ (fun hHeld => ?_)
   clear hK K
   refine nm 11 ?_
   exact norm_ (by simp only [putAll, Act.put, sI, sZ, sS]) (hCont (g, pl, pr, pll, plr, prl, prr, pa, pb) _ ⟨((Below.refl w2.heap.size w2).drew.trans (hLb.mono (Nat.le_refl _))).trans (hbA.mono hLb.size), hgs, hbox, (r1.below hLb).below hbA, (r2.below hLb).below hbA, (r3.below hLb).below hbA, (r4.below hLb).below hbA, (r5.below hLb).below hbA, (r6.below hLb).below hbA, (r7.below hLb).below hbA, (r8.below hLb).below hbA⟩)
  ·skip
   refine box_step (by rfl) (N := 11) rfl (cs := #[.bool false, .pointer none, .pointer none, .pointer none, .pointer none, .pointer none, .pointer none, .pointer none, .pointer none, .pointer none, .bool false]) (t := 111) ?hr ?_
   case hr => first | (go_simp; done) | (go_simp; rfl)
   intro g hg wA hbox hbA
   have HBA := Am (((Below.refl w2.heap.size w2).drew).trans (hbA.mono (Nat.le_refl _)))
   have hgs : w2.heap.size ≤ g := by rw [hg]; exact Nat.le_refl _
   refine hK.out _ _ ⟨(hbA.cell (blt _ _ hHeld.1)).trans hHeld.1, (hbA.cell (blt _ _ hHeld.2.1)).trans hHeld.2.1, (hbA.cell (blt _ _ hHeld.2.2)).trans hHeld.2.2⟩ (fun hHeld => ?_)
   clear hK K
   refine nm 11 ?_
   refine on 8 39 fun K hK => ?_
   refine gO Try.func63 #[.pointer (some ⟨wg.heap.size + 2 + 2 * c, 0, none⟩), .agg #[.int .i64 kind, .bool mir], .bool rt] ?_
   with_reducible refine (look_any (S := (fun k_ => SetC wg.heap.size l0 c k_ ∧ k_ < w2.heap.size)) _ X _ _ _ _ (by first | exact HRX.out.below ((Below.refl _ _).drew) | exact HRX.out.below HBA.out)).mono ?_
   rintro e wL ⟨pl, pr, pll, plr, prl, prr, pa, pb, rfl, hLb, r1, r2, r3, r4, r5, r6, r7, r8⟩
   refine ⟨_, rfl, ?_⟩
   refine hK.out _ _ ⟨(hLb.cell (blt _ _ hHeld.1)).trans hHeld.1, (hLb.cell (blt _ _ hHeld.2.1)).trans hHeld.2.1, (hLb.cell (blt _ _ hHeld.2.2)).trans hHeld.2.2⟩ (fun hHeld => ?_)
   clear hK K
   refine nm 39 ?_
   exact norm_ (by simp only [putAll, Act.put, sI, sZ, sS]) (hCont (g, pl, pr, pll, plr, prl, prr, pa, pb) _ ⟨HBA.out.trans (hLb.mono hbA.size), hgs, (hLb.block _ (Array.getElem?_eq_some_iff.1 hbox).1).trans hbox, r1.below hLb, r2.below hLb, r3.below hLb, r4.below hLb, r5.below hLb, r6.below hLb, r7.below hLb, r8.below hLb⟩)
 rintro ⟨g, pl, pr, pll, plr, prl, prr, pa, pb⟩ w3 ⟨hF1, hF2, hF3, y1, y2, y3, y4, y5, y6, y7, y8⟩
 replace hF2 : w2.heap.size ≤ g := hF2
 replace hF3 : w3.heap[g]? = some (.cells #[.bool false, .pointer none, .pointer none, .pointer none, .pointer none, .pointer none, .pointer none, .pointer none, .pointer none, .pointer none, .bool false] 111 (0, 0)) := hF3
 have HY1 : Aside0 (Rep (fun k_ => SetC wg.heap.size l0 c k_ ∧ k_ < w2.heap.size) w3 (.pointer pl) (lT mir X)) := ⟨y1⟩
 have HY2 : Aside0 (Rep (fun k_ => SetC wg.heap.size l0 c k_ ∧ k_ < w2.heap.size) w3 (.pointer pr) (rT mir X)) := ⟨y2⟩
 have HY3 : Aside0 (Rep (fun k_ => SetC wg.heap.size l0 c k_ ∧ k_ < w2.heap.size) w3 (.pointer pll) (lT mir (lT mir X))) := ⟨y3⟩
 have HY4 : Aside0 (Rep (fun k_ => SetC wg.heap.size l0 c k_ ∧ k_ < w2.heap.size) w3 (.pointer plr) (rT mir (lT mir X))) := ⟨y4⟩
 have HY5 : Aside0 (Rep (fun k_ => SetC wg.heap.size l0 c k_ ∧ k_ < w2.heap.size) w3 (.pointer prl) (lT mir (rT mir X))) := ⟨y5⟩
 have HY6 : Aside0 (Rep (fun k_ => SetC wg.heap.size l0 c k_ ∧ k_ < w2.heap.size) w3 (.pointer prr) (rT mir (rT mir X))) := ⟨y6⟩
 have HY7 : Aside0 (Rep (fun k_ => SetC wg.heap.size l0 c k_ ∧ k_ < w2.heap.size) w3 (.pointer pa) (lT mir (lT mir (rT mir X)))) := ⟨y7⟩
 have HY8 : Aside0 (Rep (fun k_ => SetC wg.heap.size l0 c k_ ∧ k_ < w2.heap.size) w3 (.pointer pb) (rT mir (lT mir (rT mir X)))) := ⟨y8⟩
 have hHeld : w3.cell? ⟨wg.heap.size, c, none⟩ = some (.pointer (some ⟨wg.heap.size + 2 + 2 * c, 0, none⟩)) ∧ w3.cell? ⟨w.heap.size, 0, none⟩ = some (.int .i64 kind) ∧ w3.cell? ⟨w.heap.size, 1, none⟩ = some (.bool mir) := ⟨(hF1.cell (p := ⟨wg.heap.size, c, none⟩) hg2).trans HPC.out, (hF1.cell (p := ⟨w.heap.size, 0, none⟩) (Nat.lt_trans hg0 hg2)).trans HB0.out, (hF1.cell (p := ⟨w.heap.size, 1, none⟩) (Nat.lt_trans hg0 hg2)).trans HB1.out⟩
 obtain ⟨hz0, hz1, hz2, hz3, hz4, hz5, hz6, hz7, hz8, hz9, hz10⟩ := vc11 hF3
 have hfz0 := frz_of hF3 0
 have hfz1 := frz_of hF3 1
 have hfz2 := frz_of hF3 2
 have hfz3 := frz_of hF3 3
 have hfz4 := frz_of hF3 4
 have hfz5 := frz_of hF3 5
 have hfz6 := frz_of hF3 6
 have hfz7 := frz_of hF3 7
 have hfz8 := frz_of hF3 8
 have hfz9 := frz_of hF3 9
 have hfz10 := frz_of hF3 10
 have HF1 := Am hF1
 have HF3 := Am hF3
 clear hF1 hF3 y1 y2 y3 y4 y5 y6 y7 y8
 refine norm_ (a' := ?_) ?_ ?_
 rotate_left
 ·simp only [putAll, Act.put, sI, sZ, sS]
  rfl
 refine last_ (i := 10) (N := none) #[true, true, true, true, true, true, true, true, true, true, true] rfl rfl (by kernel_rfl) (by decide) (fun K hK => ?_)
 refine skip_ (w1 := ?_) (by rfl) rfl ?_ ?_
 rotate_left
 ·go_simp
  rfl
 refine hK.out _ _ ?_
 clear hK K
 refine done_ (by kernel_rfl) ?_
 try clear hHeld
 have hV := put11 HF3.out (.bool mir) (.pointer (some ⟨wg.heap.size + 2 + 2 * c, 0, none⟩)) (.pointer pl) (.pointer pr) (.pointer pll) (.pointer plr) (.pointer prl) (.pointer prr) (.pointer pa) (.pointer pb) (.bool rt)
 have hB := below11 HF1.out hF2 (.bool mir) (.pointer (some ⟨wg.heap.size + 2 + 2 * c, 0, none⟩)) (.pointer pl) (.pointer pr) (.pointer pll) (.pointer plr) (.pointer prl) (.pointer prr) (.pointer pa) (.pointer pb) (.bool rt)
 have hK : ∀ k_, k_ < w2.heap.size → (((((((((((w3.setCell ⟨g, 0, none⟩ (.bool mir)).setCell ⟨g, 1, none⟩ (.pointer (some ⟨wg.heap.size + 2 + 2 * c, 0, none⟩))).setCell ⟨g, 2, none⟩ (.pointer pl)).setCell ⟨g, 3, none⟩ (.pointer pr)).setCell ⟨g, 4, none⟩ (.pointer pll)).setCell ⟨g, 5, none⟩ (.pointer plr)).setCell ⟨g, 6, none⟩ (.pointer prl)).setCell ⟨g, 7, none⟩ (.pointer prr)).setCell ⟨g, 8, none⟩ (.pointer pa)).setCell ⟨g, 9, none⟩ (.pointer pb)).setCell ⟨g, 10, none⟩ (.bool rt)).heap[k_]? = w3.heap[k_]? := fun k_ hk_ => setc11 (by omega) (.bool mir) (.pointer (some ⟨wg.heap.size + 2 + 2 * c, 0, none⟩)) (.pointer pl) (.pointer pr) (.pointer pll) (.pointer plr) (.pointer prl) (.pointer prr) (.pointer pa) (.pointer pb) (.bool rt)
 clear hz0 hfz0 hz1 hfz1 hz2 hfz2 hz3 hfz3 hz4 hfz4 hz5 hfz5 hz6 hfz6 hz7 hfz7 hz8 hfz8 hz9 hfz9 hz10 hfz10 HF3 HF1
 generalize (((((((((((w3.setCell ⟨g, 0, none⟩ (.bool mir)).setCell ⟨g, 1, none⟩ (.pointer (some ⟨wg.heap.size + 2 + 2 * c, 0, none⟩))).setCell ⟨g, 2, none⟩ (.pointer pl)).setCell ⟨g, 3, none⟩ (.pointer pr)).setCell ⟨g, 4, none⟩ (.pointer pll)).setCell ⟨g, 5, none⟩ (.pointer plr)).setCell ⟨g, 6, none⟩ (.pointer prl)).setCell ⟨g, 7, none⟩ (.pointer prr)).setCell ⟨g, 8, none⟩ (.pointer pa)).setCell ⟨g, 9, none⟩ (.pointer pb)).setCell ⟨g, 10, none⟩ (.bool rt)) = w4 at hV hB hK ⊢
 have HRpl := Am (HY1.out.keptS (w' := w4) (fun k_ hk_ _ => hK k_ hk_.2))
 have HRpr := Am (HY2.out.keptS (w' := w4) (fun k_ hk_ _ => hK k_ hk_.2))
 have HRpll := Am (HY3.out.keptS (w' := w4) (fun k_ hk_ _ => hK k_ hk_.2))
 have HRplr := Am (HY4.out.keptS (w' := w4) (fun k_ hk_ _ => hK k_ hk_.2))
 have HRprl := Am (HY5.out.keptS (w' := w4) (fun k_ hk_ _ => hK k_ hk_.2))
 have HRprr := Am (HY6.out.keptS (w' := w4) (fun k_ hk_ _ => hK k_ hk_.2))
 have HRpa := Am (HY7.out.keptS (w' := w4) (fun k_ hk_ _ => hK k_ hk_.2))
 have HRpb := Am (HY8.out.keptS (w' := w4) (fun k_ hk_ _ => hK k_ hk_.2))
 have HRp := Am (HRX.out.below hB)
 have HV := Am hV
 have HB := Am hB
 clear HY1 HY2 HY3 HY4 HY5 HY6 HY7 HY8 hK
 have hk0 : w4.cell? ⟨w.heap.size, 0, none⟩ = some (.int .i64 kind) := (hB.cell (p := ⟨w.heap.size, 0, none⟩) (Nat.lt_trans hg0 hg2)).trans HB0.out
 have HK0 := Am hk0
 obtain ⟨hv0, hv1, hv2, hv3, hv4, hv5, hv6, hv7, hv8, hv9, hv10⟩ := vc11 hV
 clear hV hB HPC HB0 HB1
 go_wp2_with (fail)
 refine (can_any mir rt (some ⟨wg.heap.size + 2 + 2 * c, 0, none⟩) pl pr pll plr prl prr pa pb X _ HRp HRpl HRpr HRpll HRplr HRprl HRprr HRpa HRpb kind HKD.out).mono ?_
 rw [HCAN.out]
 rintro e w5 ⟨rfl, h5⟩
 have HB5 := Am (HB.out.trans (h5.mono HB.out.size))
 have H5 := Am h5
 have HV5 := Am ((h5.block _ (Array.getElem?_eq_some_iff.1 HV.out).1).trans HV.out)
 have hk5 := (h5.cell (blt _ _ HK0.out)).trans HK0.out
 clear h5 hv0 hv1 hv2 hv3 hv4 hv5 hv6 hv7 hv8 hv9 hv10 hk0 HV
 obtain ⟨hw0, hw1, hw2, hw3, hw4, hw5, hw6, hw7, hw8, hw9, hw10⟩ := vc11 HV5.out
 go_wp2
 go_ret2
 exact ⟨rfl, HBW.out.trans ((HFO.out.bel.trans (HB5.out.mono HFO.out.bel.size)).mono HBW.out.size)⟩
end Go.Proofs.Ytgleaefhflamnaa.T
