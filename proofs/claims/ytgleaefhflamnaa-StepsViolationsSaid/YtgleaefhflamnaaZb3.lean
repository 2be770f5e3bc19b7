/- A part of the proof: see YtgleaefhflamnaaLawStepsViolations. -/
import Derived.Test.YtgleaefhflamnaaZb2
set_option linter.unusedVariables false
set_option linter.unusedSimpArgs false
namespace Go.Proofs.Ytgleaefhflamnaa.T
open Go.RowKit Go.Proofs.YtgleaefhflamnaaW.PrintWords Go.Proofs.YtgleaefhflamnaaW.PrintLast Go.Proofs.YtgleaefhflamnaaW.PrintMore
variable {S : Nat → Prop}
def can1 (m : Bool) (T : Tr) : Bool := (wt (lT m T) == 0) && (wt (rT m T) == 0) && (decide (0 < wt T)) && ((wt (lT m (lT m T)) == 0) || (wt (rT m (lT m T)) == 0) || (wt (lT m (rT m T)) == 0) || (wt (rT m (rT m T)) == 0))
set_option maxHeartbeats 2000000 in
set_option maxRecDepth 100000 in
theorem can1_0 (m rt : Bool) (p pl pr pll plr prl prr pa pb : Option Addr) (T : Tr) (w : World) (Hl : Aside0 (Rep S w (.pointer pl) (lT m T))) (Hll : Aside0 (Rep S w (.pointer pll) (lT m (lT m T)))) (Hlr : Aside0 (Rep S w (.pointer plr) (rT m (lT m T)))) (Hr : Aside0 (Rep S w (.pointer pr) (rT m T))) (Hrl : Aside0 (Rep S w (.pointer prl) (lT m (rT m T)))) (Hrr : Aside0 (Rep S w (.pointer prr) (rT m (rT m T)))) (Hx : Aside0 (Rep S w (.pointer p) T)) (h0 : (wt (lT m T) == 0) = false) :
  Calls Try.prog 64 #[.agg #[.bool m, .pointer p, .pointer pl, .pointer pr, .pointer pll, .pointer plr, .pointer prl, .pointer prr, .pointer pa, .pointer pb, .bool rt], .int .i64 1] w fun e w' => e = .returned (.bool false) ∧ Below w.heap.size w w' := by
 have hu111 := Try.underlying111
 have A0 := Am h0
 clear h0
 go_enter Try.func64, Try.ntmps64
 go_wp2_with (fail)
 refine (red_any _ _ _ (Hl.out.below ((Below.refl _ _).alloc (Nat.le_refl _) _))).mono ?_
 rw [A0.out]
 rintro e w' ⟨rfl, rfl⟩
 go_wp2
 go_ret
 exact ⟨rfl, (Below.refl _ _).alloc (Nat.le_refl _) _⟩
set_option maxHeartbeats 2000000 in
set_option maxRecDepth 100000 in
theorem can1_1 (m rt : Bool) (p pl pr pll plr prl prr pa pb : Option Addr) (T : Tr) (w : World) (Hl : Aside0 (Rep S w (.pointer pl) (lT m T))) (Hll : Aside0 (Rep S w (.pointer pll) (lT m (lT m T)))) (Hlr : Aside0 (Rep S w (.pointer plr) (rT m (lT m T)))) (Hr : Aside0 (Rep S w (.pointer pr) (rT m T))) (Hrl : Aside0 (Rep S w (.pointer prl) (lT m (rT m T)))) (Hrr : Aside0 (Rep S w (.pointer prr) (rT m (rT m T)))) (Hx : Aside0 (Rep S w (.pointer p) T)) (h0 : (wt (lT m T) == 0) = true) (h1 : (wt (rT m T) == 0) = false) :
  Calls Try.prog 64 #[.agg #[.bool m, .pointer p, .pointer pl, .pointer pr, .pointer pll, .pointer plr, .pointer prl, .pointer prr, .pointer pa, .pointer pb, .bool rt], .int .i64 1] w fun e w' => e = .returned (.bool false) ∧ Below w.heap.size w w' := by
 have hu111 := Try.underlying111
 have A0 := Am h0
 have A1 := Am h1
 clear h0 h1
 go_enter Try.func64, Try.ntmps64
 go_wp2_with (fail)
 refine (red_any _ _ _ (Hl.out.below ((Below.refl _ _).alloc (Nat.le_refl _) _))).mono ?_
 rw [A0.out]
 rintro e w' ⟨rfl, rfl⟩
 go_wp2_with (fail)
 refine (red_any _ _ _ (Hr.out.below ((Below.refl _ _).alloc (Nat.le_refl _) _))).mono ?_
 rw [A1.out]
 rintro e w' ⟨rfl, rfl⟩
 go_wp2
 go_ret
 exact ⟨rfl, (Below.refl _ _).alloc (Nat.le_refl _) _⟩
set_option maxHeartbeats 2000000 in
set_option maxRecDepth 100000 in
theorem can1_2 (m rt : Bool) (p pl pr pll plr prl prr pa pb : Option Addr) (T : Tr) (w : World) (Hl : Aside0 (Rep S w (.pointer pl) (lT m T))) (Hll : Aside0 (Rep S w (.pointer pll) (lT m (lT m T)))) (Hlr : Aside0 (Rep S w (.pointer plr) (rT m (lT m T)))) (Hr : Aside0 (Rep S w (.pointer pr) (rT m T))) (Hrl : Aside0 (Rep S w (.pointer prl) (lT m (rT m T)))) (Hrr : Aside0 (Rep S w (.pointer prr) (rT m (rT m T)))) (Hx : Aside0 (Rep S w (.pointer p) T)) (h0 : (wt (lT m T) == 0) = true) (h1 : (wt (rT m T) == 0) = true) (h2 : (decide (0 < wt T)) = false) :
  Calls Try.prog 64 #[.agg #[.bool m, .pointer p, .pointer pl, .pointer pr, .pointer pll, .pointer plr, .pointer prl, .pointer prr, .pointer pa, .pointer pb, .bool rt], .int .i64 1] w fun e w' => e = .returned (.bool false) ∧ Below w.heap.size w w' := by
 have hu111 := Try.underlying111
 have A0 := Am h0
 have A1 := Am h1
 have A2 := Am h2
 clear h0 h1 h2
 go_enter Try.func64, Try.ntmps64
 go_wp2_with (fail)
 refine (red_any _ _ _ (Hl.out.below ((Below.refl _ _).alloc (Nat.le_refl _) _))).mono ?_
 rw [A0.out]
 rintro e w' ⟨rfl, rfl⟩
 go_wp2_with (fail)
 refine (red_any _ _ _ (Hr.out.below ((Below.refl _ _).alloc (Nat.le_refl _) _))).mono ?_
 rw [A1.out]
 rintro e w' ⟨rfl, rfl⟩
 go_wp2_with (fail)
 refine (black_any _ _ _ (Hx.out.below ((Below.refl _ _).alloc (Nat.le_refl _) _))).mono ?_
 rw [A2.out]
 rintro e w' ⟨rfl, rfl⟩
 go_wp2
 go_ret
 exact ⟨rfl, (Below.refl _ _).alloc (Nat.le_refl _) _⟩
set_option maxHeartbeats 2000000 in
set_option maxRecDepth 100000 in
theorem can1_3 (m rt : Bool) (p pl pr pll plr prl prr pa pb : Option Addr) (T : Tr) (w : World) (Hl : Aside0 (Rep S w (.pointer pl) (lT m T))) (Hll : Aside0 (Rep S w (.pointer pll) (lT m (lT m T)))) (Hlr : Aside0 (Rep S w (.pointer plr) (rT m (lT m T)))) (Hr : Aside0 (Rep S w (.pointer pr) (rT m T))) (Hrl : Aside0 (Rep S w (.pointer prl) (lT m (rT m T)))) (Hrr : Aside0 (Rep S w (.pointer prr) (rT m (rT m T)))) (Hx : Aside0 (Rep S w (.pointer p) T)) (h0 : (wt (lT m T) == 0) = true) (h1 : (wt (rT m T) == 0) = true) (h2 : (decide (0 < wt T)) = true) (h3 : (wt (lT m (lT m T)) == 0) = true) :
  Calls Try.prog 64 #[.agg #[.bool m, .pointer p, .pointer pl, .pointer pr, .pointer pll, .pointer plr, .pointer prl, .pointer prr, .pointer pa, .pointer pb, .bool rt], .int .i64 1] w fun e w' => e = .returned (.bool true) ∧ Below w.heap.size w w' := by
 have hu111 := Try.underlying111
 have A0 := Am h0
 have A1 := Am h1
 have A2 := Am h2
 have A3 := Am h3
 clear h0 h1 h2 h3
 go_enter Try.func64, Try.ntmps64
 go_wp2_with (fail)
 refine (red_any _ _ _ (Hl.out.below ((Below.refl _ _).alloc (Nat.le_refl _) _))).mono ?_
 rw [A0.out]
 rintro e w' ⟨rfl, rfl⟩
 go_wp2_with (fail)
 refine (red_any _ _ _ (Hr.out.below ((Below.refl _ _).alloc (Nat.le_refl _) _))).mono ?_
 rw [A1.out]
 rintro e w' ⟨rfl, rfl⟩
 go_wp2_with (fail)
 refine (black_any _ _ _ (Hx.out.below ((Below.refl _ _).alloc (Nat.le_refl _) _))).mono ?_
 rw [A2.out]
 rintro e w' ⟨rfl, rfl⟩
 go_wp2_with (fail)
 refine (red_any _ _ _ (Hll.out.below ((Below.refl _ _).alloc (Nat.le_refl _) _))).mono ?_
 rw [A3.out]
 rintro e w' ⟨rfl, rfl⟩
 go_wp2
 go_ret
 exact ⟨rfl, (Below.refl _ _).alloc (Nat.le_refl _) _⟩
set_option maxHeartbeats 2000000 in
set_option maxRecDepth 100000 in
theorem can1_4 (m rt : Bool) (p pl pr pll plr prl prr pa pb : Option Addr) (T : Tr) (w : World) (Hl : Aside0 (Rep S w (.pointer pl) (lT m T))) (Hll : Aside0 (Rep S w (.pointer pll) (lT m (lT m T)))) (Hlr : Aside0 (Rep S w (.pointer plr) (rT m (lT m T)))) (Hr : Aside0 (Rep S w (.pointer pr) (rT m T))) (Hrl : Aside0 (Rep S w (.pointer prl) (lT m (rT m T)))) (Hrr : Aside0 (Rep S w (.pointer prr) (rT m (rT m T)))) (Hx : Aside0 (Rep S w (.pointer p) T)) (h0 : (wt (lT m T) == 0) = true) (h1 : (wt (rT m T) == 0) = true) (h2 : (decide (0 < wt T)) = true) (h3 : (wt (lT m (lT m T)) == 0) = false) (h4 : (wt (rT m (lT m T)) == 0) = true) :
  Calls Try.prog 64 #[.agg #[.bool m, .pointer p, .pointer pl, .pointer pr, .pointer pll, .pointer plr, .pointer prl, .pointer prr, .pointer pa, .pointer pb, .bool rt], .int .i64 1] w fun e w' => e = .returned (.bool true) ∧ Below w.heap.size w w' := by
 have hu111 := Try.underlying111
 have A0 := Am h0
 have A1 := Am h1
 have A2 := Am h2
 have A3 := Am h3
 have A4 := Am h4
 clear h0 h1 h2 h3 h4
 go_enter Try.func64, Try.ntmps64
 go_wp2_with (fail)
 refine (red_any _ _ _ (Hl.out.below ((Below.refl _ _).alloc (Nat.le_refl _) _))).mono ?_
 rw [A0.out]
 rintro e w' ⟨rfl, rfl⟩
 go_wp2_with (fail)
 refine (red_any _ _ _ (Hr.out.below ((Below.refl _ _).alloc (Nat.le_refl _) _))).mono ?_
 rw [A1.out]
 rintro e w' ⟨rfl, rfl⟩
 go_wp2_with (fail)
 refine (black_any _ _ _ (Hx.out.below ((Below.refl _ _).alloc (Nat.le_refl _) _))).mono ?_
 rw [A2.out]
 rintro e w' ⟨rfl, rfl⟩
 go_wp2_with (fail)
 refine (red_any _ _ _ (Hll.out.below ((Below.refl _ _).alloc (Nat.le_refl _) _))).mono ?_
 rw [A3.out]
 rintro e w' ⟨rfl, rfl⟩
 go_wp2_with (fail)
 refine (red_any _ _ _ (Hlr.out.below ((Below.refl _ _).alloc (Nat.le_refl _) _))).mono ?_
 rw [A4.out]
 rintro e w' ⟨rfl, rfl⟩
 go_wp2
 go_ret
 exact ⟨rfl, (Below.refl _ _).alloc (Nat.le_refl _) _⟩
set_option maxHeartbeats 2000000 in
set_option maxRecDepth 100000 in
theorem can1_5 (m rt : Bool) (p pl pr pll plr prl prr pa pb : Option Addr) (T : Tr) (w : World) (Hl : Aside0 (Rep S w (.pointer pl) (lT m T))) (Hll : Aside0 (Rep S w (.pointer pll) (lT m (lT m T)))) (Hlr : Aside0 (Rep S w (.pointer plr) (rT m (lT m T)))) (Hr : Aside0 (Rep S w (.pointer pr) (rT m T))) (Hrl : Aside0 (Rep S w (.pointer prl) (lT m (rT m T)))) (Hrr : Aside0 (Rep S w (.pointer prr) (rT m (rT m T)))) (Hx : Aside0 (Rep S w (.pointer p) T)) (h0 : (wt (lT m T) == 0) = true) (h1 : (wt (rT m T) == 0) = true) (h2 : (decide (0 < wt T)) = true) (h3 : (wt (lT m (lT m T)) == 0) = false) (h4 : (wt (rT m (lT m T)) == 0) = false) (h5 : (wt (lT m (rT m T)) == 0) = true) :
  Calls Try.prog 64 #[.agg #[.bool m, .pointer p, .pointer pl, .pointer pr, .pointer pll, .pointer plr, .pointer prl, .pointer prr, .pointer pa, .pointer pb, .bool rt], .int .i64 1] w fun e w' => e = .returned (.bool true) ∧ Below w.heap.size w w' := by
 have hu111 := Try.underlying111
 have A0 := Am h0
 have A1 := Am h1
 have A2 := Am h2
 have A3 := Am h3
 have A4 := Am h4
 have A5 := Am h5
 clear h0 h1 h2 h3 h4 h5
 go_enter Try.func64, Try.ntmps64
 go_wp2_with (fail)
 refine (red_any _ _ _ (Hl.out.below ((Below.refl _ _).alloc (Nat.le_refl _) _))).mono ?_
 rw [A0.out]
 rintro e w' ⟨rfl, rfl⟩
 go_wp2_with (fail)
 refine (red_any _ _ _ (Hr.out.below ((Below.refl _ _).alloc (Nat.le_refl _) _))).mono ?_
 rw [A1.out]
 rintro e w' ⟨rfl, rfl⟩
 go_wp2_with (fail)
 refine (black_any _ _ _ (Hx.out.below ((Below.refl _ _).alloc (Nat.le_refl _) _))).mono ?_
 rw [A2.out]
 rintro e w' ⟨rfl, rfl⟩
 go_wp2_with (fail)
 refine (red_any _ _ _ (Hll.out.below ((Below.refl _ _).alloc (Nat.le_refl _) _))).mono ?_
 rw [A3.out]
 rintro e w' ⟨rfl, rfl⟩
 go_wp2_with (fail)
 refine (red_any _ _ _ (Hlr.out.below ((Below.refl _ _).alloc (Nat.le_refl _) _))).mono ?_
 rw [A4.out]
 rintro e w' ⟨rfl, rfl⟩
 go_wp2_with (fail)
 refine (red_any _ _ _ (Hrl.out.below ((Below.refl _ _).alloc (Nat.le_refl _) _))).mono ?_
 rw [A5.out]
 rintro e w' ⟨rfl, rfl⟩
 go_wp2
 go_ret
 exact ⟨rfl, (Below.refl _ _).alloc (Nat.le_refl _) _⟩
set_option maxHeartbeats 2000000 in
set_option maxRecDepth 100000 in
theorem can1_6 (m rt : Bool) (p pl pr pll plr prl prr pa pb : Option Addr) (T : Tr) (w : World) (Hl : Aside0 (Rep S w (.pointer pl) (lT m T))) (Hll : Aside0 (Rep S w (.pointer pll) (lT m (lT m T)))) (Hlr : Aside0 (Rep S w (.pointer plr) (rT m (lT m T)))) (Hr : Aside0 (Rep S w (.pointer pr) (rT m T))) (Hrl : Aside0 (Rep S w (.pointer prl) (lT m (rT m T)))) (Hrr : Aside0 (Rep S w (.pointer prr) (rT m (rT m T)))) (Hx : Aside0 (Rep S w (.pointer p) T)) (h0 : (wt (lT m T) == 0) = true) (h1 : (wt (rT m T) == 0) = true) (h2 : (decide (0 < wt T)) = true) (h3 : (wt (lT m (lT m T)) == 0) = false) (h4 : (wt (rT m (lT m T)) == 0) = false) (h5 : (wt (lT m (rT m T)) == 0) = false) (h6 : (wt (rT m (rT m T)) == 0) = true) :
  Calls Try.prog 64 #[.agg #[.bool m, .pointer p, .pointer pl, .pointer pr, .pointer pll, .pointer plr, .pointer prl, .pointer prr, .pointer pa, .pointer pb, .bool rt], .int .i64 1] w fun e w' => e = .returned (.bool true) ∧ Below w.heap.size w w' := by
 have hu111 := Try.underlying111
 have A0 := Am h0
 have A1 := Am h1
 have A2 := Am h2
 have A3 := Am h3
 have A4 := Am h4
 have A5 := Am h5
 have A6 := Am h6
 clear h0 h1 h2 h3 h4 h5 h6
 go_enter Try.func64, Try.ntmps64
 go_wp2_with (fail)
 refine (red_any _ _ _ (Hl.out.below ((Below.refl _ _).alloc (Nat.le_refl _) _))).mono ?_
 rw [A0.out]
 rintro e w' ⟨rfl, rfl⟩
 go_wp2_with (fail)
 refine (red_any _ _ _ (Hr.out.below ((Below.refl _ _).alloc (Nat.le_refl _) _))).mono ?_
 rw [A1.out]
 rintro e w' ⟨rfl, rfl⟩
 go_wp2_with (fail)
 refine (black_any _ _ _ (Hx.out.below ((Below.refl _ _).alloc (Nat.le_refl _) _))).mono ?_
 rw [A2.out]
 rintro e w' ⟨rfl, rfl⟩
 go_wp2_with (fail)
 refine (red_any _ _ _ (Hll.out.below ((Below.refl _ _).alloc (Nat.le_refl _) _))).mono ?_
 rw [A3.out]
 rintro e w' ⟨rfl, rfl⟩
 go_wp2_with (fail)
 refine (red_any _ _ _ (Hlr.out.below ((Below.refl _ _).alloc (Nat.le_refl _) _))).mono ?_
 rw [A4.out]
 rintro e w' ⟨rfl, rfl⟩
 go_wp2_with (fail)
 refine (red_any _ _ _ (Hrl.out.below ((Below.refl _ _).alloc (Nat.le_refl _) _))).mono ?_
 rw [A5.out]
 rintro e w' ⟨rfl, rfl⟩
 go_wp2_with (fail)
 refine (red_any _ _ _ (Hrr.out.below ((Below.refl _ _).alloc (Nat.le_refl _) _))).mono ?_
 rw [A6.out]
 rintro e w' ⟨rfl, rfl⟩
 go_wp2
 go_ret
 exact ⟨rfl, (Below.refl _ _).alloc (Nat.le_refl _) _⟩
set_option maxHeartbeats 2000000 in
set_option maxRecDepth 100000 in
theorem can1_7 (m rt : Bool) (p pl pr pll plr prl prr pa pb : Option Addr) (T : Tr) (w : World) (Hl : Aside0 (Rep S w (.pointer pl) (lT m T))) (Hll : Aside0 (Rep S w (.pointer pll) (lT m (lT m T)))) (Hlr : Aside0 (Rep S w (.pointer plr) (rT m (lT m T)))) (Hr : Aside0 (Rep S w (.pointer pr) (rT m T))) (Hrl : Aside0 (Rep S w (.pointer prl) (lT m (rT m T)))) (Hrr : Aside0 (Rep S w (.pointer prr) (rT m (rT m T)))) (Hx : Aside0 (Rep S w (.pointer p) T)) (h0 : (wt (lT m T) == 0) = true) (h1 : (wt (rT m T) == 0) = true) (h2 : (decide (0 < wt T)) = true) (h3 : (wt (lT m (lT m T)) == 0) = false) (h4 : (wt (rT m (lT m T)) == 0) = false) (h5 : (wt (lT m (rT m T)) == 0) = false) (h6 : (wt (rT m (rT m T)) == 0) = false) :
  Calls Try.prog 64 #[.agg #[.bool m, .pointer p, .pointer pl, .pointer pr, .pointer pll, .pointer plr, .pointer prl, .pointer prr, .pointer pa, .pointer pb, .bool rt], .int .i64 1] w fun e w' => e = .returned (.bool false) ∧ Below w.heap.size w w' := by
 have hu111 := Try.underlying111
 have A0 := Am h0
 have A1 := Am h1
 have A2 := Am h2
 have A3 := Am h3
 have A4 := Am h4
 have A5 := Am h5
 have A6 := Am h6
 clear h0 h1 h2 h3 h4 h5 h6
 go_enter Try.func64, Try.ntmps64
 go_wp2_with (fail)
 refine (red_any _ _ _ (Hl.out.below ((Below.refl _ _).alloc (Nat.le_refl _) _))).mono ?_
 rw [A0.out]
 rintro e w' ⟨rfl, rfl⟩
 go_wp2_with (fail)
 refine (red_any _ _ _ (Hr.out.below ((Below.refl _ _).alloc (Nat.le_refl _) _))).mono ?_
 rw [A1.out]
 rintro e w' ⟨rfl, rfl⟩
 go_wp2_with (fail)
 refine (black_any _ _ _ (Hx.out.below ((Below.refl _ _).alloc (Nat.le_refl _) _))).mono ?_
 rw [A2.out]
 rintro e w' ⟨rfl, rfl⟩
 go_wp2_with (fail)
 refine (red_any _ _ _ (Hll.out.below ((Below.refl _ _).alloc (Nat.le_refl _) _))).mono ?_
 rw [A3.out]
 rintro e w' ⟨rfl, rfl⟩
 go_wp2_with (fail)
 refine (red_any _ _ _ (Hlr.out.below ((Below.refl _ _).alloc (Nat.le_refl _) _))).mono ?_
 rw [A4.out]
 rintro e w' ⟨rfl, rfl⟩
 go_wp2_with (fail)
 refine (red_any _ _ _ (Hrl.out.below ((Below.refl _ _).alloc (Nat.le_refl _) _))).mono ?_
 rw [A5.out]
 rintro e w' ⟨rfl, rfl⟩
 go_wp2_with (fail)
 refine (red_any _ _ _ (Hrr.out.below ((Below.refl _ _).alloc (Nat.le_refl _) _))).mono ?_
 rw [A6.out]
 rintro e w' ⟨rfl, rfl⟩
 go_wp2
 go_ret
 exact ⟨rfl, (Below.refl _ _).alloc (Nat.le_refl _) _⟩
theorem can1_any (m rt : Bool) (p pl pr pll plr prl prr pa pb : Option Addr) (T : Tr) (w : World) (Hl : Aside0 (Rep S w (.pointer pl) (lT m T))) (Hll : Aside0 (Rep S w (.pointer pll) (lT m (lT m T)))) (Hlr : Aside0 (Rep S w (.pointer plr) (rT m (lT m T)))) (Hr : Aside0 (Rep S w (.pointer pr) (rT m T))) (Hrl : Aside0 (Rep S w (.pointer prl) (lT m (rT m T)))) (Hrr : Aside0 (Rep S w (.pointer prr) (rT m (rT m T)))) (Hx : Aside0 (Rep S w (.pointer p) T)) :
  Calls Try.prog 64 #[.agg #[.bool m, .pointer p, .pointer pl, .pointer pr, .pointer pll, .pointer plr, .pointer prl, .pointer prr, .pointer pa, .pointer pb, .bool rt], .int .i64 1] w fun e w' => e = .returned (.bool (can1 m T)) ∧ Below w.heap.size w w' := by
 cases h0 : (wt (lT m T) == 0) with
 | false =>
  rw [show can1 m T = false from by simp only [can1, h0, Bool.and_true, Bool.true_and, Bool.and_false, Bool.false_and, Bool.or_true, Bool.true_or, Bool.or_false, Bool.false_or]]
  exact can1_0 m rt p pl pr pll plr prl prr pa pb T w Hl Hll Hlr Hr Hrl Hrr Hx h0
 | true =>
  cases h1 : (wt (rT m T) == 0) with
  | false =>
   rw [show can1 m T = false from by simp only [can1, h0, h1, Bool.and_true, Bool.true_and, Bool.and_false, Bool.false_and, Bool.or_true, Bool.true_or, Bool.or_false, Bool.false_or]]
   exact can1_1 m rt p pl pr pll plr prl prr pa pb T w Hl Hll Hlr Hr Hrl Hrr Hx h0 h1
  | true =>
   cases h2 : (decide (0 < wt T)) with
   | false =>
    rw [show can1 m T = false from by simp only [can1, h0, h1, h2, Bool.and_true, Bool.true_and, Bool.and_false, Bool.false_and, Bool.or_true, Bool.true_or, Bool.or_false, Bool.false_or]]
    exact can1_2 m rt p pl pr pll plr prl prr pa pb T w Hl Hll Hlr Hr Hrl Hrr Hx h0 h1 h2
   | true =>
    cases h3 : (wt (lT m (lT m T)) == 0) with
    | false =>
     cases h4 : (wt (rT m (lT m T)) == 0) with
     | false =>
      cases h5 : (wt (lT m (rT m T)) == 0) with
      | false =>
       cases h6 : (wt (rT m (rT m T)) == 0) with
       | false =>
        rw [show can1 m T = false from by simp only [can1, h0, h1, h2, h3, h4, h5, h6, Bool.and_true, Bool.true_and, Bool.and_false, Bool.false_and, Bool.or_true, Bool.true_or, Bool.or_false, Bool.false_or]]
        exact can1_7 m rt p pl pr pll plr prl prr pa pb T w Hl Hll Hlr Hr Hrl Hrr Hx h0 h1 h2 h3 h4 h5 h6
       | true =>
        rw [show can1 m T = true from by simp only [can1, h0, h1, h2, h3, h4, h5, h6, Bool.and_true, Bool.true_and, Bool.and_false, Bool.false_and, Bool.or_true, Bool.true_or, Bool.or_false, Bool.false_or]]
        exact can1_6 m rt p pl pr pll plr prl prr pa pb T w Hl Hll Hlr Hr Hrl Hrr Hx h0 h1 h2 h3 h4 h5 h6
      | true =>
       rw [show can1 m T = true from by simp only [can1, h0, h1, h2, h3, h4, h5, Bool.and_true, Bool.true_and, Bool.and_false, Bool.false_and, Bool.or_true, Bool.true_or, Bool.or_false, Bool.false_or]]
       exact can1_5 m rt p pl pr pll plr prl prr pa pb T w Hl Hll Hlr Hr Hrl Hrr Hx h0 h1 h2 h3 h4 h5
     | true =>
      rw [show can1 m T = true from by simp only [can1, h0, h1, h2, h3, h4, Bool.and_true, Bool.true_and, Bool.and_false, Bool.false_and, Bool.or_true, Bool.true_or, Bool.or_false, Bool.false_or]]
      exact can1_4 m rt p pl pr pll plr prl prr pa pb T w Hl Hll Hlr Hr Hrl Hrr Hx h0 h1 h2 h3 h4
    | true =>
     rw [show can1 m T = true from by simp only [can1, h0, h1, h2, h3, Bool.and_true, Bool.true_and, Bool.and_false, Bool.false_and, Bool.or_true, Bool.true_or, Bool.or_false, Bool.false_or]]
     exact can1_3 m rt p pl pr pll plr prl prr pa pb T w Hl Hll Hlr Hr Hrl Hrr Hx h0 h1 h2 h3
def can2 (m : Bool) (T : Tr) : Bool := (decide (0 < wt T)) && (wt (lT m T) == 0) && (wt (lT m (lT m T)) == 0) && (decide (0 < wt (rT m T)))
set_option maxHeartbeats 2000000 in
set_option maxRecDepth 100000 in
theorem can2_0 (m rt : Bool) (p pl pr pll plr prl prr pa pb : Option Addr) (T : Tr) (w : World) (Hl : Aside0 (Rep S w (.pointer pl) (lT m T))) (Hll : Aside0 (Rep S w (.pointer pll) (lT m (lT m T)))) (Hr : Aside0 (Rep S w (.pointer pr) (rT m T))) (Hx : Aside0 (Rep S w (.pointer p) T)) (h0 : (decide (0 < wt T)) = false) :
  Calls Try.prog 64 #[.agg #[.bool m, .pointer p, .pointer pl, .pointer pr, .pointer pll, .pointer plr, .pointer prl, .pointer prr, .pointer pa, .pointer pb, .bool rt], .int .i64 2] w fun e w' => e = .returned (.bool false) ∧ Below w.heap.size w w' := by
 have hu111 := Try.underlying111
 have A0 := Am h0
 clear h0
 go_enter Try.func64, Try.ntmps64
 go_wp2_with (fail)
 refine (black_any _ _ _ (Hx.out.below ((Below.refl _ _).alloc (Nat.le_refl _) _))).mono ?_
 rw [A0.out]
 rintro e w' ⟨rfl, rfl⟩
 go_wp2
 go_ret
 exact ⟨rfl, (Below.refl _ _).alloc (Nat.le_refl _) _⟩
set_option maxHeartbeats 2000000 in
set_option maxRecDepth 100000 in
theorem can2_1 (m rt : Bool) (p pl pr pll plr prl prr pa pb : Option Addr) (T : Tr) (w : World) (Hl : Aside0 (Rep S w (.pointer pl) (lT m T))) (Hll : Aside0 (Rep S w (.pointer pll) (lT m (lT m T)))) (Hr : Aside0 (Rep S w (.pointer pr) (rT m T))) (Hx : Aside0 (Rep S w (.pointer p) T)) (h0 : (decide (0 < wt T)) = true) (h1 : (wt (lT m T) == 0) = false) :
  Calls Try.prog 64 #[.agg #[.bool m, .pointer p, .pointer pl, .pointer pr, .pointer pll, .pointer plr, .pointer prl, .pointer prr, .pointer pa, .pointer pb, .bool rt], .int .i64 2] w fun e w' => e = .returned (.bool false) ∧ Below w.heap.size w w' := by
 have hu111 := Try.underlying111
 have A0 := Am h0
 have A1 := Am h1
 clear h0 h1
 go_enter Try.func64, Try.ntmps64
 go_wp2_with (fail)
 refine (black_any _ _ _ (Hx.out.below ((Below.refl _ _).alloc (Nat.le_refl _) _))).mono ?_
 rw [A0.out]
 rintro e w' ⟨rfl, rfl⟩
 go_wp2_with (fail)
 refine (red_any _ _ _ (Hl.out.below ((Below.refl _ _).alloc (Nat.le_refl _) _))).mono ?_
 rw [A1.out]
 rintro e w' ⟨rfl, rfl⟩
 go_wp2
 go_ret
 exact ⟨rfl, (Below.refl _ _).alloc (Nat.le_refl _) _⟩
set_option maxHeartbeats 2000000 in
set_option maxRecDepth 100000 in
theorem can2_2 (m rt : Bool) (p pl pr pll plr prl prr pa pb : Option Addr) (T : Tr) (w : World) (Hl : Aside0 (Rep S w (.pointer pl) (lT m T))) (Hll : Aside0 (Rep S w (.pointer pll) (lT m (lT m T)))) (Hr : Aside0 (Rep S w (.pointer pr) (rT m T))) (Hx : Aside0 (Rep S w (.pointer p) T)) (h0 : (decide (0 < wt T)) = true) (h1 : (wt (lT m T) == 0) = true) (h2 : (wt (lT m (lT m T)) == 0) = false) :
  Calls Try.prog 64 #[.agg #[.bool m, .pointer p, .pointer pl, .pointer pr, .pointer pll, .pointer plr, .pointer prl, .pointer prr, .pointer pa, .pointer pb, .bool rt], .int .i64 2] w fun e w' => e = .returned (.bool false) ∧ Below w.heap.size w w' := by
 have hu111 := Try.underlying111
 have A0 := Am h0
 have A1 := Am h1
 have A2 := Am h2
 clear h0 h1 h2
 go_enter Try.func64, Try.ntmps64
 go_wp2_with (fail)
 refine (black_any _ _ _ (Hx.out.below ((Below.refl _ _).alloc (Nat.le_refl _) _))).mono ?_
 rw [A0.out]
 rintro e w' ⟨rfl, rfl⟩
 go_wp2_with (fail)
 refine (red_any _ _ _ (Hl.out.below ((Below.refl _ _).alloc (Nat.le_refl _) _))).mono ?_
 rw [A1.out]
 rintro e w' ⟨rfl, rfl⟩
 go_wp2_with (fail)
 refine (red_any _ _ _ (Hll.out.below ((Below.refl _ _).alloc (Nat.le_refl _) _))).mono ?_
 rw [A2.out]
 rintro e w' ⟨rfl, rfl⟩
 go_wp2
 go_ret
 exact ⟨rfl, (Below.refl _ _).alloc (Nat.le_refl _) _⟩
set_option maxHeartbeats 2000000 in
set_option maxRecDepth 100000 in
theorem can2_3 (m rt : Bool) (p pl pr pll plr prl prr pa pb : Option Addr) (T : Tr) (w : World) (Hl : Aside0 (Rep S w (.pointer pl) (lT m T))) (Hll : Aside0 (Rep S w (.pointer pll) (lT m (lT m T)))) (Hr : Aside0 (Rep S w (.pointer pr) (rT m T))) (Hx : Aside0 (Rep S w (.pointer p) T)) (h0 : (decide (0 < wt T)) = true) (h1 : (wt (lT m T) == 0) = true) (h2 : (wt (lT m (lT m T)) == 0) = true) (h3 : (decide (0 < wt (rT m T))) = false) :
  Calls Try.prog 64 #[.agg #[.bool m, .pointer p, .pointer pl, .pointer pr, .pointer pll, .pointer plr, .pointer prl, .pointer prr, .pointer pa, .pointer pb, .bool rt], .int .i64 2] w fun e w' => e = .returned (.bool false) ∧ Below w.heap.size w w' := by
 have hu111 := Try.underlying111
 have A0 := Am h0
 have A1 := Am h1
 have A2 := Am h2
 have A3 := Am h3
 clear h0 h1 h2 h3
 go_enter Try.func64, Try.ntmps64
 go_wp2_with (fail)
 refine (black_any _ _ _ (Hx.out.below ((Below.refl _ _).alloc (Nat.le_refl _) _))).mono ?_
 rw [A0.out]
 rintro e w' ⟨rfl, rfl⟩
 go_wp2_with (fail)
 refine (red_any _ _ _ (Hl.out.below ((Below.refl _ _).alloc (Nat.le_refl _) _))).mono ?_
 rw [A1.out]
 rintro e w' ⟨rfl, rfl⟩
 go_wp2_with (fail)
 refine (red_any _ _ _ (Hll.out.below ((Below.refl _ _).alloc (Nat.le_refl _) _))).mono ?_
 rw [A2.out]
 rintro e w' ⟨rfl, rfl⟩
 go_wp2_with (fail)
 refine (black_any _ _ _ (Hr.out.below ((Below.refl _ _).alloc (Nat.le_refl _) _))).mono ?_
 rw [A3.out]
 rintro e w' ⟨rfl, rfl⟩
 go_wp2
 go_ret
 exact ⟨rfl, (Below.refl _ _).alloc (Nat.le_refl _) _⟩
set_option maxHeartbeats 2000000 in
set_option maxRecDepth 100000 in
theorem can2_4 (m rt : Bool) (p pl pr pll plr prl prr pa pb : Option Addr) (T : Tr) (w : World) (Hl : Aside0 (Rep S w (.pointer pl) (lT m T))) (Hll : Aside0 (Rep S w (.pointer pll) (lT m (lT m T)))) (Hr : Aside0 (Rep S w (.pointer pr) (rT m T))) (Hx : Aside0 (Rep S w (.pointer p) T)) (h0 : (decide (0 < wt T)) = true) (h1 : (wt (lT m T) == 0) = true) (h2 : (wt (lT m (lT m T)) == 0) = true) (h3 : (decide (0 < wt (rT m T))) = true) :
  Calls Try.prog 64 #[.agg #[.bool m, .pointer p, .pointer pl, .pointer pr, .pointer pll, .pointer plr, .pointer prl, .pointer prr, .pointer pa, .pointer pb, .bool rt], .int .i64 2] w fun e w' => e = .returned (.bool true) ∧ Below w.heap.size w w' := by
 have hu111 := Try.underlying111
 have A0 := Am h0
 have A1 := Am h1
 have A2 := Am h2
 have A3 := Am h3
 clear h0 h1 h2 h3
 go_enter Try.func64, Try.ntmps64
 go_wp2_with (fail)
 refine (black_any _ _ _ (Hx.out.below ((Below.refl _ _).alloc (Nat.le_refl _) _))).mono ?_
 rw [A0.out]
 rintro e w' ⟨rfl, rfl⟩
 go_wp2_with (fail)
 refine (red_any _ _ _ (Hl.out.below ((Below.refl _ _).alloc (Nat.le_refl _) _))).mono ?_
 rw [A1.out]
 rintro e w' ⟨rfl, rfl⟩
 go_wp2_with (fail)
 refine (red_any _ _ _ (Hll.out.below ((Below.refl _ _).alloc (Nat.le_refl _) _))).mono ?_
 rw [A2.out]
 rintro e w' ⟨rfl, rfl⟩
 go_wp2_with (fail)
 refine (black_any _ _ _ (Hr.out.below ((Below.refl _ _).alloc (Nat.le_refl _) _))).mono ?_
 rw [A3.out]
 rintro e w' ⟨rfl, rfl⟩
 go_wp2
 go_ret
 exact ⟨rfl, (Below.refl _ _).alloc (Nat.le_refl _) _⟩
theorem can2_any (m rt : Bool) (p pl pr pll plr prl prr pa pb : Option Addr) (T : Tr) (w : World) (Hl : Aside0 (Rep S w (.pointer pl) (lT m T))) (Hll : Aside0 (Rep S w (.pointer pll) (lT m (lT m T)))) (Hr : Aside0 (Rep S w (.pointer pr) (rT m T))) (Hx : Aside0 (Rep S w (.pointer p) T)) :
  Calls Try.prog 64 #[.agg #[.bool m, .pointer p, .pointer pl, .pointer pr, .pointer pll, .pointer plr, .pointer prl, .pointer prr, .pointer pa, .pointer pb, .bool rt], .int .i64 2] w fun e w' => e = .returned (.bool (can2 m T)) ∧ Below w.heap.size w w' := by
 cases h0 : (decide (0 < wt T)) with
 | false =>
  rw [show can2 m T = false from by simp only [can2, h0, Bool.and_true, Bool.true_and, Bool.and_false, Bool.false_and, Bool.or_true, Bool.true_or, Bool.or_false, Bool.false_or]]
  exact can2_0 m rt p pl pr pll plr prl prr pa pb T w Hl Hll Hr Hx h0
 | true =>
  cases h1 : (wt (lT m T) == 0) with
  | false =>
   rw [show can2 m T = false from by simp only [can2, h0, h1, Bool.and_true, Bool.true_and, Bool.and_false, Bool.false_and, Bool.or_true, Bool.true_or, Bool.or_false, Bool.false_or]]
   exact can2_1 m rt p pl pr pll plr prl prr pa pb T w Hl Hll Hr Hx h0 h1
  | true =>
   cases h2 : (wt (lT m (lT m T)) == 0) with
   | false =>
    rw [show can2 m T = false from by simp only [can2, h0, h1, h2, Bool.and_true, Bool.true_and, Bool.and_false, Bool.false_and, Bool.or_true, Bool.true_or, Bool.or_false, Bool.false_or]]
    exact can2_2 m rt p pl pr pll plr prl prr pa pb T w Hl Hll Hr Hx h0 h1 h2
   | true =>
    cases h3 : (decide (0 < wt (rT m T))) with
    | false =>
     rw [show can2 m T = false from by simp only [can2, h0, h1, h2, h3, Bool.and_true, Bool.true_and, Bool.and_false, Bool.false_and, Bool.or_true, Bool.true_or, Bool.or_false, Bool.false_or]]
     exact can2_3 m rt p pl pr pll plr prl prr pa pb T w Hl Hll Hr Hx h0 h1 h2 h3
    | true =>
     rw [show can2 m T = true from by simp only [can2, h0, h1, h2, h3, Bool.and_true, Bool.true_and, Bool.and_false, Bool.false_and, Bool.or_true, Bool.true_or, Bool.or_false, Bool.false_or]]
     exact can2_4 m rt p pl pr pll plr prl prr pa pb T w Hl Hll Hr Hx h0 h1 h2 h3
end Go.Proofs.Ytgleaefhflamnaa.T
namespace Go.Proofs.Ytgleaefhflamnaa.T
open Go.RowKit Go.Proofs.YtgleaefhflamnaaW.PrintWords Go.Proofs.YtgleaefhflamnaaW.PrintLast Go.Proofs.YtgleaefhflamnaaW.PrintMore
variable {S : Nat → Prop}
def can3 (m : Bool) (T : Tr) : Bool := (decide (0 < wt T)) && (wt (lT m T) == 0) && (wt (rT m (lT m T)) == 0) && (innerB (rT m (lT m T))) && (decide (0 < wt (lT m (lT m T)))) && (decide (0 < wt (rT m T)))
set_option maxHeartbeats 2000000 in
set_option maxRecDepth 100000 in
theorem can3_0 (m rt : Bool) (p pl pr pll plr prl prr pa pb : Option Addr) (T : Tr) (w : World) (Hl : Aside0 (Rep S w (.pointer pl) (lT m T))) (Hll : Aside0 (Rep S w (.pointer pll) (lT m (lT m T)))) (Hlr : Aside0 (Rep S w (.pointer plr) (rT m (lT m T)))) (Hr : Aside0 (Rep S w (.pointer pr) (rT m T))) (Hx : Aside0 (Rep S w (.pointer p) T)) (h0 : (decide (0 < wt T)) = false) :
  Calls Try.prog 64 #[.agg #[.bool m, .pointer p, .pointer pl, .pointer pr, .pointer pll, .pointer plr, .pointer prl, .pointer prr, .pointer pa, .pointer pb, .bool rt], .int .i64 3] w fun e w' => e = .returned (.bool false) ∧ Below w.heap.size w w' := by
 have hu111 := Try.underlying111
 have A0 := Am h0
 clear h0
 go_enter Try.func64, Try.ntmps64
 go_wp2_with (fail)
 refine (black_any _ _ _ (Hx.out.below ((Below.refl _ _).alloc (Nat.le_refl _) _))).mono ?_
 rw [A0.out]
 rintro e w' ⟨rfl, rfl⟩
 go_wp2
 go_ret
 exact ⟨rfl, (Below.refl _ _).alloc (Nat.le_refl _) _⟩
set_option maxHeartbeats 2000000 in
set_option maxRecDepth 100000 in
theorem can3_1 (m rt : Bool) (p pl pr pll plr prl prr pa pb : Option Addr) (T : Tr) (w : World) (Hl : Aside0 (Rep S w (.pointer pl) (lT m T))) (Hll : Aside0 (Rep S w (.pointer pll) (lT m (lT m T)))) (Hlr : Aside0 (Rep S w (.pointer plr) (rT m (lT m T)))) (Hr : Aside0 (Rep S w (.pointer pr) (rT m T))) (Hx : Aside0 (Rep S w (.pointer p) T)) (h0 : (decide (0 < wt T)) = true) (h1 : (wt (lT m T) == 0) = false) :
  Calls Try.prog 64 #[.agg #[.bool m, .pointer p, .pointer pl, .pointer pr, .pointer pll, .pointer plr, .pointer prl, .pointer prr, .pointer pa, .pointer pb, .bool rt], .int .i64 3] w fun e w' => e = .returned (.bool false) ∧ Below w.heap.size w w' := by
 have hu111 := Try.underlying111
 have A0 := Am h0
 have A1 := Am h1
 clear h0 h1
 go_enter Try.func64, Try.ntmps64
 go_wp2_with (fail)
 refine (black_any _ _ _ (Hx.out.below ((Below.refl _ _).alloc (Nat.le_refl _) _))).mono ?_
 rw [A0.out]
 rintro e w' ⟨rfl, rfl⟩
 go_wp2_with (fail)
 refine (red_any _ _ _ (Hl.out.below ((Below.refl _ _).alloc (Nat.le_refl _) _))).mono ?_
 rw [A1.out]
 rintro e w' ⟨rfl, rfl⟩
 go_wp2
 go_ret
 exact ⟨rfl, (Below.refl _ _).alloc (Nat.le_refl _) _⟩
set_option maxHeartbeats 2000000 in
set_option maxRecDepth 100000 in
theorem can3_2 (m rt : Bool) (p pl pr pll plr prl prr pa pb : Option Addr) (T : Tr) (w : World) (Hl : Aside0 (Rep S w (.pointer pl) (lT m T))) (Hll : Aside0 (Rep S w (.pointer pll) (lT m (lT m T)))) (Hlr : Aside0 (Rep S w (.pointer plr) (rT m (lT m T)))) (Hr : Aside0 (Rep S w (.pointer pr) (rT m T))) (Hx : Aside0 (Rep S w (.pointer p) T)) (h0 : (decide (0 < wt T)) = true) (h1 : (wt (lT m T) == 0) = true) (h2 : (wt (rT m (lT m T)) == 0) = false) :
  Calls Try.prog 64 #[.agg #[.bool m, .pointer p, .pointer pl, .pointer pr, .pointer pll, .pointer plr, .pointer prl, .pointer prr, .pointer pa, .pointer pb, .bool rt], .int .i64 3] w fun e w' => e = .returned (.bool false) ∧ Below w.heap.size w w' := by
 have hu111 := Try.underlying111
 have A0 := Am h0
 have A1 := Am h1
 have A2 := Am h2
 clear h0 h1 h2
 go_enter Try.func64, Try.ntmps64
 go_wp2_with (fail)
 refine (black_any _ _ _ (Hx.out.below ((Below.refl _ _).alloc (Nat.le_refl _) _))).mono ?_
 rw [A0.out]
 rintro e w' ⟨rfl, rfl⟩
 go_wp2_with (fail)
 refine (red_any _ _ _ (Hl.out.below ((Below.refl _ _).alloc (Nat.le_refl _) _))).mono ?_
 rw [A1.out]
 rintro e w' ⟨rfl, rfl⟩
 go_wp2_with (fail)
 refine (red_any _ _ _ (Hlr.out.below ((Below.refl _ _).alloc (Nat.le_refl _) _))).mono ?_
 rw [A2.out]
 rintro e w' ⟨rfl, rfl⟩
 go_wp2
 go_ret
 exact ⟨rfl, (Below.refl _ _).alloc (Nat.le_refl _) _⟩
set_option maxHeartbeats 2000000 in
set_option maxRecDepth 100000 in
theorem can3_3 (m rt : Bool) (p pl pr pll plr prl prr pa pb : Option Addr) (T : Tr) (w : World) (Hl : Aside0 (Rep S w (.pointer pl) (lT m T))) (Hll : Aside0 (Rep S w (.pointer pll) (lT m (lT m T)))) (Hlr : Aside0 (Rep S w (.pointer plr) (rT m (lT m T)))) (Hr : Aside0 (Rep S w (.pointer pr) (rT m T))) (Hx : Aside0 (Rep S w (.pointer p) T)) (h0 : (decide (0 < wt T)) = true) (h1 : (wt (lT m T) == 0) = true) (h2 : (wt (rT m (lT m T)) == 0) = true) (h3 : (innerB (rT m (lT m T))) = false) :
  Calls Try.prog 64 #[.agg #[.bool m, .pointer p, .pointer pl, .pointer pr, .pointer pll, .pointer plr, .pointer prl, .pointer prr, .pointer pa, .pointer pb, .bool rt], .int .i64 3] w fun e w' => e = .returned (.bool false) ∧ Below w.heap.size w w' := by
 have hu111 := Try.underlying111
 have A0 := Am h0
 have A1 := Am h1
 have A2 := Am h2
 have A3 := Am h3
 clear h0 h1 h2 h3
 go_enter Try.func64, Try.ntmps64
 go_wp2_with (fail)
 refine (black_any _ _ _ (Hx.out.below ((Below.refl _ _).alloc (Nat.le_refl _) _))).mono ?_
 rw [A0.out]
 rintro e w' ⟨rfl, rfl⟩
 go_wp2_with (fail)
 refine (red_any _ _ _ (Hl.out.below ((Below.refl _ _).alloc (Nat.le_refl _) _))).mono ?_
 rw [A1.out]
 rintro e w' ⟨rfl, rfl⟩
 go_wp2_with (fail)
 refine (red_any _ _ _ (Hlr.out.below ((Below.refl _ _).alloc (Nat.le_refl _) _))).mono ?_
 rw [A2.out]
 rintro e w' ⟨rfl, rfl⟩
 go_wp2_with (fail)
 refine (inner_any _ _ _ (Hlr.out.below ((Below.refl _ _).alloc (Nat.le_refl _) _))).mono ?_
 rw [A3.out]
 rintro e w' ⟨rfl, rfl⟩
 go_wp2
 go_ret
 exact ⟨rfl, (Below.refl _ _).alloc (Nat.le_refl _) _⟩
set_option maxHeartbeats 2000000 in
set_option maxRecDepth 100000 in
theorem can3_4 (m rt : Bool) (p pl pr pll plr prl prr pa pb : Option Addr) (T : Tr) (w : World) (Hl : Aside0 (Rep S w (.pointer pl) (lT m T))) (Hll : Aside0 (Rep S w (.pointer pll) (lT m (lT m T)))) (Hlr : Aside0 (Rep S w (.pointer plr) (rT m (lT m T)))) (Hr : Aside0 (Rep S w (.pointer pr) (rT m T))) (Hx : Aside0 (Rep S w (.pointer p) T)) (h0 : (decide (0 < wt T)) = true) (h1 : (wt (lT m T) == 0) = true) (h2 : (wt (rT m (lT m T)) == 0) = true) (h3 : (innerB (rT m (lT m T))) = true) (h4 : (decide (0 < wt (lT m (lT m T)))) = false) :
  Calls Try.prog 64 #[.agg #[.bool m, .pointer p, .pointer pl, .pointer pr, .pointer pll, .pointer plr, .pointer prl, .pointer prr, .pointer pa, .pointer pb, .bool rt], .int .i64 3] w fun e w' => e = .returned (.bool false) ∧ Below w.heap.size w w' := by
 have hu111 := Try.underlying111
 have A0 := Am h0
 have A1 := Am h1
 have A2 := Am h2
 have A3 := Am h3
 have A4 := Am h4
 clear h0 h1 h2 h3 h4
 go_enter Try.func64, Try.ntmps64
 go_wp2_with (fail)
 refine (black_any _ _ _ (Hx.out.below ((Below.refl _ _).alloc (Nat.le_refl _) _))).mono ?_
 rw [A0.out]
 rintro e w' ⟨rfl, rfl⟩
 go_wp2_with (fail)
 refine (red_any _ _ _ (Hl.out.below ((Below.refl _ _).alloc (Nat.le_refl _) _))).mono ?_
 rw [A1.out]
 rintro e w' ⟨rfl, rfl⟩
 go_wp2_with (fail)
 refine (red_any _ _ _ (Hlr.out.below ((Below.refl _ _).alloc (Nat.le_refl _) _))).mono ?_
 rw [A2.out]
 rintro e w' ⟨rfl, rfl⟩
 go_wp2_with (fail)
 refine (inner_any _ _ _ (Hlr.out.below ((Below.refl _ _).alloc (Nat.le_refl _) _))).mono ?_
 rw [A3.out]
 rintro e w' ⟨rfl, rfl⟩
 go_wp2_with (fail)
 refine (black_any _ _ _ (Hll.out.below ((Below.refl _ _).alloc (Nat.le_refl _) _))).mono ?_
 rw [A4.out]
 rintro e w' ⟨rfl, rfl⟩
 go_wp2
 go_ret
 exact ⟨rfl, (Below.refl _ _).alloc (Nat.le_refl _) _⟩
set_option maxHeartbeats 2000000 in
set_option maxRecDepth 100000 in
theorem can3_5 (m rt : Bool) (p pl pr pll plr prl prr pa pb : Option Addr) (T : Tr) (w : World) (Hl : Aside0 (Rep S w (.pointer pl) (lT m T))) (Hll : Aside0 (Rep S w (.pointer pll) (lT m (lT m T)))) (Hlr : Aside0 (Rep S w (.pointer plr) (rT m (lT m T)))) (Hr : Aside0 (Rep S w (.pointer pr) (rT m T))) (Hx : Aside0 (Rep S w (.pointer p) T)) (h0 : (decide (0 < wt T)) = true) (h1 : (wt (lT m T) == 0) = true) (h2 : (wt (rT m (lT m T)) == 0) = true) (h3 : (innerB (rT m (lT m T))) = true) (h4 : (decide (0 < wt (lT m (lT m T)))) = true) (h5 : (decide (0 < wt (rT m T))) = false) :
  Calls Try.prog 64 #[.agg #[.bool m, .pointer p, .pointer pl, .pointer pr, .pointer pll, .pointer plr, .pointer prl, .pointer prr, .pointer pa, .pointer pb, .bool rt], .int .i64 3] w fun e w' => e = .returned (.bool false) ∧ Below w.heap.size w w' := by
 have hu111 := Try.underlying111
 have A0 := Am h0
 have A1 := Am h1
 have A2 := Am h2
 have A3 := Am h3
 have A4 := Am h4
 have A5 := Am h5
 clear h0 h1 h2 h3 h4 h5
 go_enter Try.func64, Try.ntmps64
 go_wp2_with (fail)
 refine (black_any _ _ _ (Hx.out.below ((Below.refl _ _).alloc (Nat.le_refl _) _))).mono ?_
 rw [A0.out]
 rintro e w' ⟨rfl, rfl⟩
 go_wp2_with (fail)
 refine (red_any _ _ _ (Hl.out.below ((Below.refl _ _).alloc (Nat.le_refl _) _))).mono ?_
 rw [A1.out]
 rintro e w' ⟨rfl, rfl⟩
 go_wp2_with (fail)
 refine (red_any _ _ _ (Hlr.out.below ((Below.refl _ _).alloc (Nat.le_refl _) _))).mono ?_
 rw [A2.out]
 rintro e w' ⟨rfl, rfl⟩
 go_wp2_with (fail)
 refine (inner_any _ _ _ (Hlr.out.below ((Below.refl _ _).alloc (Nat.le_refl _) _))).mono ?_
 rw [A3.out]
 rintro e w' ⟨rfl, rfl⟩
 go_wp2_with (fail)
 refine (black_any _ _ _ (Hll.out.below ((Below.refl _ _).alloc (Nat.le_refl _) _))).mono ?_
 rw [A4.out]
 rintro e w' ⟨rfl, rfl⟩
 go_wp2_with (fail)
 refine (black_any _ _ _ (Hr.out.below ((Below.refl _ _).alloc (Nat.le_refl _) _))).mono ?_
 rw [A5.out]
 rintro e w' ⟨rfl, rfl⟩
 go_wp2
 go_ret
 exact ⟨rfl, (Below.refl _ _).alloc (Nat.le_refl _) _⟩
set_option maxHeartbeats 2000000 in
set_option maxRecDepth 100000 in
theorem can3_6 (m rt : Bool) (p pl pr pll plr prl prr pa pb : Option Addr) (T : Tr) (w : World) (Hl : Aside0 (Rep S w (.pointer pl) (lT m T))) (Hll : Aside0 (Rep S w (.pointer pll) (lT m (lT m T)))) (Hlr : Aside0 (Rep S w (.pointer plr) (rT m (lT m T)))) (Hr : Aside0 (Rep S w (.pointer pr) (rT m T))) (Hx : Aside0 (Rep S w (.pointer p) T)) (h0 : (decide (0 < wt T)) = true) (h1 : (wt (lT m T) == 0) = true) (h2 : (wt (rT m (lT m T)) == 0) = true) (h3 : (innerB (rT m (lT m T))) = true) (h4 : (decide (0 < wt (lT m (lT m T)))) = true) (h5 : (decide (0 < wt (rT m T))) = true) :
  Calls Try.prog 64 #[.agg #[.bool m, .pointer p, .pointer pl, .pointer pr, .pointer pll, .pointer plr, .pointer prl, .pointer prr, .pointer pa, .pointer pb, .bool rt], .int .i64 3] w fun e w' => e = .returned (.bool true) ∧ Below w.heap.size w w' := by
 have hu111 := Try.underlying111
 have A0 := Am h0
 have A1 := Am h1
 have A2 := Am h2
 have A3 := Am h3
 have A4 := Am h4
 have A5 := Am h5
 clear h0 h1 h2 h3 h4 h5
 go_enter Try.func64, Try.ntmps64
 go_wp2_with (fail)
 refine (black_any _ _ _ (Hx.out.below ((Below.refl _ _).alloc (Nat.le_refl _) _))).mono ?_
 rw [A0.out]
 rintro e w' ⟨rfl, rfl⟩
 go_wp2_with (fail)
 refine (red_any _ _ _ (Hl.out.below ((Below.refl _ _).alloc (Nat.le_refl _) _))).mono ?_
 rw [A1.out]
 rintro e w' ⟨rfl, rfl⟩
 go_wp2_with (fail)
 refine (red_any _ _ _ (Hlr.out.below ((Below.refl _ _).alloc (Nat.le_refl _) _))).mono ?_
 rw [A2.out]
 rintro e w' ⟨rfl, rfl⟩
 go_wp2_with (fail)
 refine (inner_any _ _ _ (Hlr.out.below ((Below.refl _ _).alloc (Nat.le_refl _) _))).mono ?_
 rw [A3.out]
 rintro e w' ⟨rfl, rfl⟩
 go_wp2_with (fail)
 refine (black_any _ _ _ (Hll.out.below ((Below.refl _ _).alloc (Nat.le_refl _) _))).mono ?_
 rw [A4.out]
 rintro e w' ⟨rfl, rfl⟩
 go_wp2_with (fail)
 refine (black_any _ _ _ (Hr.out.below ((Below.refl _ _).alloc (Nat.le_refl _) _))).mono ?_
 rw [A5.out]
 rintro e w' ⟨rfl, rfl⟩
 go_wp2
 go_ret
 exact ⟨rfl, (Below.refl _ _).alloc (Nat.le_refl _) _⟩
theorem can3_any (m rt : Bool) (p pl pr pll plr prl prr pa pb : Option Addr) (T : Tr) (w : World) (Hl : Aside0 (Rep S w (.pointer pl) (lT m T))) (Hll : Aside0 (Rep S w (.pointer pll) (lT m (lT m T)))) (Hlr : Aside0 (Rep S w (.pointer plr) (rT m (lT m T)))) (Hr : Aside0 (Rep S w (.pointer pr) (rT m T))) (Hx : Aside0 (Rep S w (.pointer p) T)) :
  Calls Try.prog 64 #[.agg #[.bool m, .pointer p, .pointer pl, .pointer pr, .pointer pll, .pointer plr, .pointer prl, .pointer prr, .pointer pa, .pointer pb, .bool rt], .int .i64 3] w fun e w' => e = .returned (.bool (can3 m T)) ∧ Below w.heap.size w w' := by
 cases h0 : (decide (0 < wt T)) with
 | false =>
  rw [show can3 m T = false from by simp only [can3, h0, Bool.and_true, Bool.true_and, Bool.and_false, Bool.false_and, Bool.or_true, Bool.true_or, Bool.or_false, Bool.false_or]]
  exact can3_0 m rt p pl pr pll plr prl prr pa pb T w Hl Hll Hlr Hr Hx h0
 | true =>
  cases h1 : (wt (lT m T) == 0) with
  | false =>
   rw [show can3 m T = false from by simp only [can3, h0, h1, Bool.and_true, Bool.true_and, Bool.and_false, Bool.false_and, Bool.or_true, Bool.true_or, Bool.or_false, Bool.false_or]]
   exact can3_1 m rt p pl pr pll plr prl prr pa pb T w Hl Hll Hlr Hr Hx h0 h1
  | true =>
   cases h2 : (wt (rT m (lT m T)) == 0) with
   | false =>
    rw [show can3 m T = false from by simp only [can3, h0, h1, h2, Bool.and_true, Bool.true_and, Bool.and_false, Bool.false_and, Bool.or_true, Bool.true_or, Bool.or_false, Bool.false_or]]
    exact can3_2 m rt p pl pr pll plr prl prr pa pb T w Hl Hll Hlr Hr Hx h0 h1 h2
   | true =>
    cases h3 : (innerB (rT m (lT m T))) with
    | false =>
     rw [show can3 m T = false from by simp only [can3, h0, h1, h2, h3, Bool.and_true, Bool.true_and, Bool.and_false, Bool.false_and, Bool.or_true, Bool.true_or, Bool.or_false, Bool.false_or]]
     exact can3_3 m rt p pl pr pll plr prl prr pa pb T w Hl Hll Hlr Hr Hx h0 h1 h2 h3
    | true =>
     cases h4 : (decide (0 < wt (lT m (lT m T)))) with
     | false =>
      rw [show can3 m T = false from by simp only [can3, h0, h1, h2, h3, h4, Bool.and_true, Bool.true_and, Bool.and_false, Bool.false_and, Bool.or_true, Bool.true_or, Bool.or_false, Bool.false_or]]
      exact can3_4 m rt p pl pr pll plr prl prr pa pb T w Hl Hll Hlr Hr Hx h0 h1 h2 h3 h4
     | true =>
      cases h5 : (decide (0 < wt (rT m T))) with
      | false =>
       rw [show can3 m T = false from by simp only [can3, h0, h1, h2, h3, h4, h5, Bool.and_true, Bool.true_and, Bool.and_false, Bool.false_and, Bool.or_true, Bool.true_or, Bool.or_false, Bool.false_or]]
       exact can3_5 m rt p pl pr pll plr prl prr pa pb T w Hl Hll Hlr Hr Hx h0 h1 h2 h3 h4 h5
      | true =>
       rw [show can3 m T = true from by simp only [can3, h0, h1, h2, h3, h4, h5, Bool.and_true, Bool.true_and, Bool.and_false, Bool.false_and, Bool.or_true, Bool.true_or, Bool.or_false, Bool.false_or]]
       exact can3_6 m rt p pl pr pll plr prl prr pa pb T w Hl Hll Hlr Hr Hx h0 h1 h2 h3 h4 h5
def can4 (m : Bool) (T : Tr) : Bool := (decide (1 < wt (lT m T))) && (wt (rT m T) == 1) && (decide (0 < wt (lT m (rT m T)))) && (decide (0 < wt (rT m (rT m T))))
set_option maxHeartbeats 2000000 in
set_option maxRecDepth 100000 in
theorem can4_0 (m rt : Bool) (p pl pr pll plr prl prr pa pb : Option Addr) (T : Tr) (w : World) (Hl : Aside0 (Rep S w (.pointer pl) (lT m T))) (Hr : Aside0 (Rep S w (.pointer pr) (rT m T))) (Hrl : Aside0 (Rep S w (.pointer prl) (lT m (rT m T)))) (Hrr : Aside0 (Rep S w (.pointer prr) (rT m (rT m T)))) (h0 : (decide (1 < wt (lT m T))) = false) :
  Calls Try.prog 64 #[.agg #[.bool m, .pointer p, .pointer pl, .pointer pr, .pointer pll, .pointer plr, .pointer prl, .pointer prr, .pointer pa, .pointer pb, .bool rt], .int .i64 4] w fun e w' => e = .returned (.bool false) ∧ Below w.heap.size w w' := by
 have hu111 := Try.underlying111
 have A0 := Am h0
 clear h0
 go_enter Try.func64, Try.ntmps64
 go_wp2_with (fail)
 refine (over_any _ _ _ (Hl.out.below ((Below.refl _ _).alloc (Nat.le_refl _) _))).mono ?_
 rw [A0.out]
 rintro e w' ⟨rfl, rfl⟩
 go_wp2
 go_ret
 exact ⟨rfl, (Below.refl _ _).alloc (Nat.le_refl _) _⟩
set_option maxHeartbeats 2000000 in
set_option maxRecDepth 100000 in
theorem can4_1 (m rt : Bool) (p pl pr pll plr prl prr pa pb : Option Addr) (T : Tr) (w : World) (Hl : Aside0 (Rep S w (.pointer pl) (lT m T))) (Hr : Aside0 (Rep S w (.pointer pr) (rT m T))) (Hrl : Aside0 (Rep S w (.pointer prl) (lT m (rT m T)))) (Hrr : Aside0 (Rep S w (.pointer prr) (rT m (rT m T)))) (h0 : (decide (1 < wt (lT m T))) = true) (h1 : (wt (rT m T) == 1) = false) :
  Calls Try.prog 64 #[.agg #[.bool m, .pointer p, .pointer pl, .pointer pr, .pointer pll, .pointer plr, .pointer prl, .pointer prr, .pointer pa, .pointer pb, .bool rt], .int .i64 4] w fun e w' => e = .returned (.bool false) ∧ Below w.heap.size w w' := by
 have hu111 := Try.underlying111
 have A0 := Am h0
 have A1 := Am h1
 clear h0 h1
 go_enter Try.func64, Try.ntmps64
 go_wp2_with (fail)
 refine (over_any _ _ _ (Hl.out.below ((Below.refl _ _).alloc (Nat.le_refl _) _))).mono ?_
 rw [A0.out]
 rintro e w' ⟨rfl, rfl⟩
 go_wp2_with (fail)
 refine (one_any _ _ _ (Hr.out.below ((Below.refl _ _).alloc (Nat.le_refl _) _))).mono ?_
 rw [A1.out]
 rintro e w' ⟨rfl, rfl⟩
 go_wp2
 go_ret
 exact ⟨rfl, (Below.refl _ _).alloc (Nat.le_refl _) _⟩
set_option maxHeartbeats 2000000 in
set_option maxRecDepth 100000 in
theorem can4_2 (m rt : Bool) (p pl pr pll plr prl prr pa pb : Option Addr) (T : Tr) (w : World) (Hl : Aside0 (Rep S w (.pointer pl) (lT m T))) (Hr : Aside0 (Rep S w (.pointer pr) (rT m T))) (Hrl : Aside0 (Rep S w (.pointer prl) (lT m (rT m T)))) (Hrr : Aside0 (Rep S w (.pointer prr) (rT m (rT m T)))) (h0 : (decide (1 < wt (lT m T))) = true) (h1 : (wt (rT m T) == 1) = true) (h2 : (decide (0 < wt (lT m (rT m T)))) = false) :
  Calls Try.prog 64 #[.agg #[.bool m, .pointer p, .pointer pl, .pointer pr, .pointer pll, .pointer plr, .pointer prl, .pointer prr, .pointer pa, .pointer pb, .bool rt], .int .i64 4] w fun e w' => e = .returned (.bool false) ∧ Below w.heap.size w w' := by
 have hu111 := Try.underlying111
 have A0 := Am h0
 have A1 := Am h1
 have A2 := Am h2
 clear h0 h1 h2
 go_enter Try.func64, Try.ntmps64
 go_wp2_with (fail)
 refine (over_any _ _ _ (Hl.out.below ((Below.refl _ _).alloc (Nat.le_refl _) _))).mono ?_
 rw [A0.out]
 rintro e w' ⟨rfl, rfl⟩
 go_wp2_with (fail)
 refine (one_any _ _ _ (Hr.out.below ((Below.refl _ _).alloc (Nat.le_refl _) _))).mono ?_
 rw [A1.out]
 rintro e w' ⟨rfl, rfl⟩
 go_wp2_with (fail)
 refine (black_any _ _ _ (Hrl.out.below ((Below.refl _ _).alloc (Nat.le_refl _) _))).mono ?_
 rw [A2.out]
 rintro e w' ⟨rfl, rfl⟩
 go_wp2
 go_ret
 exact ⟨rfl, (Below.refl _ _).alloc (Nat.le_refl _) _⟩
set_option maxHeartbeats 2000000 in
set_option maxRecDepth 100000 in
theorem can4_3 (m rt : Bool) (p pl pr pll plr prl prr pa pb : Option Addr) (T : Tr) (w : World) (Hl : Aside0 (Rep S w (.pointer pl) (lT m T))) (Hr : Aside0 (Rep S w (.pointer pr) (rT m T))) (Hrl : Aside0 (Rep S w (.pointer prl) (lT m (rT m T)))) (Hrr : Aside0 (Rep S w (.pointer prr) (rT m (rT m T)))) (h0 : (decide (1 < wt (lT m T))) = true) (h1 : (wt (rT m T) == 1) = true) (h2 : (decide (0 < wt (lT m (rT m T)))) = true) (h3 : (decide (0 < wt (rT m (rT m T)))) = false) :
  Calls Try.prog 64 #[.agg #[.bool m, .pointer p, .pointer pl, .pointer pr, .pointer pll, .pointer plr, .pointer prl, .pointer prr, .pointer pa, .pointer pb, .bool rt], .int .i64 4] w fun e w' => e = .returned (.bool false) ∧ Below w.heap.size w w' := by
 have hu111 := Try.underlying111
 have A0 := Am h0
 have A1 := Am h1
 have A2 := Am h2
 have A3 := Am h3
 clear h0 h1 h2 h3
 go_enter Try.func64, Try.ntmps64
 go_wp2_with (fail)
 refine (over_any _ _ _ (Hl.out.below ((Below.refl _ _).alloc (Nat.le_refl _) _))).mono ?_
 rw [A0.out]
 rintro e w' ⟨rfl, rfl⟩
 go_wp2_with (fail)
 refine (one_any _ _ _ (Hr.out.below ((Below.refl _ _).alloc (Nat.le_refl _) _))).mono ?_
 rw [A1.out]
 rintro e w' ⟨rfl, rfl⟩
 go_wp2_with (fail)
 refine (black_any _ _ _ (Hrl.out.below ((Below.refl _ _).alloc (Nat.le_refl _) _))).mono ?_
 rw [A2.out]
 rintro e w' ⟨rfl, rfl⟩
 go_wp2_with (fail)
 refine (black_any _ _ _ (Hrr.out.below ((Below.refl _ _).alloc (Nat.le_refl _) _))).mono ?_
 rw [A3.out]
 rintro e w' ⟨rfl, rfl⟩
 go_wp2
 go_ret
 exact ⟨rfl, (Below.refl _ _).alloc (Nat.le_refl _) _⟩
set_option maxHeartbeats 2000000 in
set_option maxRecDepth 100000 in
theorem can4_4 (m rt : Bool) (p pl pr pll plr prl prr pa pb : Option Addr) (T : Tr) (w : World) (Hl : Aside0 (Rep S w (.pointer pl) (lT m T))) (Hr : Aside0 (Rep S w (.pointer pr) (rT m T))) (Hrl : Aside0 (Rep S w (.pointer prl) (lT m (rT m T)))) (Hrr : Aside0 (Rep S w (.pointer prr) (rT m (rT m T)))) (h0 : (decide (1 < wt (lT m T))) = true) (h1 : (wt (rT m T) == 1) = true) (h2 : (decide (0 < wt (lT m (rT m T)))) = true) (h3 : (decide (0 < wt (rT m (rT m T)))) = true) :
  Calls Try.prog 64 #[.agg #[.bool m, .pointer p, .pointer pl, .pointer pr, .pointer pll, .pointer plr, .pointer prl, .pointer prr, .pointer pa, .pointer pb, .bool rt], .int .i64 4] w fun e w' => e = .returned (.bool true) ∧ Below w.heap.size w w' := by
 have hu111 := Try.underlying111
 have A0 := Am h0
 have A1 := Am h1
 have A2 := Am h2
 have A3 := Am h3
 clear h0 h1 h2 h3
 go_enter Try.func64, Try.ntmps64
 go_wp2_with (fail)
 refine (over_any _ _ _ (Hl.out.below ((Below.refl _ _).alloc (Nat.le_refl _) _))).mono ?_
 rw [A0.out]
 rintro e w' ⟨rfl, rfl⟩
 go_wp2_with (fail)
 refine (one_any _ _ _ (Hr.out.below ((Below.refl _ _).alloc (Nat.le_refl _) _))).mono ?_
 rw [A1.out]
 rintro e w' ⟨rfl, rfl⟩
 go_wp2_with (fail)
 refine (black_any _ _ _ (Hrl.out.below ((Below.refl _ _).alloc (Nat.le_refl _) _))).mono ?_
 rw [A2.out]
 rintro e w' ⟨rfl, rfl⟩
 go_wp2_with (fail)
 refine (black_any _ _ _ (Hrr.out.below ((Below.refl _ _).alloc (Nat.le_refl _) _))).mono ?_
 rw [A3.out]
 rintro e w' ⟨rfl, rfl⟩
 go_wp2
 go_ret
 exact ⟨rfl, (Below.refl _ _).alloc (Nat.le_refl _) _⟩
theorem can4_any (m rt : Bool) (p pl pr pll plr prl prr pa pb : Option Addr) (T : Tr) (w : World) (Hl : Aside0 (Rep S w (.pointer pl) (lT m T))) (Hr : Aside0 (Rep S w (.pointer pr) (rT m T))) (Hrl : Aside0 (Rep S w (.pointer prl) (lT m (rT m T)))) (Hrr : Aside0 (Rep S w (.pointer prr) (rT m (rT m T)))) :
  Calls Try.prog 64 #[.agg #[.bool m, .pointer p, .pointer pl, .pointer pr, .pointer pll, .pointer plr, .pointer prl, .pointer prr, .pointer pa, .pointer pb, .bool rt], .int .i64 4] w fun e w' => e = .returned (.bool (can4 m T)) ∧ Below w.heap.size w w' := by
 cases h0 : (decide (1 < wt (lT m T))) with
 | false =>
  rw [show can4 m T = false from by simp only [can4, h0, Bool.and_true, Bool.true_and, Bool.and_false, Bool.false_and, Bool.or_true, Bool.true_or, Bool.or_false, Bool.false_or]]
  exact can4_0 m rt p pl pr pll plr prl prr pa pb T w Hl Hr Hrl Hrr h0
 | true =>
  cases h1 : (wt (rT m T) == 1) with
  | false =>
   rw [show can4 m T = false from by simp only [can4, h0, h1, Bool.and_true, Bool.true_and, Bool.and_false, Bool.false_and, Bool.or_true, Bool.true_or, Bool.or_false, Bool.false_or]]
   exact can4_1 m rt p pl pr pll plr prl prr pa pb T w Hl Hr Hrl Hrr h0 h1
  | true =>
   cases h2 : (decide (0 < wt (lT m (rT m T)))) with
   | false =>
    rw [show can4 m T = false from by simp only [can4, h0, h1, h2, Bool.and_true, Bool.true_and, Bool.and_false, Bool.false_and, Bool.or_true, Bool.true_or, Bool.or_false, Bool.false_or]]
    exact can4_2 m rt p pl pr pll plr prl prr pa pb T w Hl Hr Hrl Hrr h0 h1 h2
   | true =>
    cases h3 : (decide (0 < wt (rT m (rT m T)))) with
    | false =>
     rw [show can4 m T = false from by simp only [can4, h0, h1, h2, h3, Bool.and_true, Bool.true_and, Bool.and_false, Bool.false_and, Bool.or_true, Bool.true_or, Bool.or_false, Bool.false_or]]
     exact can4_3 m rt p pl pr pll plr prl prr pa pb T w Hl Hr Hrl Hrr h0 h1 h2 h3
    | true =>
     rw [show can4 m T = true from by simp only [can4, h0, h1, h2, h3, Bool.and_true, Bool.true_and, Bool.and_false, Bool.false_and, Bool.or_true, Bool.true_or, Bool.or_false, Bool.false_or]]
     exact can4_4 m rt p pl pr pll plr prl prr pa pb T w Hl Hr Hrl Hrr h0 h1 h2 h3
def can11 (m : Bool) (T : Tr) : Bool := (decide (1 < wt (lT m T))) && (decide (1 < wt (rT m T)))
set_option maxHeartbeats 2000000 in
set_option maxRecDepth 100000 in
theorem can11_0 (m rt : Bool) (p pl pr pll plr prl prr pa pb : Option Addr) (T : Tr) (w : World) (Hl : Aside0 (Rep S w (.pointer pl) (lT m T))) (Hr : Aside0 (Rep S w (.pointer pr) (rT m T))) (h0 : (decide (1 < wt (lT m T))) = false) :
  Calls Try.prog 64 #[.agg #[.bool m, .pointer p, .pointer pl, .pointer pr, .pointer pll, .pointer plr, .pointer prl, .pointer prr, .pointer pa, .pointer pb, .bool rt], .int .i64 11] w fun e w' => e = .returned (.bool false) ∧ Below w.heap.size w w' := by
 have hu111 := Try.underlying111
 have A0 := Am h0
 clear h0
 go_enter Try.func64, Try.ntmps64
 go_wp2_with (fail)
 refine (over_any _ _ _ (Hl.out.below ((Below.refl _ _).alloc (Nat.le_refl _) _))).mono ?_
 rw [A0.out]
 rintro e w' ⟨rfl, rfl⟩
 go_wp2
 go_ret
 exact ⟨rfl, (Below.refl _ _).alloc (Nat.le_refl _) _⟩
set_option maxHeartbeats 2000000 in
set_option maxRecDepth 100000 in
theorem can11_1 (m rt : Bool) (p pl pr pll plr prl prr pa pb : Option Addr) (T : Tr) (w : World) (Hl : Aside0 (Rep S w (.pointer pl) (lT m T))) (Hr : Aside0 (Rep S w (.pointer pr) (rT m T))) (h0 : (decide (1 < wt (lT m T))) = true) (h1 : (decide (1 < wt (rT m T))) = false) :
  Calls Try.prog 64 #[.agg #[.bool m, .pointer p, .pointer pl, .pointer pr, .pointer pll, .pointer plr, .pointer prl, .pointer prr, .pointer pa, .pointer pb, .bool rt], .int .i64 11] w fun e w' => e = .returned (.bool false) ∧ Below w.heap.size w w' := by
 have hu111 := Try.underlying111
 have A0 := Am h0
 have A1 := Am h1
 clear h0 h1
 go_enter Try.func64, Try.ntmps64
 go_wp2_with (fail)
 refine (over_any _ _ _ (Hl.out.below ((Below.refl _ _).alloc (Nat.le_refl _) _))).mono ?_
 rw [A0.out]
 rintro e w' ⟨rfl, rfl⟩
 go_wp2_with (fail)
 refine (over_any _ _ _ (Hr.out.below ((Below.refl _ _).alloc (Nat.le_refl _) _))).mono ?_
 rw [A1.out]
 rintro e w' ⟨rfl, rfl⟩
 go_wp2
 go_ret
 exact ⟨rfl, (Below.refl _ _).alloc (Nat.le_refl _) _⟩
set_option maxHeartbeats 2000000 in
set_option maxRecDepth 100000 in
theorem can11_2 (m rt : Bool) (p pl pr pll plr prl prr pa pb : Option Addr) (T : Tr) (w : World) (Hl : Aside0 (Rep S w (.pointer pl) (lT m T))) (Hr : Aside0 (Rep S w (.pointer pr) (rT m T))) (h0 : (decide (1 < wt (lT m T))) = true) (h1 : (decide (1 < wt (rT m T))) = true) :
  Calls Try.prog 64 #[.agg #[.bool m, .pointer p, .pointer pl, .pointer pr, .pointer pll, .pointer plr, .pointer prl, .pointer prr, .pointer pa, .pointer pb, .bool rt], .int .i64 11] w fun e w' => e = .returned (.bool true) ∧ Below w.heap.size w w' := by
 have hu111 := Try.underlying111
 have A0 := Am h0
 have A1 := Am h1
 clear h0 h1
 go_enter Try.func64, Try.ntmps64
 go_wp2_with (fail)
 refine (over_any _ _ _ (Hl.out.below ((Below.refl _ _).alloc (Nat.le_refl _) _))).mono ?_
 rw [A0.out]
 rintro e w' ⟨rfl, rfl⟩
 go_wp2_with (fail)
 refine (over_any _ _ _ (Hr.out.below ((Below.refl _ _).alloc (Nat.le_refl _) _))).mono ?_
 rw [A1.out]
 rintro e w' ⟨rfl, rfl⟩
 go_wp2
 go_ret
 exact ⟨rfl, (Below.refl _ _).alloc (Nat.le_refl _) _⟩
theorem can11_any (m rt : Bool) (p pl pr pll plr prl prr pa pb : Option Addr) (T : Tr) (w : World) (Hl : Aside0 (Rep S w (.pointer pl) (lT m T))) (Hr : Aside0 (Rep S w (.pointer pr) (rT m T))) :
  Calls Try.prog 64 #[.agg #[.bool m, .pointer p, .pointer pl, .pointer pr, .pointer pll, .pointer plr, .pointer prl, .pointer prr, .pointer pa, .pointer pb, .bool rt], .int .i64 11] w fun e w' => e = .returned (.bool (can11 m T)) ∧ Below w.heap.size w w' := by
 cases h0 : (decide (1 < wt (lT m T))) with
 | false =>
  rw [show can11 m T = false from by simp only [can11, h0, Bool.and_true, Bool.true_and, Bool.and_false, Bool.false_and, Bool.or_true, Bool.true_or, Bool.or_false, Bool.false_or]]
  exact can11_0 m rt p pl pr pll plr prl prr pa pb T w Hl Hr h0
 | true =>
  cases h1 : (decide (1 < wt (rT m T))) with
  | false =>
   rw [show can11 m T = false from by simp only [can11, h0, h1, Bool.and_true, Bool.true_and, Bool.and_false, Bool.false_and, Bool.or_true, Bool.true_or, Bool.or_false, Bool.false_or]]
   exact can11_1 m rt p pl pr pll plr prl prr pa pb T w Hl Hr h0 h1
  | true =>
   rw [show can11 m T = true from by simp only [can11, h0, h1, Bool.and_true, Bool.true_and, Bool.and_false, Bool.false_and, Bool.or_true, Bool.true_or, Bool.or_false, Bool.false_or]]
   exact can11_2 m rt p pl pr pll plr prl prr pa pb T w Hl Hr h0 h1
end Go.Proofs.Ytgleaefhflamnaa.T
namespace Go.Proofs.Ytgleaefhflamnaa.T
open Go.RowKit Go.Proofs.YtgleaefhflamnaaW.PrintWords Go.Proofs.YtgleaefhflamnaaW.PrintLast Go.Proofs.YtgleaefhflamnaaW.PrintMore
variable {S : Nat → Prop}
def can9 (m : Bool) (T : Tr) : Bool := (decide (1 < wt (lT m T))) && (wt (rT m T) == 1) && (wt (rT m (rT m T)) == 0)
set_option maxHeartbeats 2000000 in
set_option maxRecDepth 100000 in
theorem can9_0 (m rt : Bool) (p pl pr pll plr prl prr pa pb : Option Addr) (T : Tr) (w : World) (Hl : Aside0 (Rep S w (.pointer pl) (lT m T))) (Hr : Aside0 (Rep S w (.pointer pr) (rT m T))) (Hrr : Aside0 (Rep S w (.pointer prr) (rT m (rT m T)))) (h0 : (decide (1 < wt (lT m T))) = false) :
  Calls Try.prog 64 #[.agg #[.bool m, .pointer p, .pointer pl, .pointer pr, .pointer pll, .pointer plr, .pointer prl, .pointer prr, .pointer pa, .pointer pb, .bool rt], .int .i64 9] w fun e w' => e = .returned (.bool false) ∧ Below w.heap.size w w' := by
 have hu111 := Try.underlying111
 have A0 := Am h0
 clear h0
 go_enter Try.func64, Try.ntmps64
 go_wp2_with (fail)
 refine (over_any _ _ _ (Hl.out.below ((Below.refl _ _).alloc (Nat.le_refl _) _))).mono ?_
 rw [A0.out]
 rintro e w' ⟨rfl, rfl⟩
 go_wp2
 go_ret
 exact ⟨rfl, (Below.refl _ _).alloc (Nat.le_refl _) _⟩
set_option maxHeartbeats 2000000 in
set_option maxRecDepth 100000 in
theorem can9_1 (m rt : Bool) (p pl pr pll plr prl prr pa pb : Option Addr) (T : Tr) (w : World) (Hl : Aside0 (Rep S w (.pointer pl) (lT m T))) (Hr : Aside0 (Rep S w (.pointer pr) (rT m T))) (Hrr : Aside0 (Rep S w (.pointer prr) (rT m (rT m T)))) (h0 : (decide (1 < wt (lT m T))) = true) (h1 : (wt (rT m T) == 1) = false) :
  Calls Try.prog 64 #[.agg #[.bool m, .pointer p, .pointer pl, .pointer pr, .pointer pll, .pointer plr, .pointer prl, .pointer prr, .pointer pa, .pointer pb, .bool rt], .int .i64 9] w fun e w' => e = .returned (.bool false) ∧ Below w.heap.size w w' := by
 have hu111 := Try.underlying111
 have A0 := Am h0
 have A1 := Am h1
 clear h0 h1
 go_enter Try.func64, Try.ntmps64
 go_wp2_with (fail)
 refine (over_any _ _ _ (Hl.out.below ((Below.refl _ _).alloc (Nat.le_refl _) _))).mono ?_
 rw [A0.out]
 rintro e w' ⟨rfl, rfl⟩
 go_wp2_with (fail)
 refine (one_any _ _ _ (Hr.out.below ((Below.refl _ _).alloc (Nat.le_refl _) _))).mono ?_
 rw [A1.out]
 rintro e w' ⟨rfl, rfl⟩
 go_wp2
 go_ret
 exact ⟨rfl, (Below.refl _ _).alloc (Nat.le_refl _) _⟩
set_option maxHeartbeats 2000000 in
set_option maxRecDepth 100000 in
theorem can9_2 (m rt : Bool) (p pl pr pll plr prl prr pa pb : Option Addr) (T : Tr) (w : World) (Hl : Aside0 (Rep S w (.pointer pl) (lT m T))) (Hr : Aside0 (Rep S w (.pointer pr) (rT m T))) (Hrr : Aside0 (Rep S w (.pointer prr) (rT m (rT m T)))) (h0 : (decide (1 < wt (lT m T))) = true) (h1 : (wt (rT m T) == 1) = true) (h2 : (wt (rT m (rT m T)) == 0) = false) :
  Calls Try.prog 64 #[.agg #[.bool m, .pointer p, .pointer pl, .pointer pr, .pointer pll, .pointer plr, .pointer prl, .pointer prr, .pointer pa, .pointer pb, .bool rt], .int .i64 9] w fun e w' => e = .returned (.bool false) ∧ Below w.heap.size w w' := by
 have hu111 := Try.underlying111
 have A0 := Am h0
 have A1 := Am h1
 have A2 := Am h2
 clear h0 h1 h2
 go_enter Try.func64, Try.ntmps64
 go_wp2_with (fail)
 refine (over_any _ _ _ (Hl.out.below ((Below.refl _ _).alloc (Nat.le_refl _) _))).mono ?_
 rw [A0.out]
 rintro e w' ⟨rfl, rfl⟩
 go_wp2_with (fail)
 refine (one_any _ _ _ (Hr.out.below ((Below.refl _ _).alloc (Nat.le_refl _) _))).mono ?_
 rw [A1.out]
 rintro e w' ⟨rfl, rfl⟩
 go_wp2_with (fail)
 refine (red_any _ _ _ (Hrr.out.below ((Below.refl _ _).alloc (Nat.le_refl _) _))).mono ?_
 rw [A2.out]
 rintro e w' ⟨rfl, rfl⟩
 go_wp2
 go_ret
 exact ⟨rfl, (Below.refl _ _).alloc (Nat.le_refl _) _⟩
set_option maxHeartbeats 2000000 in
set_option maxRecDepth 100000 in
theorem can9_3 (m rt : Bool) (p pl pr pll plr prl prr pa pb : Option Addr) (T : Tr) (w : World) (Hl : Aside0 (Rep S w (.pointer pl) (lT m T))) (Hr : Aside0 (Rep S w (.pointer pr) (rT m T))) (Hrr : Aside0 (Rep S w (.pointer prr) (rT m (rT m T)))) (h0 : (decide (1 < wt (lT m T))) = true) (h1 : (wt (rT m T) == 1) = true) (h2 : (wt (rT m (rT m T)) == 0) = true) :
  Calls Try.prog 64 #[.agg #[.bool m, .pointer p, .pointer pl, .pointer pr, .pointer pll, .pointer plr, .pointer prl, .pointer prr, .pointer pa, .pointer pb, .bool rt], .int .i64 9] w fun e w' => e = .returned (.bool true) ∧ Below w.heap.size w w' := by
 have hu111 := Try.underlying111
 have A0 := Am h0
 have A1 := Am h1
 have A2 := Am h2
 clear h0 h1 h2
 go_enter Try.func64, Try.ntmps64
 go_wp2_with (fail)
 refine (over_any _ _ _ (Hl.out.below ((Below.refl _ _).alloc (Nat.le_refl _) _))).mono ?_
 rw [A0.out]
 rintro e w' ⟨rfl, rfl⟩
 go_wp2_with (fail)
 refine (one_any _ _ _ (Hr.out.below ((Below.refl _ _).alloc (Nat.le_refl _) _))).mono ?_
 rw [A1.out]
 rintro e w' ⟨rfl, rfl⟩
 go_wp2_with (fail)
 refine (red_any _ _ _ (Hrr.out.below ((Below.refl _ _).alloc (Nat.le_refl _) _))).mono ?_
 rw [A2.out]
 rintro e w' ⟨rfl, rfl⟩
 go_wp2
 go_ret
 exact ⟨rfl, (Below.refl _ _).alloc (Nat.le_refl _) _⟩
theorem can9_any (m rt : Bool) (p pl pr pll plr prl prr pa pb : Option Addr) (T : Tr) (w : World) (Hl : Aside0 (Rep S w (.pointer pl) (lT m T))) (Hr : Aside0 (Rep S w (.pointer pr) (rT m T))) (Hrr : Aside0 (Rep S w (.pointer prr) (rT m (rT m T)))) :
  Calls Try.prog 64 #[.agg #[.bool m, .pointer p, .pointer pl, .pointer pr, .pointer pll, .pointer plr, .pointer prl, .pointer prr, .pointer pa, .pointer pb, .bool rt], .int .i64 9] w fun e w' => e = .returned (.bool (can9 m T)) ∧ Below w.heap.size w w' := by
 cases h0 : (decide (1 < wt (lT m T))) with
 | false =>
  rw [show can9 m T = false from by simp only [can9, h0, Bool.and_true, Bool.true_and, Bool.and_false, Bool.false_and, Bool.or_true, Bool.true_or, Bool.or_false, Bool.false_or]]
  exact can9_0 m rt p pl pr pll plr prl prr pa pb T w Hl Hr Hrr h0
 | true =>
  cases h1 : (wt (rT m T) == 1) with
  | false =>
   rw [show can9 m T = false from by simp only [can9, h0, h1, Bool.and_true, Bool.true_and, Bool.and_false, Bool.false_and, Bool.or_true, Bool.true_or, Bool.or_false, Bool.false_or]]
   exact can9_1 m rt p pl pr pll plr prl prr pa pb T w Hl Hr Hrr h0 h1
  | true =>
   cases h2 : (wt (rT m (rT m T)) == 0) with
   | false =>
    rw [show can9 m T = false from by simp only [can9, h0, h1, h2, Bool.and_true, Bool.true_and, Bool.and_false, Bool.false_and, Bool.or_true, Bool.true_or, Bool.or_false, Bool.false_or]]
    exact can9_2 m rt p pl pr pll plr prl prr pa pb T w Hl Hr Hrr h0 h1 h2
   | true =>
    rw [show can9 m T = true from by simp only [can9, h0, h1, h2, Bool.and_true, Bool.true_and, Bool.and_false, Bool.false_and, Bool.or_true, Bool.true_or, Bool.or_false, Bool.false_or]]
    exact can9_3 m rt p pl pr pll plr prl prr pa pb T w Hl Hr Hrr h0 h1 h2
def can10 (m : Bool) (T : Tr) : Bool := (decide (1 < wt (lT m T))) && (wt (rT m T) == 1) && (wt (lT m (rT m T)) == 0) && (innerB (lT m (rT m T))) && (decide (0 < wt (rT m (rT m T))))
set_option maxHeartbeats 2000000 in
set_option maxRecDepth 100000 in
theorem can10_0 (m rt : Bool) (p pl pr pll plr prl prr pa pb : Option Addr) (T : Tr) (w : World) (Hl : Aside0 (Rep S w (.pointer pl) (lT m T))) (Hr : Aside0 (Rep S w (.pointer pr) (rT m T))) (Hrl : Aside0 (Rep S w (.pointer prl) (lT m (rT m T)))) (Hrr : Aside0 (Rep S w (.pointer prr) (rT m (rT m T)))) (h0 : (decide (1 < wt (lT m T))) = false) :
  Calls Try.prog 64 #[.agg #[.bool m, .pointer p, .pointer pl, .pointer pr, .pointer pll, .pointer plr, .pointer prl, .pointer prr, .pointer pa, .pointer pb, .bool rt], .int .i64 10] w fun e w' => e = .returned (.bool false) ∧ Below w.heap.size w w' := by
 have hu111 := Try.underlying111
 have A0 := Am h0
 clear h0
 go_enter Try.func64, Try.ntmps64
 go_wp2_with (fail)
 refine (over_any _ _ _ (Hl.out.below ((Below.refl _ _).alloc (Nat.le_refl _) _))).mono ?_
 rw [A0.out]
 rintro e w' ⟨rfl, rfl⟩
 go_wp2
 go_ret
 exact ⟨rfl, (Below.refl _ _).alloc (Nat.le_refl _) _⟩
set_option maxHeartbeats 2000000 in
set_option maxRecDepth 100000 in
theorem can10_1 (m rt : Bool) (p pl pr pll plr prl prr pa pb : Option Addr) (T : Tr) (w : World) (Hl : Aside0 (Rep S w (.pointer pl) (lT m T))) (Hr : Aside0 (Rep S w (.pointer pr) (rT m T))) (Hrl : Aside0 (Rep S w (.pointer prl) (lT m (rT m T)))) (Hrr : Aside0 (Rep S w (.pointer prr) (rT m (rT m T)))) (h0 : (decide (1 < wt (lT m T))) = true) (h1 : (wt (rT m T) == 1) = false) :
  Calls Try.prog 64 #[.agg #[.bool m, .pointer p, .pointer pl, .pointer pr, .pointer pll, .pointer plr, .pointer prl, .pointer prr, .pointer pa, .pointer pb, .bool rt], .int .i64 10] w fun e w' => e = .returned (.bool false) ∧ Below w.heap.size w w' := by
 have hu111 := Try.underlying111
 have A0 := Am h0
 have A1 := Am h1
 clear h0 h1
 go_enter Try.func64, Try.ntmps64
 go_wp2_with (fail)
 refine (over_any _ _ _ (Hl.out.below ((Below.refl _ _).alloc (Nat.le_refl _) _))).mono ?_
 rw [A0.out]
 rintro e w' ⟨rfl, rfl⟩
 go_wp2_with (fail)
 refine (one_any _ _ _ (Hr.out.below ((Below.refl _ _).alloc (Nat.le_refl _) _))).mono ?_
 rw [A1.out]
 rintro e w' ⟨rfl, rfl⟩
 go_wp2
 go_ret
 exact ⟨rfl, (Below.refl _ _).alloc (Nat.le_refl _) _⟩
set_option maxHeartbeats 2000000 in
set_option maxRecDepth 100000 in
theorem can10_2 (m rt : Bool) (p pl pr pll plr prl prr pa pb : Option Addr) (T : Tr) (w : World) (Hl : Aside0 (Rep S w (.pointer pl) (lT m T))) (Hr : Aside0 (Rep S w (.pointer pr) (rT m T))) (Hrl : Aside0 (Rep S w (.pointer prl) (lT m (rT m T)))) (Hrr : Aside0 (Rep S w (.pointer prr) (rT m (rT m T)))) (h0 : (decide (1 < wt (lT m T))) = true) (h1 : (wt (rT m T) == 1) = true) (h2 : (wt (lT m (rT m T)) == 0) = false) :
  Calls Try.prog 64 #[.agg #[.bool m, .pointer p, .pointer pl, .pointer pr, .pointer pll, .pointer plr, .pointer prl, .pointer prr, .pointer pa, .pointer pb, .bool rt], .int .i64 10] w fun e w' => e = .returned (.bool false) ∧ Below w.heap.size w w' := by
 have hu111 := Try.underlying111
 have A0 := Am h0
 have A1 := Am h1
 have A2 := Am h2
 clear h0 h1 h2
 go_enter Try.func64, Try.ntmps64
 go_wp2_with (fail)
 refine (over_any _ _ _ (Hl.out.below ((Below.refl _ _).alloc (Nat.le_refl _) _))).mono ?_
 rw [A0.out]
 rintro e w' ⟨rfl, rfl⟩
 go_wp2_with (fail)
 refine (one_any _ _ _ (Hr.out.below ((Below.refl _ _).alloc (Nat.le_refl _) _))).mono ?_
 rw [A1.out]
 rintro e w' ⟨rfl, rfl⟩
 go_wp2_with (fail)
 refine (red_any _ _ _ (Hrl.out.below ((Below.refl _ _).alloc (Nat.le_refl _) _))).mono ?_
 rw [A2.out]
 rintro e w' ⟨rfl, rfl⟩
 go_wp2
 go_ret
 exact ⟨rfl, (Below.refl _ _).alloc (Nat.le_refl _) _⟩
set_option maxHeartbeats 2000000 in
set_option maxRecDepth 100000 in
theorem can10_3 (m rt : Bool) (p pl pr pll plr prl prr pa pb : Option Addr) (T : Tr) (w : World) (Hl : Aside0 (Rep S w (.pointer pl) (lT m T))) (Hr : Aside0 (Rep S w (.pointer pr) (rT m T))) (Hrl : Aside0 (Rep S w (.pointer prl) (lT m (rT m T)))) (Hrr : Aside0 (Rep S w (.pointer prr) (rT m (rT m T)))) (h0 : (decide (1 < wt (lT m T))) = true) (h1 : (wt (rT m T) == 1) = true) (h2 : (wt (lT m (rT m T)) == 0) = true) (h3 : (innerB (lT m (rT m T))) = false) :
  Calls Try.prog 64 #[.agg #[.bool m, .pointer p, .pointer pl, .pointer pr, .pointer pll, .pointer plr, .pointer prl, .pointer prr, .pointer pa, .pointer pb, .bool rt], .int .i64 10] w fun e w' => e = .returned (.bool false) ∧ Below w.heap.size w w' := by
 have hu111 := Try.underlying111
 have A0 := Am h0
 have A1 := Am h1
 have A2 := Am h2
 have A3 := Am h3
 clear h0 h1 h2 h3
 go_enter Try.func64, Try.ntmps64
 go_wp2_with (fail)
 refine (over_any _ _ _ (Hl.out.below ((Below.refl _ _).alloc (Nat.le_refl _) _))).mono ?_
 rw [A0.out]
 rintro e w' ⟨rfl, rfl⟩
 go_wp2_with (fail)
 refine (one_any _ _ _ (Hr.out.below ((Below.refl _ _).alloc (Nat.le_refl _) _))).mono ?_
 rw [A1.out]
 rintro e w' ⟨rfl, rfl⟩
 go_wp2_with (fail)
 refine (red_any _ _ _ (Hrl.out.below ((Below.refl _ _).alloc (Nat.le_refl _) _))).mono ?_
 rw [A2.out]
 rintro e w' ⟨rfl, rfl⟩
 go_wp2_with (fail)
 refine (inner_any _ _ _ (Hrl.out.below ((Below.refl _ _).alloc (Nat.le_refl _) _))).mono ?_
 rw [A3.out]
 rintro e w' ⟨rfl, rfl⟩
 go_wp2
 go_ret
 exact ⟨rfl, (Below.refl _ _).alloc (Nat.le_refl _) _⟩
set_option maxHeartbeats 2000000 in
set_option maxRecDepth 100000 in
theorem can10_4 (m rt : Bool) (p pl pr pll plr prl prr pa pb : Option Addr) (T : Tr) (w : World) (Hl : Aside0 (Rep S w (.pointer pl) (lT m T))) (Hr : Aside0 (Rep S w (.pointer pr) (rT m T))) (Hrl : Aside0 (Rep S w (.pointer prl) (lT m (rT m T)))) (Hrr : Aside0 (Rep S w (.pointer prr) (rT m (rT m T)))) (h0 : (decide (1 < wt (lT m T))) = true) (h1 : (wt (rT m T) == 1) = true) (h2 : (wt (lT m (rT m T)) == 0) = true) (h3 : (innerB (lT m (rT m T))) = true) (h4 : (decide (0 < wt (rT m (rT m T)))) = false) :
  Calls Try.prog 64 #[.agg #[.bool m, .pointer p, .pointer pl, .pointer pr, .pointer pll, .pointer plr, .pointer prl, .pointer prr, .pointer pa, .pointer pb, .bool rt], .int .i64 10] w fun e w' => e = .returned (.bool false) ∧ Below w.heap.size w w' := by
 have hu111 := Try.underlying111
 have A0 := Am h0
 have A1 := Am h1
 have A2 := Am h2
 have A3 := Am h3
 have A4 := Am h4
 clear h0 h1 h2 h3 h4
 go_enter Try.func64, Try.ntmps64
 go_wp2_with (fail)
 refine (over_any _ _ _ (Hl.out.below ((Below.refl _ _).alloc (Nat.le_refl _) _))).mono ?_
 rw [A0.out]
 rintro e w' ⟨rfl, rfl⟩
 go_wp2_with (fail)
 refine (one_any _ _ _ (Hr.out.below ((Below.refl _ _).alloc (Nat.le_refl _) _))).mono ?_
 rw [A1.out]
 rintro e w' ⟨rfl, rfl⟩
 go_wp2_with (fail)
 refine (red_any _ _ _ (Hrl.out.below ((Below.refl _ _).alloc (Nat.le_refl _) _))).mono ?_
 rw [A2.out]
 rintro e w' ⟨rfl, rfl⟩
 go_wp2_with (fail)
 refine (inner_any _ _ _ (Hrl.out.below ((Below.refl _ _).alloc (Nat.le_refl _) _))).mono ?_
 rw [A3.out]
 rintro e w' ⟨rfl, rfl⟩
 go_wp2_with (fail)
 refine (black_any _ _ _ (Hrr.out.below ((Below.refl _ _).alloc (Nat.le_refl _) _))).mono ?_
 rw [A4.out]
 rintro e w' ⟨rfl, rfl⟩
 go_wp2
 go_ret
 exact ⟨rfl, (Below.refl _ _).alloc (Nat.le_refl _) _⟩
set_option maxHeartbeats 2000000 in
set_option maxRecDepth 100000 in
theorem can10_5 (m rt : Bool) (p pl pr pll plr prl prr pa pb : Option Addr) (T : Tr) (w : World) (Hl : Aside0 (Rep S w (.pointer pl) (lT m T))) (Hr : Aside0 (Rep S w (.pointer pr) (rT m T))) (Hrl : Aside0 (Rep S w (.pointer prl) (lT m (rT m T)))) (Hrr : Aside0 (Rep S w (.pointer prr) (rT m (rT m T)))) (h0 : (decide (1 < wt (lT m T))) = true) (h1 : (wt (rT m T) == 1) = true) (h2 : (wt (lT m (rT m T)) == 0) = true) (h3 : (innerB (lT m (rT m T))) = true) (h4 : (decide (0 < wt (rT m (rT m T)))) = true) :
  Calls Try.prog 64 #[.agg #[.bool m, .pointer p, .pointer pl, .pointer pr, .pointer pll, .pointer plr, .pointer prl, .pointer prr, .pointer pa, .pointer pb, .bool rt], .int .i64 10] w fun e w' => e = .returned (.bool true) ∧ Below w.heap.size w w' := by
 have hu111 := Try.underlying111
 have A0 := Am h0
 have A1 := Am h1
 have A2 := Am h2
 have A3 := Am h3
 have A4 := Am h4
 clear h0 h1 h2 h3 h4
 go_enter Try.func64, Try.ntmps64
 go_wp2_with (fail)
 refine (over_any _ _ _ (Hl.out.below ((Below.refl _ _).alloc (Nat.le_refl _) _))).mono ?_
 rw [A0.out]
 rintro e w' ⟨rfl, rfl⟩
 go_wp2_with (fail)
 refine (one_any _ _ _ (Hr.out.below ((Below.refl _ _).alloc (Nat.le_refl _) _))).mono ?_
 rw [A1.out]
 rintro e w' ⟨rfl, rfl⟩
 go_wp2_with (fail)
 refine (red_any _ _ _ (Hrl.out.below ((Below.refl _ _).alloc (Nat.le_refl _) _))).mono ?_
 rw [A2.out]
 rintro e w' ⟨rfl, rfl⟩
 go_wp2_with (fail)
 refine (inner_any _ _ _ (Hrl.out.below ((Below.refl _ _).alloc (Nat.le_refl _) _))).mono ?_
 rw [A3.out]
 rintro e w' ⟨rfl, rfl⟩
 go_wp2_with (fail)
 refine (black_any _ _ _ (Hrr.out.below ((Below.refl _ _).alloc (Nat.le_refl _) _))).mono ?_
 rw [A4.out]
 rintro e w' ⟨rfl, rfl⟩
 go_wp2
 go_ret
 exact ⟨rfl, (Below.refl _ _).alloc (Nat.le_refl _) _⟩
theorem can10_any (m rt : Bool) (p pl pr pll plr prl prr pa pb : Option Addr) (T : Tr) (w : World) (Hl : Aside0 (Rep S w (.pointer pl) (lT m T))) (Hr : Aside0 (Rep S w (.pointer pr) (rT m T))) (Hrl : Aside0 (Rep S w (.pointer prl) (lT m (rT m T)))) (Hrr : Aside0 (Rep S w (.pointer prr) (rT m (rT m T)))) :
  Calls Try.prog 64 #[.agg #[.bool m, .pointer p, .pointer pl, .pointer pr, .pointer pll, .pointer plr, .pointer prl, .pointer prr, .pointer pa, .pointer pb, .bool rt], .int .i64 10] w fun e w' => e = .returned (.bool (can10 m T)) ∧ Below w.heap.size w w' := by
 cases h0 : (decide (1 < wt (lT m T))) with
 | false =>
  rw [show can10 m T = false from by simp only [can10, h0, Bool.and_true, Bool.true_and, Bool.and_false, Bool.false_and, Bool.or_true, Bool.true_or, Bool.or_false, Bool.false_or]]
  exact can10_0 m rt p pl pr pll plr prl prr pa pb T w Hl Hr Hrl Hrr h0
 | true =>
  cases h1 : (wt (rT m T) == 1) with
  | false =>
   rw [show can10 m T = false from by simp only [can10, h0, h1, Bool.and_true, Bool.true_and, Bool.and_false, Bool.false_and, Bool.or_true, Bool.true_or, Bool.or_false, Bool.false_or]]
   exact can10_1 m rt p pl pr pll plr prl prr pa pb T w Hl Hr Hrl Hrr h0 h1
  | true =>
   cases h2 : (wt (lT m (rT m T)) == 0) with
   | false =>
    rw [show can10 m T = false from by simp only [can10, h0, h1, h2, Bool.and_true, Bool.true_and, Bool.and_false, Bool.false_and, Bool.or_true, Bool.true_or, Bool.or_false, Bool.false_or]]
    exact can10_2 m rt p pl pr pll plr prl prr pa pb T w Hl Hr Hrl Hrr h0 h1 h2
   | true =>
    cases h3 : (innerB (lT m (rT m T))) with
    | false =>
     rw [show can10 m T = false from by simp only [can10, h0, h1, h2, h3, Bool.and_true, Bool.true_and, Bool.and_false, Bool.false_and, Bool.or_true, Bool.true_or, Bool.or_false, Bool.false_or]]
     exact can10_3 m rt p pl pr pll plr prl prr pa pb T w Hl Hr Hrl Hrr h0 h1 h2 h3
    | true =>
     cases h4 : (decide (0 < wt (rT m (rT m T)))) with
     | false =>
      rw [show can10 m T = false from by simp only [can10, h0, h1, h2, h3, h4, Bool.and_true, Bool.true_and, Bool.and_false, Bool.false_and, Bool.or_true, Bool.true_or, Bool.or_false, Bool.false_or]]
      exact can10_4 m rt p pl pr pll plr prl prr pa pb T w Hl Hr Hrl Hrr h0 h1 h2 h3 h4
     | true =>
      rw [show can10 m T = true from by simp only [can10, h0, h1, h2, h3, h4, Bool.and_true, Bool.true_and, Bool.and_false, Bool.false_and, Bool.or_true, Bool.true_or, Bool.or_false, Bool.false_or]]
      exact can10_5 m rt p pl pr pll plr prl prr pa pb T w Hl Hr Hrl Hrr h0 h1 h2 h3 h4
def can5 (m : Bool) (T : Tr) : Bool := (decide (1 < wt (lT m T))) && (wt (rT m T) == 0) && (decide (1 < wt (lT m (rT m T))))
set_option maxHeartbeats 2000000 in
set_option maxRecDepth 100000 in
theorem can5_0 (m rt : Bool) (p pl pr pll plr prl prr pa pb : Option Addr) (T : Tr) (w : World) (Hl : Aside0 (Rep S w (.pointer pl) (lT m T))) (Hr : Aside0 (Rep S w (.pointer pr) (rT m T))) (Hrl : Aside0 (Rep S w (.pointer prl) (lT m (rT m T)))) (h0 : (decide (1 < wt (lT m T))) = false) :
  Calls Try.prog 64 #[.agg #[.bool m, .pointer p, .pointer pl, .pointer pr, .pointer pll, .pointer plr, .pointer prl, .pointer prr, .pointer pa, .pointer pb, .bool rt], .int .i64 5] w fun e w' => e = .returned (.bool false) ∧ Below w.heap.size w w' := by
 have hu111 := Try.underlying111
 have A0 := Am h0
 clear h0
 go_enter Try.func64, Try.ntmps64
 go_wp2_with (fail)
 refine (over_any _ _ _ (Hl.out.below ((Below.refl _ _).alloc (Nat.le_refl _) _))).mono ?_
 rw [A0.out]
 rintro e w' ⟨rfl, rfl⟩
 go_wp2
 go_ret
 exact ⟨rfl, (Below.refl _ _).alloc (Nat.le_refl _) _⟩
set_option maxHeartbeats 2000000 in
set_option maxRecDepth 100000 in
theorem can5_1 (m rt : Bool) (p pl pr pll plr prl prr pa pb : Option Addr) (T : Tr) (w : World) (Hl : Aside0 (Rep S w (.pointer pl) (lT m T))) (Hr : Aside0 (Rep S w (.pointer pr) (rT m T))) (Hrl : Aside0 (Rep S w (.pointer prl) (lT m (rT m T)))) (h0 : (decide (1 < wt (lT m T))) = true) (h1 : (wt (rT m T) == 0) = false) :
  Calls Try.prog 64 #[.agg #[.bool m, .pointer p, .pointer pl, .pointer pr, .pointer pll, .pointer plr, .pointer prl, .pointer prr, .pointer pa, .pointer pb, .bool rt], .int .i64 5] w fun e w' => e = .returned (.bool false) ∧ Below w.heap.size w w' := by
 have hu111 := Try.underlying111
 have A0 := Am h0
 have A1 := Am h1
 clear h0 h1
 go_enter Try.func64, Try.ntmps64
 go_wp2_with (fail)
 refine (over_any _ _ _ (Hl.out.below ((Below.refl _ _).alloc (Nat.le_refl _) _))).mono ?_
 rw [A0.out]
 rintro e w' ⟨rfl, rfl⟩
 go_wp2_with (fail)
 refine (red_any _ _ _ (Hr.out.below ((Below.refl _ _).alloc (Nat.le_refl _) _))).mono ?_
 rw [A1.out]
 rintro e w' ⟨rfl, rfl⟩
 go_wp2
 go_ret
 exact ⟨rfl, (Below.refl _ _).alloc (Nat.le_refl _) _⟩
set_option maxHeartbeats 2000000 in
set_option maxRecDepth 100000 in
theorem can5_2 (m rt : Bool) (p pl pr pll plr prl prr pa pb : Option Addr) (T : Tr) (w : World) (Hl : Aside0 (Rep S w (.pointer pl) (lT m T))) (Hr : Aside0 (Rep S w (.pointer pr) (rT m T))) (Hrl : Aside0 (Rep S w (.pointer prl) (lT m (rT m T)))) (h0 : (decide (1 < wt (lT m T))) = true) (h1 : (wt (rT m T) == 0) = true) (h2 : (decide (1 < wt (lT m (rT m T)))) = false) :
  Calls Try.prog 64 #[.agg #[.bool m, .pointer p, .pointer pl, .pointer pr, .pointer pll, .pointer plr, .pointer prl, .pointer prr, .pointer pa, .pointer pb, .bool rt], .int .i64 5] w fun e w' => e = .returned (.bool false) ∧ Below w.heap.size w w' := by
 have hu111 := Try.underlying111
 have A0 := Am h0
 have A1 := Am h1
 have A2 := Am h2
 clear h0 h1 h2
 go_enter Try.func64, Try.ntmps64
 go_wp2_with (fail)
 refine (over_any _ _ _ (Hl.out.below ((Below.refl _ _).alloc (Nat.le_refl _) _))).mono ?_
 rw [A0.out]
 rintro e w' ⟨rfl, rfl⟩
 go_wp2_with (fail)
 refine (red_any _ _ _ (Hr.out.below ((Below.refl _ _).alloc (Nat.le_refl _) _))).mono ?_
 rw [A1.out]
 rintro e w' ⟨rfl, rfl⟩
 go_wp2_with (fail)
 refine (over_any _ _ _ (Hrl.out.below ((Below.refl _ _).alloc (Nat.le_refl _) _))).mono ?_
 rw [A2.out]
 rintro e w' ⟨rfl, rfl⟩
 go_wp2
 go_ret
 exact ⟨rfl, (Below.refl _ _).alloc (Nat.le_refl _) _⟩
set_option maxHeartbeats 2000000 in
set_option maxRecDepth 100000 in
theorem can5_3 (m rt : Bool) (p pl pr pll plr prl prr pa pb : Option Addr) (T : Tr) (w : World) (Hl : Aside0 (Rep S w (.pointer pl) (lT m T))) (Hr : Aside0 (Rep S w (.pointer pr) (rT m T))) (Hrl : Aside0 (Rep S w (.pointer prl) (lT m (rT m T)))) (h0 : (decide (1 < wt (lT m T))) = true) (h1 : (wt (rT m T) == 0) = true) (h2 : (decide (1 < wt (lT m (rT m T)))) = true) :
  Calls Try.prog 64 #[.agg #[.bool m, .pointer p, .pointer pl, .pointer pr, .pointer pll, .pointer plr, .pointer prl, .pointer prr, .pointer pa, .pointer pb, .bool rt], .int .i64 5] w fun e w' => e = .returned (.bool true) ∧ Below w.heap.size w w' := by
 have hu111 := Try.underlying111
 have A0 := Am h0
 have A1 := Am h1
 have A2 := Am h2
 clear h0 h1 h2
 go_enter Try.func64, Try.ntmps64
 go_wp2_with (fail)
 refine (over_any _ _ _ (Hl.out.below ((Below.refl _ _).alloc (Nat.le_refl _) _))).mono ?_
 rw [A0.out]
 rintro e w' ⟨rfl, rfl⟩
 go_wp2_with (fail)
 refine (red_any _ _ _ (Hr.out.below ((Below.refl _ _).alloc (Nat.le_refl _) _))).mono ?_
 rw [A1.out]
 rintro e w' ⟨rfl, rfl⟩
 go_wp2_with (fail)
 refine (over_any _ _ _ (Hrl.out.below ((Below.refl _ _).alloc (Nat.le_refl _) _))).mono ?_
 rw [A2.out]
 rintro e w' ⟨rfl, rfl⟩
 go_wp2
 go_ret
 exact ⟨rfl, (Below.refl _ _).alloc (Nat.le_refl _) _⟩
theorem can5_any (m rt : Bool) (p pl pr pll plr prl prr pa pb : Option Addr) (T : Tr) (w : World) (Hl : Aside0 (Rep S w (.pointer pl) (lT m T))) (Hr : Aside0 (Rep S w (.pointer pr) (rT m T))) (Hrl : Aside0 (Rep S w (.pointer prl) (lT m (rT m T)))) :
  Calls Try.prog 64 #[.agg #[.bool m, .pointer p, .pointer pl, .pointer pr, .pointer pll, .pointer plr, .pointer prl, .pointer prr, .pointer pa, .pointer pb, .bool rt], .int .i64 5] w fun e w' => e = .returned (.bool (can5 m T)) ∧ Below w.heap.size w w' := by
 cases h0 : (decide (1 < wt (lT m T))) with
 | false =>
  rw [show can5 m T = false from by simp only [can5, h0, Bool.and_true, Bool.true_and, Bool.and_false, Bool.false_and, Bool.or_true, Bool.true_or, Bool.or_false, Bool.false_or]]
  exact can5_0 m rt p pl pr pll plr prl prr pa pb T w Hl Hr Hrl h0
 | true =>
  cases h1 : (wt (rT m T) == 0) with
  | false =>
   rw [show can5 m T = false from by simp only [can5, h0, h1, Bool.and_true, Bool.true_and, Bool.and_false, Bool.false_and, Bool.or_true, Bool.true_or, Bool.or_false, Bool.false_or]]
   exact can5_1 m rt p pl pr pll plr prl prr pa pb T w Hl Hr Hrl h0 h1
  | true =>
   cases h2 : (decide (1 < wt (lT m (rT m T)))) with
   | false =>
    rw [show can5 m T = false from by simp only [can5, h0, h1, h2, Bool.and_true, Bool.true_and, Bool.and_false, Bool.false_and, Bool.or_true, Bool.true_or, Bool.or_false, Bool.false_or]]
    exact can5_2 m rt p pl pr pll plr prl prr pa pb T w Hl Hr Hrl h0 h1 h2
   | true =>
    rw [show can5 m T = true from by simp only [can5, h0, h1, h2, Bool.and_true, Bool.true_and, Bool.and_false, Bool.false_and, Bool.or_true, Bool.true_or, Bool.or_false, Bool.false_or]]
    exact can5_3 m rt p pl pr pll plr prl prr pa pb T w Hl Hr Hrl h0 h1 h2
end Go.Proofs.Ytgleaefhflamnaa.T
namespace Go.Proofs.Ytgleaefhflamnaa.T
open Go.RowKit Go.Proofs.YtgleaefhflamnaaW.PrintWords Go.Proofs.YtgleaefhflamnaaW.PrintLast Go.Proofs.YtgleaefhflamnaaW.PrintMore
variable {S : Nat → Prop}
def can6 (m : Bool) (T : Tr) : Bool := (decide (1 < wt (lT m T))) && (wt (rT m T) == 0) && (wt (lT m (rT m T)) == 1) && (decide (0 < wt (lT m (lT m (rT m T))))) && (decide (0 < wt (rT m (lT m (rT m T)))))
set_option maxHeartbeats 2000000 in
set_option maxRecDepth 100000 in
theorem can6_0 (m rt : Bool) (p pl pr pll plr prl prr pa pb : Option Addr) (T : Tr) (w : World) (Ha : Aside0 (Rep S w (.pointer pa) (lT m (lT m (rT m T))))) (Hb : Aside0 (Rep S w (.pointer pb) (rT m (lT m (rT m T))))) (Hl : Aside0 (Rep S w (.pointer pl) (lT m T))) (Hr : Aside0 (Rep S w (.pointer pr) (rT m T))) (Hrl : Aside0 (Rep S w (.pointer prl) (lT m (rT m T)))) (h0 : (decide (1 < wt (lT m T))) = false) :
  Calls Try.prog 64 #[.agg #[.bool m, .pointer p, .pointer pl, .pointer pr, .pointer pll, .pointer plr, .pointer prl, .pointer prr, .pointer pa, .pointer pb, .bool rt], .int .i64 6] w fun e w' => e = .returned (.bool false) ∧ Below w.heap.size w w' := by
 have hu111 := Try.underlying111
 have A0 := Am h0
 clear h0
 go_enter Try.func64, Try.ntmps64
 go_wp2_with (fail)
 refine (over_any _ _ _ (Hl.out.below ((Below.refl _ _).alloc (Nat.le_refl _) _))).mono ?_
 rw [A0.out]
 rintro e w' ⟨rfl, rfl⟩
 go_wp2
 go_ret
 exact ⟨rfl, (Below.refl _ _).alloc (Nat.le_refl _) _⟩
set_option maxHeartbeats 2000000 in
set_option maxRecDepth 100000 in
theorem can6_1 (m rt : Bool) (p pl pr pll plr prl prr pa pb : Option Addr) (T : Tr) (w : World) (Ha : Aside0 (Rep S w (.pointer pa) (lT m (lT m (rT m T))))) (Hb : Aside0 (Rep S w (.pointer pb) (rT m (lT m (rT m T))))) (Hl : Aside0 (Rep S w (.pointer pl) (lT m T))) (Hr : Aside0 (Rep S w (.pointer pr) (rT m T))) (Hrl : Aside0 (Rep S w (.pointer prl) (lT m (rT m T)))) (h0 : (decide (1 < wt (lT m T))) = true) (h1 : (wt (rT m T) == 0) = false) :
  Calls Try.prog 64 #[.agg #[.bool m, .pointer p, .pointer pl, .pointer pr, .pointer pll, .pointer plr, .pointer prl, .pointer prr, .pointer pa, .pointer pb, .bool rt], .int .i64 6] w fun e w' => e = .returned (.bool false) ∧ Below w.heap.size w w' := by
 have hu111 := Try.underlying111
 have A0 := Am h0
 have A1 := Am h1
 clear h0 h1
 go_enter Try.func64, Try.ntmps64
 go_wp2_with (fail)
 refine (over_any _ _ _ (Hl.out.below ((Below.refl _ _).alloc (Nat.le_refl _) _))).mono ?_
 rw [A0.out]
 rintro e w' ⟨rfl, rfl⟩
 go_wp2_with (fail)
 refine (red_any _ _ _ (Hr.out.below ((Below.refl _ _).alloc (Nat.le_refl _) _))).mono ?_
 rw [A1.out]
 rintro e w' ⟨rfl, rfl⟩
 go_wp2
 go_ret
 exact ⟨rfl, (Below.refl _ _).alloc (Nat.le_refl _) _⟩
set_option maxHeartbeats 2000000 in
set_option maxRecDepth 100000 in
theorem can6_2 (m rt : Bool) (p pl pr pll plr prl prr pa pb : Option Addr) (T : Tr) (w : World) (Ha : Aside0 (Rep S w (.pointer pa) (lT m (lT m (rT m T))))) (Hb : Aside0 (Rep S w (.pointer pb) (rT m (lT m (rT m T))))) (Hl : Aside0 (Rep S w (.pointer pl) (lT m T))) (Hr : Aside0 (Rep S w (.pointer pr) (rT m T))) (Hrl : Aside0 (Rep S w (.pointer prl) (lT m (rT m T)))) (h0 : (decide (1 < wt (lT m T))) = true) (h1 : (wt (rT m T) == 0) = true) (h2 : (wt (lT m (rT m T)) == 1) = false) :
  Calls Try.prog 64 #[.agg #[.bool m, .pointer p, .pointer pl, .pointer pr, .pointer pll, .pointer plr, .pointer prl, .pointer prr, .pointer pa, .pointer pb, .bool rt], .int .i64 6] w fun e w' => e = .returned (.bool false) ∧ Below w.heap.size w w' := by
 have hu111 := Try.underlying111
 have A0 := Am h0
 have A1 := Am h1
 have A2 := Am h2
 clear h0 h1 h2
 go_enter Try.func64, Try.ntmps64
 go_wp2_with (fail)
 refine (over_any _ _ _ (Hl.out.below ((Below.refl _ _).alloc (Nat.le_refl _) _))).mono ?_
 rw [A0.out]
 rintro e w' ⟨rfl, rfl⟩
 go_wp2_with (fail)
 refine (red_any _ _ _ (Hr.out.below ((Below.refl _ _).alloc (Nat.le_refl _) _))).mono ?_
 rw [A1.out]
 rintro e w' ⟨rfl, rfl⟩
 go_wp2_with (fail)
 refine (one_any _ _ _ (Hrl.out.below ((Below.refl _ _).alloc (Nat.le_refl _) _))).mono ?_
 rw [A2.out]
 rintro e w' ⟨rfl, rfl⟩
 go_wp2
 go_ret
 exact ⟨rfl, (Below.refl _ _).alloc (Nat.le_refl _) _⟩
set_option maxHeartbeats 2000000 in
set_option maxRecDepth 100000 in
theorem can6_3 (m rt : Bool) (p pl pr pll plr prl prr pa pb : Option Addr) (T : Tr) (w : World) (Ha : Aside0 (Rep S w (.pointer pa) (lT m (lT m (rT m T))))) (Hb : Aside0 (Rep S w (.pointer pb) (rT m (lT m (rT m T))))) (Hl : Aside0 (Rep S w (.pointer pl) (lT m T))) (Hr : Aside0 (Rep S w (.pointer pr) (rT m T))) (Hrl : Aside0 (Rep S w (.pointer prl) (lT m (rT m T)))) (h0 : (decide (1 < wt (lT m T))) = true) (h1 : (wt (rT m T) == 0) = true) (h2 : (wt (lT m (rT m T)) == 1) = true) (h3 : (decide (0 < wt (lT m (lT m (rT m T))))) = false) :
  Calls Try.prog 64 #[.agg #[.bool m, .pointer p, .pointer pl, .pointer pr, .pointer pll, .pointer plr, .pointer prl, .pointer prr, .pointer pa, .pointer pb, .bool rt], .int .i64 6] w fun e w' => e = .returned (.bool false) ∧ Below w.heap.size w w' := by
 have hu111 := Try.underlying111
 have A0 := Am h0
 have A1 := Am h1
 have A2 := Am h2
 have A3 := Am h3
 clear h0 h1 h2 h3
 go_enter Try.func64, Try.ntmps64
 go_wp2_with (fail)
 refine (over_any _ _ _ (Hl.out.below ((Below.refl _ _).alloc (Nat.le_refl _) _))).mono ?_
 rw [A0.out]
 rintro e w' ⟨rfl, rfl⟩
 go_wp2_with (fail)
 refine (red_any _ _ _ (Hr.out.below ((Below.refl _ _).alloc (Nat.le_refl _) _))).mono ?_
 rw [A1.out]
 rintro e w' ⟨rfl, rfl⟩
 go_wp2_with (fail)
 refine (one_any _ _ _ (Hrl.out.below ((Below.refl _ _).alloc (Nat.le_refl _) _))).mono ?_
 rw [A2.out]
 rintro e w' ⟨rfl, rfl⟩
 go_wp2_with (fail)
 refine (black_any _ _ _ (Ha.out.below ((Below.refl _ _).alloc (Nat.le_refl _) _))).mono ?_
 rw [A3.out]
 rintro e w' ⟨rfl, rfl⟩
 go_wp2
 go_ret
 exact ⟨rfl, (Below.refl _ _).alloc (Nat.le_refl _) _⟩
set_option maxHeartbeats 2000000 in
set_option maxRecDepth 100000 in
theorem can6_4 (m rt : Bool) (p pl pr pll plr prl prr pa pb : Option Addr) (T : Tr) (w : World) (Ha : Aside0 (Rep S w (.pointer pa) (lT m (lT m (rT m T))))) (Hb : Aside0 (Rep S w (.pointer pb) (rT m (lT m (rT m T))))) (Hl : Aside0 (Rep S w (.pointer pl) (lT m T))) (Hr : Aside0 (Rep S w (.pointer pr) (rT m T))) (Hrl : Aside0 (Rep S w (.pointer prl) (lT m (rT m T)))) (h0 : (decide (1 < wt (lT m T))) = true) (h1 : (wt (rT m T) == 0) = true) (h2 : (wt (lT m (rT m T)) == 1) = true) (h3 : (decide (0 < wt (lT m (lT m (rT m T))))) = true) (h4 : (decide (0 < wt (rT m (lT m (rT m T))))) = false) :
  Calls Try.prog 64 #[.agg #[.bool m, .pointer p, .pointer pl, .pointer pr, .pointer pll, .pointer plr, .pointer prl, .pointer prr, .pointer pa, .pointer pb, .bool rt], .int .i64 6] w fun e w' => e = .returned (.bool false) ∧ Below w.heap.size w w' := by
 have hu111 := Try.underlying111
 have A0 := Am h0
 have A1 := Am h1
 have A2 := Am h2
 have A3 := Am h3
 have A4 := Am h4
 clear h0 h1 h2 h3 h4
 go_enter Try.func64, Try.ntmps64
 go_wp2_with (fail)
 refine (over_any _ _ _ (Hl.out.below ((Below.refl _ _).alloc (Nat.le_refl _) _))).mono ?_
 rw [A0.out]
 rintro e w' ⟨rfl, rfl⟩
 go_wp2_with (fail)
 refine (red_any _ _ _ (Hr.out.below ((Below.refl _ _).alloc (Nat.le_refl _) _))).mono ?_
 rw [A1.out]
 rintro e w' ⟨rfl, rfl⟩
 go_wp2_with (fail)
 refine (one_any _ _ _ (Hrl.out.below ((Below.refl _ _).alloc (Nat.le_refl _) _))).mono ?_
 rw [A2.out]
 rintro e w' ⟨rfl, rfl⟩
 go_wp2_with (fail)
 refine (black_any _ _ _ (Ha.out.below ((Below.refl _ _).alloc (Nat.le_refl _) _))).mono ?_
 rw [A3.out]
 rintro e w' ⟨rfl, rfl⟩
 go_wp2_with (fail)
 refine (black_any _ _ _ (Hb.out.below ((Below.refl _ _).alloc (Nat.le_refl _) _))).mono ?_
 rw [A4.out]
 rintro e w' ⟨rfl, rfl⟩
 go_wp2
 go_ret
 exact ⟨rfl, (Below.refl _ _).alloc (Nat.le_refl _) _⟩
set_option maxHeartbeats 2000000 in
set_option maxRecDepth 100000 in
theorem can6_5 (m rt : Bool) (p pl pr pll plr prl prr pa pb : Option Addr) (T : Tr) (w : World) (Ha : Aside0 (Rep S w (.pointer pa) (lT m (lT m (rT m T))))) (Hb : Aside0 (Rep S w (.pointer pb) (rT m (lT m (rT m T))))) (Hl : Aside0 (Rep S w (.pointer pl) (lT m T))) (Hr : Aside0 (Rep S w (.pointer pr) (rT m T))) (Hrl : Aside0 (Rep S w (.pointer prl) (lT m (rT m T)))) (h0 : (decide (1 < wt (lT m T))) = true) (h1 : (wt (rT m T) == 0) = true) (h2 : (wt (lT m (rT m T)) == 1) = true) (h3 : (decide (0 < wt (lT m (lT m (rT m T))))) = true) (h4 : (decide (0 < wt (rT m (lT m (rT m T))))) = true) :
  Calls Try.prog 64 #[.agg #[.bool m, .pointer p, .pointer pl, .pointer pr, .pointer pll, .pointer plr, .pointer prl, .pointer prr, .pointer pa, .pointer pb, .bool rt], .int .i64 6] w fun e w' => e = .returned (.bool true) ∧ Below w.heap.size w w' := by
 have hu111 := Try.underlying111
 have A0 := Am h0
 have A1 := Am h1
 have A2 := Am h2
 have A3 := Am h3
 have A4 := Am h4
 clear h0 h1 h2 h3 h4
 go_enter Try.func64, Try.ntmps64
 go_wp2_with (fail)
 refine (over_any _ _ _ (Hl.out.below ((Below.refl _ _).alloc (Nat.le_refl _) _))).mono ?_
 rw [A0.out]
 rintro e w' ⟨rfl, rfl⟩
 go_wp2_with (fail)
 refine (red_any _ _ _ (Hr.out.below ((Below.refl _ _).alloc (Nat.le_refl _) _))).mono ?_
 rw [A1.out]
 rintro e w' ⟨rfl, rfl⟩
 go_wp2_with (fail)
 refine (one_any _ _ _ (Hrl.out.below ((Below.refl _ _).alloc (Nat.le_refl _) _))).mono ?_
 rw [A2.out]
 rintro e w' ⟨rfl, rfl⟩
 go_wp2_with (fail)
 refine (black_any _ _ _ (Ha.out.below ((Below.refl _ _).alloc (Nat.le_refl _) _))).mono ?_
 rw [A3.out]
 rintro e w' ⟨rfl, rfl⟩
 go_wp2_with (fail)
 refine (black_any _ _ _ (Hb.out.below ((Below.refl _ _).alloc (Nat.le_refl _) _))).mono ?_
 rw [A4.out]
 rintro e w' ⟨rfl, rfl⟩
 go_wp2
 go_ret
 exact ⟨rfl, (Below.refl _ _).alloc (Nat.le_refl _) _⟩
theorem can6_any (m rt : Bool) (p pl pr pll plr prl prr pa pb : Option Addr) (T : Tr) (w : World) (Ha : Aside0 (Rep S w (.pointer pa) (lT m (lT m (rT m T))))) (Hb : Aside0 (Rep S w (.pointer pb) (rT m (lT m (rT m T))))) (Hl : Aside0 (Rep S w (.pointer pl) (lT m T))) (Hr : Aside0 (Rep S w (.pointer pr) (rT m T))) (Hrl : Aside0 (Rep S w (.pointer prl) (lT m (rT m T)))) :
  Calls Try.prog 64 #[.agg #[.bool m, .pointer p, .pointer pl, .pointer pr, .pointer pll, .pointer plr, .pointer prl, .pointer prr, .pointer pa, .pointer pb, .bool rt], .int .i64 6] w fun e w' => e = .returned (.bool (can6 m T)) ∧ Below w.heap.size w w' := by
 cases h0 : (decide (1 < wt (lT m T))) with
 | false =>
  rw [show can6 m T = false from by simp only [can6, h0, Bool.and_true, Bool.true_and, Bool.and_false, Bool.false_and, Bool.or_true, Bool.true_or, Bool.or_false, Bool.false_or]]
  exact can6_0 m rt p pl pr pll plr prl prr pa pb T w Ha Hb Hl Hr Hrl h0
 | true =>
  cases h1 : (wt (rT m T) == 0) with
  | false =>
   rw [show can6 m T = false from by simp only [can6, h0, h1, Bool.and_true, Bool.true_and, Bool.and_false, Bool.false_and, Bool.or_true, Bool.true_or, Bool.or_false, Bool.false_or]]
   exact can6_1 m rt p pl pr pll plr prl prr pa pb T w Ha Hb Hl Hr Hrl h0 h1
  | true =>
   cases h2 : (wt (lT m (rT m T)) == 1) with
   | false =>
    rw [show can6 m T = false from by simp only [can6, h0, h1, h2, Bool.and_true, Bool.true_and, Bool.and_false, Bool.false_and, Bool.or_true, Bool.true_or, Bool.or_false, Bool.false_or]]
    exact can6_2 m rt p pl pr pll plr prl prr pa pb T w Ha Hb Hl Hr Hrl h0 h1 h2
   | true =>
    cases h3 : (decide (0 < wt (lT m (lT m (rT m T))))) with
    | false =>
     rw [show can6 m T = false from by simp only [can6, h0, h1, h2, h3, Bool.and_true, Bool.true_and, Bool.and_false, Bool.false_and, Bool.or_true, Bool.true_or, Bool.or_false, Bool.false_or]]
     exact can6_3 m rt p pl pr pll plr prl prr pa pb T w Ha Hb Hl Hr Hrl h0 h1 h2 h3
    | true =>
     cases h4 : (decide (0 < wt (rT m (lT m (rT m T))))) with
     | false =>
      rw [show can6 m T = false from by simp only [can6, h0, h1, h2, h3, h4, Bool.and_true, Bool.true_and, Bool.and_false, Bool.false_and, Bool.or_true, Bool.true_or, Bool.or_false, Bool.false_or]]
      exact can6_4 m rt p pl pr pll plr prl prr pa pb T w Ha Hb Hl Hr Hrl h0 h1 h2 h3 h4
     | true =>
      rw [show can6 m T = true from by simp only [can6, h0, h1, h2, h3, h4, Bool.and_true, Bool.true_and, Bool.and_false, Bool.false_and, Bool.or_true, Bool.true_or, Bool.or_false, Bool.false_or]]
      exact can6_5 m rt p pl pr pll plr prl prr pa pb T w Ha Hb Hl Hr Hrl h0 h1 h2 h3 h4
def can7 (m : Bool) (T : Tr) : Bool := (decide (1 < wt (lT m T))) && (wt (rT m T) == 0) && (wt (lT m (rT m T)) == 1) && (wt (lT m (lT m (rT m T))) == 0) && (innerB (lT m (lT m (rT m T)))) && (decide (0 < wt (rT m (lT m (rT m T)))))
set_option maxHeartbeats 2000000 in
set_option maxRecDepth 100000 in
theorem can7_0 (m rt : Bool) (p pl pr pll plr prl prr pa pb : Option Addr) (T : Tr) (w : World) (Ha : Aside0 (Rep S w (.pointer pa) (lT m (lT m (rT m T))))) (Hb : Aside0 (Rep S w (.pointer pb) (rT m (lT m (rT m T))))) (Hl : Aside0 (Rep S w (.pointer pl) (lT m T))) (Hr : Aside0 (Rep S w (.pointer pr) (rT m T))) (Hrl : Aside0 (Rep S w (.pointer prl) (lT m (rT m T)))) (h0 : (decide (1 < wt (lT m T))) = false) :
  Calls Try.prog 64 #[.agg #[.bool m, .pointer p, .pointer pl, .pointer pr, .pointer pll, .pointer plr, .pointer prl, .pointer prr, .pointer pa, .pointer pb, .bool rt], .int .i64 7] w fun e w' => e = .returned (.bool false) ∧ Below w.heap.size w w' := by
 have hu111 := Try.underlying111
 have A0 := Am h0
 clear h0
 go_enter Try.func64, Try.ntmps64
 go_wp2_with (fail)
 refine (over_any _ _ _ (Hl.out.below ((Below.refl _ _).alloc (Nat.le_refl _) _))).mono ?_
 rw [A0.out]
 rintro e w' ⟨rfl, rfl⟩
 go_wp2
 go_ret
 exact ⟨rfl, (Below.refl _ _).alloc (Nat.le_refl _) _⟩
set_option maxHeartbeats 2000000 in
set_option maxRecDepth 100000 in
theorem can7_1 (m rt : Bool) (p pl pr pll plr prl prr pa pb : Option Addr) (T : Tr) (w : World) (Ha : Aside0 (Rep S w (.pointer pa) (lT m (lT m (rT m T))))) (Hb : Aside0 (Rep S w (.pointer pb) (rT m (lT m (rT m T))))) (Hl : Aside0 (Rep S w (.pointer pl) (lT m T))) (Hr : Aside0 (Rep S w (.pointer pr) (rT m T))) (Hrl : Aside0 (Rep S w (.pointer prl) (lT m (rT m T)))) (h0 : (decide (1 < wt (lT m T))) = true) (h1 : (wt (rT m T) == 0) = false) :
  Calls Try.prog 64 #[.agg #[.bool m, .pointer p, .pointer pl, .pointer pr, .pointer pll, .pointer plr, .pointer prl, .pointer prr, .pointer pa, .pointer pb, .bool rt], .int .i64 7] w fun e w' => e = .returned (.bool false) ∧ Below w.heap.size w w' := by
 have hu111 := Try.underlying111
 have A0 := Am h0
 have A1 := Am h1
 clear h0 h1
 go_enter Try.func64, Try.ntmps64
 go_wp2_with (fail)
 refine (over_any _ _ _ (Hl.out.below ((Below.refl _ _).alloc (Nat.le_refl _) _))).mono ?_
 rw [A0.out]
 rintro e w' ⟨rfl, rfl⟩
 go_wp2_with (fail)
 refine (red_any _ _ _ (Hr.out.below ((Below.refl _ _).alloc (Nat.le_refl _) _))).mono ?_
 rw [A1.out]
 rintro e w' ⟨rfl, rfl⟩
 go_wp2
 go_ret
 exact ⟨rfl, (Below.refl _ _).alloc (Nat.le_refl _) _⟩
set_option maxHeartbeats 2000000 in
set_option maxRecDepth 100000 in
theorem can7_2 (m rt : Bool) (p pl pr pll plr prl prr pa pb : Option Addr) (T : Tr) (w : World) (Ha : Aside0 (Rep S w (.pointer pa) (lT m (lT m (rT m T))))) (Hb : Aside0 (Rep S w (.pointer pb) (rT m (lT m (rT m T))))) (Hl : Aside0 (Rep S w (.pointer pl) (lT m T))) (Hr : Aside0 (Rep S w (.pointer pr) (rT m T))) (Hrl : Aside0 (Rep S w (.pointer prl) (lT m (rT m T)))) (h0 : (decide (1 < wt (lT m T))) = true) (h1 : (wt (rT m T) == 0) = true) (h2 : (wt (lT m (rT m T)) == 1) = false) :
  Calls Try.prog 64 #[.agg #[.bool m, .pointer p, .pointer pl, .pointer pr, .pointer pll, .pointer plr, .pointer prl, .pointer prr, .pointer pa, .pointer pb, .bool rt], .int .i64 7] w fun e w' => e = .returned (.bool false) ∧ Below w.heap.size w w' := by
 have hu111 := Try.underlying111
 have A0 := Am h0
 have A1 := Am h1
 have A2 := Am h2
 clear h0 h1 h2
 go_enter Try.func64, Try.ntmps64
 go_wp2_with (fail)
 refine (over_any _ _ _ (Hl.out.below ((Below.refl _ _).alloc (Nat.le_refl _) _))).mono ?_
 rw [A0.out]
 rintro e w' ⟨rfl, rfl⟩
 go_wp2_with (fail)
 refine (red_any _ _ _ (Hr.out.below ((Below.refl _ _).alloc (Nat.le_refl _) _))).mono ?_
 rw [A1.out]
 rintro e w' ⟨rfl, rfl⟩
 go_wp2_with (fail)
 refine (one_any _ _ _ (Hrl.out.below ((Below.refl _ _).alloc (Nat.le_refl _) _))).mono ?_
 rw [A2.out]
 rintro e w' ⟨rfl, rfl⟩
 go_wp2
 go_ret
 exact ⟨rfl, (Below.refl _ _).alloc (Nat.le_refl _) _⟩
set_option maxHeartbeats 2000000 in
set_option maxRecDepth 100000 in
theorem can7_3 (m rt : Bool) (p pl pr pll plr prl prr pa pb : Option Addr) (T : Tr) (w : World) (Ha : Aside0 (Rep S w (.pointer pa) (lT m (lT m (rT m T))))) (Hb : Aside0 (Rep S w (.pointer pb) (rT m (lT m (rT m T))))) (Hl : Aside0 (Rep S w (.pointer pl) (lT m T))) (Hr : Aside0 (Rep S w (.pointer pr) (rT m T))) (Hrl : Aside0 (Rep S w (.pointer prl) (lT m (rT m T)))) (h0 : (decide (1 < wt (lT m T))) = true) (h1 : (wt (rT m T) == 0) = true) (h2 : (wt (lT m (rT m T)) == 1) = true) (h3 : (wt (lT m (lT m (rT m T))) == 0) = false) :
  Calls Try.prog 64 #[.agg #[.bool m, .pointer p, .pointer pl, .pointer pr, .pointer pll, .pointer plr, .pointer prl, .pointer prr, .pointer pa, .pointer pb, .bool rt], .int .i64 7] w fun e w' => e = .returned (.bool false) ∧ Below w.heap.size w w' := by
 have hu111 := Try.underlying111
 have A0 := Am h0
 have A1 := Am h1
 have A2 := Am h2
 have A3 := Am h3
 clear h0 h1 h2 h3
 go_enter Try.func64, Try.ntmps64
 go_wp2_with (fail)
 refine (over_any _ _ _ (Hl.out.below ((Below.refl _ _).alloc (Nat.le_refl _) _))).mono ?_
 rw [A0.out]
 rintro e w' ⟨rfl, rfl⟩
 go_wp2_with (fail)
 refine (red_any _ _ _ (Hr.out.below ((Below.refl _ _).alloc (Nat.le_refl _) _))).mono ?_
 rw [A1.out]
 rintro e w' ⟨rfl, rfl⟩
 go_wp2_with (fail)
 refine (one_any _ _ _ (Hrl.out.below ((Below.refl _ _).alloc (Nat.le_refl _) _))).mono ?_
 rw [A2.out]
 rintro e w' ⟨rfl, rfl⟩
 go_wp2_with (fail)
 refine (red_any _ _ _ (Ha.out.below ((Below.refl _ _).alloc (Nat.le_refl _) _))).mono ?_
 rw [A3.out]
 rintro e w' ⟨rfl, rfl⟩
 go_wp2
 go_ret
 exact ⟨rfl, (Below.refl _ _).alloc (Nat.le_refl _) _⟩
set_option maxHeartbeats 2000000 in
set_option maxRecDepth 100000 in
theorem can7_4 (m rt : Bool) (p pl pr pll plr prl prr pa pb : Option Addr) (T : Tr) (w : World) (Ha : Aside0 (Rep S w (.pointer pa) (lT m (lT m (rT m T))))) (Hb : Aside0 (Rep S w (.pointer pb) (rT m (lT m (rT m T))))) (Hl : Aside0 (Rep S w (.pointer pl) (lT m T))) (Hr : Aside0 (Rep S w (.pointer pr) (rT m T))) (Hrl : Aside0 (Rep S w (.pointer prl) (lT m (rT m T)))) (h0 : (decide (1 < wt (lT m T))) = true) (h1 : (wt (rT m T) == 0) = true) (h2 : (wt (lT m (rT m T)) == 1) = true) (h3 : (wt (lT m (lT m (rT m T))) == 0) = true) (h4 : (innerB (lT m (lT m (rT m T)))) = false) :
  Calls Try.prog 64 #[.agg #[.bool m, .pointer p, .pointer pl, .pointer pr, .pointer pll, .pointer plr, .pointer prl, .pointer prr, .pointer pa, .pointer pb, .bool rt], .int .i64 7] w fun e w' => e = .returned (.bool false) ∧ Below w.heap.size w w' := by
 have hu111 := Try.underlying111
 have A0 := Am h0
 have A1 := Am h1
 have A2 := Am h2
 have A3 := Am h3
 have A4 := Am h4
 clear h0 h1 h2 h3 h4
 go_enter Try.func64, Try.ntmps64
 go_wp2_with (fail)
 refine (over_any _ _ _ (Hl.out.below ((Below.refl _ _).alloc (Nat.le_refl _) _))).mono ?_
 rw [A0.out]
 rintro e w' ⟨rfl, rfl⟩
 go_wp2_with (fail)
 refine (red_any _ _ _ (Hr.out.below ((Below.refl _ _).alloc (Nat.le_refl _) _))).mono ?_
 rw [A1.out]
 rintro e w' ⟨rfl, rfl⟩
 go_wp2_with (fail)
 refine (one_any _ _ _ (Hrl.out.below ((Below.refl _ _).alloc (Nat.le_refl _) _))).mono ?_
 rw [A2.out]
 rintro e w' ⟨rfl, rfl⟩
 go_wp2_with (fail)
 refine (red_any _ _ _ (Ha.out.below ((Below.refl _ _).alloc (Nat.le_refl _) _))).mono ?_
 rw [A3.out]
 rintro e w' ⟨rfl, rfl⟩
 go_wp2_with (fail)
 refine (inner_any _ _ _ (Ha.out.below ((Below.refl _ _).alloc (Nat.le_refl _) _))).mono ?_
 rw [A4.out]
 rintro e w' ⟨rfl, rfl⟩
 go_wp2
 go_ret
 exact ⟨rfl, (Below.refl _ _).alloc (Nat.le_refl _) _⟩
set_option maxHeartbeats 2000000 in
set_option maxRecDepth 100000 in
theorem can7_5 (m rt : Bool) (p pl pr pll plr prl prr pa pb : Option Addr) (T : Tr) (w : World) (Ha : Aside0 (Rep S w (.pointer pa) (lT m (lT m (rT m T))))) (Hb : Aside0 (Rep S w (.pointer pb) (rT m (lT m (rT m T))))) (Hl : Aside0 (Rep S w (.pointer pl) (lT m T))) (Hr : Aside0 (Rep S w (.pointer pr) (rT m T))) (Hrl : Aside0 (Rep S w (.pointer prl) (lT m (rT m T)))) (h0 : (decide (1 < wt (lT m T))) = true) (h1 : (wt (rT m T) == 0) = true) (h2 : (wt (lT m (rT m T)) == 1) = true) (h3 : (wt (lT m (lT m (rT m T))) == 0) = true) (h4 : (innerB (lT m (lT m (rT m T)))) = true) (h5 : (decide (0 < wt (rT m (lT m (rT m T))))) = false) :
  Calls Try.prog 64 #[.agg #[.bool m, .pointer p, .pointer pl, .pointer pr, .pointer pll, .pointer plr, .pointer prl, .pointer prr, .pointer pa, .pointer pb, .bool rt], .int .i64 7] w fun e w' => e = .returned (.bool false) ∧ Below w.heap.size w w' := by
 have hu111 := Try.underlying111
 have A0 := Am h0
 have A1 := Am h1
 have A2 := Am h2
 have A3 := Am h3
 have A4 := Am h4
 have A5 := Am h5
 clear h0 h1 h2 h3 h4 h5
 go_enter Try.func64, Try.ntmps64
 go_wp2_with (fail)
 refine (over_any _ _ _ (Hl.out.below ((Below.refl _ _).alloc (Nat.le_refl _) _))).mono ?_
 rw [A0.out]
 rintro e w' ⟨rfl, rfl⟩
 go_wp2_with (fail)
 refine (red_any _ _ _ (Hr.out.below ((Below.refl _ _).alloc (Nat.le_refl _) _))).mono ?_
 rw [A1.out]
 rintro e w' ⟨rfl, rfl⟩
 go_wp2_with (fail)
 refine (one_any _ _ _ (Hrl.out.below ((Below.refl _ _).alloc (Nat.le_refl _) _))).mono ?_
 rw [A2.out]
 rintro e w' ⟨rfl, rfl⟩
 go_wp2_with (fail)
 refine (red_any _ _ _ (Ha.out.below ((Below.refl _ _).alloc (Nat.le_refl _) _))).mono ?_
 rw [A3.out]
 rintro e w' ⟨rfl, rfl⟩
 go_wp2_with (fail)
 refine (inner_any _ _ _ (Ha.out.below ((Below.refl _ _).alloc (Nat.le_refl _) _))).mono ?_
 rw [A4.out]
 rintro e w' ⟨rfl, rfl⟩
 go_wp2_with (fail)
 refine (black_any _ _ _ (Hb.out.below ((Below.refl _ _).alloc (Nat.le_refl _) _))).mono ?_
 rw [A5.out]
 rintro e w' ⟨rfl, rfl⟩
 go_wp2
 go_ret
 exact ⟨rfl, (Below.refl _ _).alloc (Nat.le_refl _) _⟩
set_option maxHeartbeats 2000000 in
set_option maxRecDepth 100000 in
theorem can7_6 (m rt : Bool) (p pl pr pll plr prl prr pa pb : Option Addr) (T : Tr) (w : World) (Ha : Aside0 (Rep S w (.pointer pa) (lT m (lT m (rT m T))))) (Hb : Aside0 (Rep S w (.pointer pb) (rT m (lT m (rT m T))))) (Hl : Aside0 (Rep S w (.pointer pl) (lT m T))) (Hr : Aside0 (Rep S w (.pointer pr) (rT m T))) (Hrl : Aside0 (Rep S w (.pointer prl) (lT m (rT m T)))) (h0 : (decide (1 < wt (lT m T))) = true) (h1 : (wt (rT m T) == 0) = true) (h2 : (wt (lT m (rT m T)) == 1) = true) (h3 : (wt (lT m (lT m (rT m T))) == 0) = true) (h4 : (innerB (lT m (lT m (rT m T)))) = true) (h5 : (decide (0 < wt (rT m (lT m (rT m T))))) = true) :
  Calls Try.prog 64 #[.agg #[.bool m, .pointer p, .pointer pl, .pointer pr, .pointer pll, .pointer plr, .pointer prl, .pointer prr, .pointer pa, .pointer pb, .bool rt], .int .i64 7] w fun e w' => e = .returned (.bool true) ∧ Below w.heap.size w w' := by
 have hu111 := Try.underlying111
 have A0 := Am h0
 have A1 := Am h1
 have A2 := Am h2
 have A3 := Am h3
 have A4 := Am h4
 have A5 := Am h5
 clear h0 h1 h2 h3 h4 h5
 go_enter Try.func64, Try.ntmps64
 go_wp2_with (fail)
 refine (over_any _ _ _ (Hl.out.below ((Below.refl _ _).alloc (Nat.le_refl _) _))).mono ?_
 rw [A0.out]
 rintro e w' ⟨rfl, rfl⟩
 go_wp2_with (fail)
 refine (red_any _ _ _ (Hr.out.below ((Below.refl _ _).alloc (Nat.le_refl _) _))).mono ?_
 rw [A1.out]
 rintro e w' ⟨rfl, rfl⟩
 go_wp2_with (fail)
 refine (one_any _ _ _ (Hrl.out.below ((Below.refl _ _).alloc (Nat.le_refl _) _))).mono ?_
 rw [A2.out]
 rintro e w' ⟨rfl, rfl⟩
 go_wp2_with (fail)
 refine (red_any _ _ _ (Ha.out.below ((Below.refl _ _).alloc (Nat.le_refl _) _))).mono ?_
 rw [A3.out]
 rintro e w' ⟨rfl, rfl⟩
 go_wp2_with (fail)
 refine (inner_any _ _ _ (Ha.out.below ((Below.refl _ _).alloc (Nat.le_refl _) _))).mono ?_
 rw [A4.out]
 rintro e w' ⟨rfl, rfl⟩
 go_wp2_with (fail)
 refine (black_any _ _ _ (Hb.out.below ((Below.refl _ _).alloc (Nat.le_refl _) _))).mono ?_
 rw [A5.out]
 rintro e w' ⟨rfl, rfl⟩
 go_wp2
 go_ret
 exact ⟨rfl, (Below.refl _ _).alloc (Nat.le_refl _) _⟩
theorem can7_any (m rt : Bool) (p pl pr pll plr prl prr pa pb : Option Addr) (T : Tr) (w : World) (Ha : Aside0 (Rep S w (.pointer pa) (lT m (lT m (rT m T))))) (Hb : Aside0 (Rep S w (.pointer pb) (rT m (lT m (rT m T))))) (Hl : Aside0 (Rep S w (.pointer pl) (lT m T))) (Hr : Aside0 (Rep S w (.pointer pr) (rT m T))) (Hrl : Aside0 (Rep S w (.pointer prl) (lT m (rT m T)))) :
  Calls Try.prog 64 #[.agg #[.bool m, .pointer p, .pointer pl, .pointer pr, .pointer pll, .pointer plr, .pointer prl, .pointer prr, .pointer pa, .pointer pb, .bool rt], .int .i64 7] w fun e w' => e = .returned (.bool (can7 m T)) ∧ Below w.heap.size w w' := by
 cases h0 : (decide (1 < wt (lT m T))) with
 | false =>
  rw [show can7 m T = false from by simp only [can7, h0, Bool.and_true, Bool.true_and, Bool.and_false, Bool.false_and, Bool.or_true, Bool.true_or, Bool.or_false, Bool.false_or]]
  exact can7_0 m rt p pl pr pll plr prl prr pa pb T w Ha Hb Hl Hr Hrl h0
 | true =>
  cases h1 : (wt (rT m T) == 0) with
  | false =>
   rw [show can7 m T = false from by simp only [can7, h0, h1, Bool.and_true, Bool.true_and, Bool.and_false, Bool.false_and, Bool.or_true, Bool.true_or, Bool.or_false, Bool.false_or]]
   exact can7_1 m rt p pl pr pll plr prl prr pa pb T w Ha Hb Hl Hr Hrl h0 h1
  | true =>
   cases h2 : (wt (lT m (rT m T)) == 1) with
   | false =>
    rw [show can7 m T = false from by simp only [can7, h0, h1, h2, Bool.and_true, Bool.true_and, Bool.and_false, Bool.false_and, Bool.or_true, Bool.true_or, Bool.or_false, Bool.false_or]]
    exact can7_2 m rt p pl pr pll plr prl prr pa pb T w Ha Hb Hl Hr Hrl h0 h1 h2
   | true =>
    cases h3 : (wt (lT m (lT m (rT m T))) == 0) with
    | false =>
     rw [show can7 m T = false from by simp only [can7, h0, h1, h2, h3, Bool.and_true, Bool.true_and, Bool.and_false, Bool.false_and, Bool.or_true, Bool.true_or, Bool.or_false, Bool.false_or]]
     exact can7_3 m rt p pl pr pll plr prl prr pa pb T w Ha Hb Hl Hr Hrl h0 h1 h2 h3
    | true =>
     cases h4 : (innerB (lT m (lT m (rT m T)))) with
     | false =>
      rw [show can7 m T = false from by simp only [can7, h0, h1, h2, h3, h4, Bool.and_true, Bool.true_and, Bool.and_false, Bool.false_and, Bool.or_true, Bool.true_or, Bool.or_false, Bool.false_or]]
      exact can7_4 m rt p pl pr pll plr prl prr pa pb T w Ha Hb Hl Hr Hrl h0 h1 h2 h3 h4
     | true =>
      cases h5 : (decide (0 < wt (rT m (lT m (rT m T))))) with
      | false =>
       rw [show can7 m T = false from by simp only [can7, h0, h1, h2, h3, h4, h5, Bool.and_true, Bool.true_and, Bool.and_false, Bool.false_and, Bool.or_true, Bool.true_or, Bool.or_false, Bool.false_or]]
       exact can7_5 m rt p pl pr pll plr prl prr pa pb T w Ha Hb Hl Hr Hrl h0 h1 h2 h3 h4 h5
      | true =>
       rw [show can7 m T = true from by simp only [can7, h0, h1, h2, h3, h4, h5, Bool.and_true, Bool.true_and, Bool.and_false, Bool.false_and, Bool.or_true, Bool.true_or, Bool.or_false, Bool.false_or]]
       exact can7_6 m rt p pl pr pll plr prl prr pa pb T w Ha Hb Hl Hr Hrl h0 h1 h2 h3 h4 h5
def can8 (m : Bool) (T : Tr) : Bool := (decide (1 < wt (lT m T))) && (wt (rT m T) == 0) && (wt (lT m (rT m T)) == 1) && (wt (rT m (lT m (rT m T))) == 0)
set_option maxHeartbeats 2000000 in
set_option maxRecDepth 100000 in
theorem can8_0 (m rt : Bool) (p pl pr pll plr prl prr pa pb : Option Addr) (T : Tr) (w : World) (Hb : Aside0 (Rep S w (.pointer pb) (rT m (lT m (rT m T))))) (Hl : Aside0 (Rep S w (.pointer pl) (lT m T))) (Hr : Aside0 (Rep S w (.pointer pr) (rT m T))) (Hrl : Aside0 (Rep S w (.pointer prl) (lT m (rT m T)))) (h0 : (decide (1 < wt (lT m T))) = false) :
  Calls Try.prog 64 #[.agg #[.bool m, .pointer p, .pointer pl, .pointer pr, .pointer pll, .pointer plr, .pointer prl, .pointer prr, .pointer pa, .pointer pb, .bool rt], .int .i64 8] w fun e w' => e = .returned (.bool false) ∧ Below w.heap.size w w' := by
 have hu111 := Try.underlying111
 have A0 := Am h0
 clear h0
 go_enter Try.func64, Try.ntmps64
 go_wp2_with (fail)
 refine (over_any _ _ _ (Hl.out.below ((Below.refl _ _).alloc (Nat.le_refl _) _))).mono ?_
 rw [A0.out]
 rintro e w' ⟨rfl, rfl⟩
 go_wp2
 go_ret
 exact ⟨rfl, (Below.refl _ _).alloc (Nat.le_refl _) _⟩
set_option maxHeartbeats 2000000 in
set_option maxRecDepth 100000 in
theorem can8_1 (m rt : Bool) (p pl pr pll plr prl prr pa pb : Option Addr) (T : Tr) (w : World) (Hb : Aside0 (Rep S w (.pointer pb) (rT m (lT m (rT m T))))) (Hl : Aside0 (Rep S w (.pointer pl) (lT m T))) (Hr : Aside0 (Rep S w (.pointer pr) (rT m T))) (Hrl : Aside0 (Rep S w (.pointer prl) (lT m (rT m T)))) (h0 : (decide (1 < wt (lT m T))) = true) (h1 : (wt (rT m T) == 0) = false) :
  Calls Try.prog 64 #[.agg #[.bool m, .pointer p, .pointer pl, .pointer pr, .pointer pll, .pointer plr, .pointer prl, .pointer prr, .pointer pa, .pointer pb, .bool rt], .int .i64 8] w fun e w' => e = .returned (.bool false) ∧ Below w.heap.size w w' := by
 have hu111 := Try.underlying111
 have A0 := Am h0
 have A1 := Am h1
 clear h0 h1
 go_enter Try.func64, Try.ntmps64
 go_wp2_with (fail)
 refine (over_any _ _ _ (Hl.out.below ((Below.refl _ _).alloc (Nat.le_refl _) _))).mono ?_
 rw [A0.out]
 rintro e w' ⟨rfl, rfl⟩
 go_wp2_with (fail)
 refine (red_any _ _ _ (Hr.out.below ((Below.refl _ _).alloc (Nat.le_refl _) _))).mono ?_
 rw [A1.out]
 rintro e w' ⟨rfl, rfl⟩
 go_wp2
 go_ret
 exact ⟨rfl, (Below.refl _ _).alloc (Nat.le_refl _) _⟩
set_option maxHeartbeats 2000000 in
set_option maxRecDepth 100000 in
theorem can8_2 (m rt : Bool) (p pl pr pll plr prl prr pa pb : Option Addr) (T : Tr) (w : World) (Hb : Aside0 (Rep S w (.pointer pb) (rT m (lT m (rT m T))))) (Hl : Aside0 (Rep S w (.pointer pl) (lT m T))) (Hr : Aside0 (Rep S w (.pointer pr) (rT m T))) (Hrl : Aside0 (Rep S w (.pointer prl) (lT m (rT m T)))) (h0 : (decide (1 < wt (lT m T))) = true) (h1 : (wt (rT m T) == 0) = true) (h2 : (wt (lT m (rT m T)) == 1) = false) :
  Calls Try.prog 64 #[.agg #[.bool m, .pointer p, .pointer pl, .pointer pr, .pointer pll, .pointer plr, .pointer prl, .pointer prr, .pointer pa, .pointer pb, .bool rt], .int .i64 8] w fun e w' => e = .returned (.bool false) ∧ Below w.heap.size w w' := by
 have hu111 := Try.underlying111
 have A0 := Am h0
 have A1 := Am h1
 have A2 := Am h2
 clear h0 h1 h2
 go_enter Try.func64, Try.ntmps64
 go_wp2_with (fail)
 refine (over_any _ _ _ (Hl.out.below ((Below.refl _ _).alloc (Nat.le_refl _) _))).mono ?_
 rw [A0.out]
 rintro e w' ⟨rfl, rfl⟩
 go_wp2_with (fail)
 refine (red_any _ _ _ (Hr.out.below ((Below.refl _ _).alloc (Nat.le_refl _) _))).mono ?_
 rw [A1.out]
 rintro e w' ⟨rfl, rfl⟩
 go_wp2_with (fail)
 refine (one_any _ _ _ (Hrl.out.below ((Below.refl _ _).alloc (Nat.le_refl _) _))).mono ?_
 rw [A2.out]
 rintro e w' ⟨rfl, rfl⟩
 go_wp2
 go_ret
 exact ⟨rfl, (Below.refl _ _).alloc (Nat.le_refl _) _⟩
set_option maxHeartbeats 2000000 in
set_option maxRecDepth 100000 in
theorem can8_3 (m rt : Bool) (p pl pr pll plr prl prr pa pb : Option Addr) (T : Tr) (w : World) (Hb : Aside0 (Rep S w (.pointer pb) (rT m (lT m (rT m T))))) (Hl : Aside0 (Rep S w (.pointer pl) (lT m T))) (Hr : Aside0 (Rep S w (.pointer pr) (rT m T))) (Hrl : Aside0 (Rep S w (.pointer prl) (lT m (rT m T)))) (h0 : (decide (1 < wt (lT m T))) = true) (h1 : (wt (rT m T) == 0) = true) (h2 : (wt (lT m (rT m T)) == 1) = true) (h3 : (wt (rT m (lT m (rT m T))) == 0) = false) :
  Calls Try.prog 64 #[.agg #[.bool m, .pointer p, .pointer pl, .pointer pr, .pointer pll, .pointer plr, .pointer prl, .pointer prr, .pointer pa, .pointer pb, .bool rt], .int .i64 8] w fun e w' => e = .returned (.bool false) ∧ Below w.heap.size w w' := by
 have hu111 := Try.underlying111
 have A0 := Am h0
 have A1 := Am h1
 have A2 := Am h2
 have A3 := Am h3
 clear h0 h1 h2 h3
 go_enter Try.func64, Try.ntmps64
 go_wp2_with (fail)
 refine (over_any _ _ _ (Hl.out.below ((Below.refl _ _).alloc (Nat.le_refl _) _))).mono ?_
 rw [A0.out]
 rintro e w' ⟨rfl, rfl⟩
 go_wp2_with (fail)
 refine (red_any _ _ _ (Hr.out.below ((Below.refl _ _).alloc (Nat.le_refl _) _))).mono ?_
 rw [A1.out]
 rintro e w' ⟨rfl, rfl⟩
 go_wp2_with (fail)
 refine (one_any _ _ _ (Hrl.out.below ((Below.refl _ _).alloc (Nat.le_refl _) _))).mono ?_
 rw [A2.out]
 rintro e w' ⟨rfl, rfl⟩
 go_wp2_with (fail)
 refine (red_any _ _ _ (Hb.out.below ((Below.refl _ _).alloc (Nat.le_refl _) _))).mono ?_
 rw [A3.out]
 rintro e w' ⟨rfl, rfl⟩
 go_wp2
 go_ret
 exact ⟨rfl, (Below.refl _ _).alloc (Nat.le_refl _) _⟩
set_option maxHeartbeats 2000000 in
set_option maxRecDepth 100000 in
theorem can8_4 (m rt : Bool) (p pl pr pll plr prl prr pa pb : Option Addr) (T : Tr) (w : World) (Hb : Aside0 (Rep S w (.pointer pb) (rT m (lT m (rT m T))))) (Hl : Aside0 (Rep S w (.pointer pl) (lT m T))) (Hr : Aside0 (Rep S w (.pointer pr) (rT m T))) (Hrl : Aside0 (Rep S w (.pointer prl) (lT m (rT m T)))) (h0 : (decide (1 < wt (lT m T))) = true) (h1 : (wt (rT m T) == 0) = true) (h2 : (wt (lT m (rT m T)) == 1) = true) (h3 : (wt (rT m (lT m (rT m T))) == 0) = true) :
  Calls Try.prog 64 #[.agg #[.bool m, .pointer p, .pointer pl, .pointer pr, .pointer pll, .pointer plr, .pointer prl, .pointer prr, .pointer pa, .pointer pb, .bool rt], .int .i64 8] w fun e w' => e = .returned (.bool true) ∧ Below w.heap.size w w' := by
 have hu111 := Try.underlying111
 have A0 := Am h0
 have A1 := Am h1
 have A2 := Am h2
 have A3 := Am h3
 clear h0 h1 h2 h3
 go_enter Try.func64, Try.ntmps64
 go_wp2_with (fail)
 refine (over_any _ _ _ (Hl.out.below ((Below.refl _ _).alloc (Nat.le_refl _) _))).mono ?_
 rw [A0.out]
 rintro e w' ⟨rfl, rfl⟩
 go_wp2_with (fail)
 refine (red_any _ _ _ (Hr.out.below ((Below.refl _ _).alloc (Nat.le_refl _) _))).mono ?_
 rw [A1.out]
 rintro e w' ⟨rfl, rfl⟩
 go_wp2_with (fail)
 refine (one_any _ _ _ (Hrl.out.below ((Below.refl _ _).alloc (Nat.le_refl _) _))).mono ?_
 rw [A2.out]
 rintro e w' ⟨rfl, rfl⟩
 go_wp2_with (fail)
 refine (red_any _ _ _ (Hb.out.below ((Below.refl _ _).alloc (Nat.le_refl _) _))).mono ?_
 rw [A3.out]
 rintro e w' ⟨rfl, rfl⟩
 go_wp2
 go_ret
 exact ⟨rfl, (Below.refl _ _).alloc (Nat.le_refl _) _⟩
theorem can8_any (m rt : Bool) (p pl pr pll plr prl prr pa pb : Option Addr) (T : Tr) (w : World) (Hb : Aside0 (Rep S w (.pointer pb) (rT m (lT m (rT m T))))) (Hl : Aside0 (Rep S w (.pointer pl) (lT m T))) (Hr : Aside0 (Rep S w (.pointer pr) (rT m T))) (Hrl : Aside0 (Rep S w (.pointer prl) (lT m (rT m T)))) :
  Calls Try.prog 64 #[.agg #[.bool m, .pointer p, .pointer pl, .pointer pr, .pointer pll, .pointer plr, .pointer prl, .pointer prr, .pointer pa, .pointer pb, .bool rt], .int .i64 8] w fun e w' => e = .returned (.bool (can8 m T)) ∧ Below w.heap.size w w' := by
 cases h0 : (decide (1 < wt (lT m T))) with
 | false =>
  rw [show can8 m T = false from by simp only [can8, h0, Bool.and_true, Bool.true_and, Bool.and_false, Bool.false_and, Bool.or_true, Bool.true_or, Bool.or_false, Bool.false_or]]
  exact can8_0 m rt p pl pr pll plr prl prr pa pb T w Hb Hl Hr Hrl h0
 | true =>
  cases h1 : (wt (rT m T) == 0) with
  | false =>
   rw [show can8 m T = false from by simp only [can8, h0, h1, Bool.and_true, Bool.true_and, Bool.and_false, Bool.false_and, Bool.or_true, Bool.true_or, Bool.or_false, Bool.false_or]]
   exact can8_1 m rt p pl pr pll plr prl prr pa pb T w Hb Hl Hr Hrl h0 h1
  | true =>
   cases h2 : (wt (lT m (rT m T)) == 1) with
   | false =>
    rw [show can8 m T = false from by simp only [can8, h0, h1, h2, Bool.and_true, Bool.true_and, Bool.and_false, Bool.false_and, Bool.or_true, Bool.true_or, Bool.or_false, Bool.false_or]]
    exact can8_2 m rt p pl pr pll plr prl prr pa pb T w Hb Hl Hr Hrl h0 h1 h2
   | true =>
    cases h3 : (wt (rT m (lT m (rT m T))) == 0) with
    | false =>
     rw [show can8 m T = false from by simp only [can8, h0, h1, h2, h3, Bool.and_true, Bool.true_and, Bool.and_false, Bool.false_and, Bool.or_true, Bool.true_or, Bool.or_false, Bool.false_or]]
     exact can8_3 m rt p pl pr pll plr prl prr pa pb T w Hb Hl Hr Hrl h0 h1 h2 h3
    | true =>
     rw [show can8 m T = true from by simp only [can8, h0, h1, h2, h3, Bool.and_true, Bool.true_and, Bool.and_false, Bool.false_and, Bool.or_true, Bool.true_or, Bool.or_false, Bool.false_or]]
     exact can8_4 m rt p pl pr pll plr prl prr pa pb T w Hb Hl Hr Hrl h0 h1 h2 h3
end Go.Proofs.Ytgleaefhflamnaa.T
namespace Go.Proofs.Ytgleaefhflamnaa.T
open Go.RowKit Go.Proofs.YtgleaefhflamnaaW.PrintWords Go.Proofs.YtgleaefhflamnaaW.PrintLast Go.Proofs.YtgleaefhflamnaaW.PrintMore
variable {S : Nat → Prop}
def keyT : Tr → Int
 | .nil => 0
 | .node n _ _ _ => n.f0
def DoPost (S : Nat → Prop) (w : World) (R : Tr) (e : Ending) (w' : World) : Prop := ∃ q W, e = .returned (.pointer q) ∧ Below w.heap.size w W ∧ Below W.heap.size W w' ∧ TopRep S W w' (.pointer q) R
theorem do_fin (w : World) (R : Tr) : ∀ (q : Option Addr) (W w' : World), Below w.heap.size w W → Below W.heap.size W w' → TopRep S W w' (.pointer q) R → DoPost S w R (.returned (.pointer q)) w' := fun q W _ h1 h2 h3 => ⟨q, W, rfl, h1, h2, h3⟩
end Go.Proofs.Ytgleaefhflamnaa.T
namespace Go.Proofs.Ytgleaefhflamnaa.T
open Go.RowKit Go.Proofs.YtgleaefhflamnaaW.PrintWords Go.Proofs.YtgleaefhflamnaaW.PrintLast Go.Proofs.YtgleaefhflamnaaW.PrintMore
variable {S : Nat → Prop}
set_option maxHeartbeats 4000000 in
set_option maxRecDepth 100000 in
theorem do1_any (m rt : Bool) (p pl pr pll plr prl prr pa pb : Option Addr) {nx : S34} {qx : Int} {lx rx : Tr} {nl : S34} {ql : Int} {ll rl : Tr} {nr : S34} {qr : Int} {lr rr : Tr} {X : Tr} {L : Tr} {R : Tr} (w : World) (hS : ∀ k, w.heap.size ≤ k → S k) (ex : X = .node nx qx lx rx) (el : L = .node nl ql ll rl) (er : R = .node nr qr lr rr) (Hx : Aside0 (Rep S w (.pointer p) X)) (Hl : Aside0 (Rep S w (.pointer pl) L)) (Hr : Aside0 (Rep S w (.pointer pr) R)) :
  Calls Try.prog 65 #[.agg #[.bool m, .pointer p, .pointer pl, .pointer pr, .pointer pll, .pointer plr, .pointer prl, .pointer prr, .pointer pa, .pointer pb, .bool rt], .int .i64 1] w fun e w' => DoPost S w (putT m (keyT X) (wrap64 (wt X - 1)) (asT 1 L) (asT 1 R)) e w' := by
 have hu111 := Try.underlying111
 have Ex := Am ex
 clear ex
 have El := Am el
 clear el
 have Er := Am er
 clear er
 have HSS := Am hS
 clear hS
 have hfin := do_fin (S := S) w (putT m (keyT X) (wrap64 (wt X - 1)) (asT 1 L) (asT 1 R))
 have HF := Am hfin
 clear hfin
 go_enter Try.func65, Try.ntmps65
 go_wp2_with (fail)
 refine (weight_any _ _ _ (Hx.out.below ((Below.refl _ _).alloc (Nat.le_refl _) _))).mono ?_
 rintro e w' ⟨rfl, rfl⟩
 go_wp2
 have HB0 : Aside0 (Below w.heap.size w (w.alloc (.cells #[.bool m, .pointer p, .pointer pl, .pointer pr, .pointer pll, .pointer plr, .pointer prl, .pointer prr, .pointer pa, .pointer pb, .bool rt] 111))) := ⟨(Below.refl _ _).alloc (Nat.le_refl _) _⟩
 have HV0 : Aside0 ((w.alloc (.cells #[.bool m, .pointer p, .pointer pl, .pointer pr, .pointer pll, .pointer plr, .pointer prl, .pointer prr, .pointer pa, .pointer pb, .bool rt] 111)).heap[w.heap.size]? = some (.cells #[.bool m, .pointer p, .pointer pl, .pointer pr, .pointer pll, .pointer plr, .pointer prl, .pointer prr, .pointer pa, .pointer pb, .bool rt] 111 (0, 0))) := ⟨heap_alloc_new w _⟩
 generalize w.alloc (.cells #[.bool m, .pointer p, .pointer pl, .pointer pr, .pointer pll, .pointer plr, .pointer prl, .pointer prr, .pointer pa, .pointer pb, .bool rt] 111) = w1 at HB0 HV0 ⊢
 obtain ⟨g, hg⟩ : ∃ g, g = w.heap.size := ⟨_, rfl⟩
 rw [← hg] at HV0 ⊢
 clear hg
 have HB0_ := Am (bd HB0.out)
 have HV0_ : Aside0 (w1.drew.heap[g]? = some (.cells #[.bool m, .pointer p, .pointer pl, .pointer pr, .pointer pll, .pointer plr, .pointer prl, .pointer prr, .pointer pa, .pointer pb, .bool rt] 111 (0, 0))) := ⟨HV0.out⟩
 clear HB0 HV0 
 have HB0 := HB0_
 have HV0 := HV0_
 clear HB0_ HV0_
 refine start_ (n := 13) (S := fun w' => w'.cell? ⟨g, 0, none⟩ = some (.bool m) ∧ w'.cell? ⟨g, 1, none⟩ = some (.pointer p) ∧ w'.cell? ⟨g, 2, none⟩ = some (.pointer pl) ∧ w'.cell? ⟨g, 3, none⟩ = some (.pointer pr) ∧ w'.cell? ⟨g, 4, none⟩ = some (.pointer pll) ∧ w'.cell? ⟨g, 5, none⟩ = some (.pointer plr) ∧ w'.cell? ⟨g, 6, none⟩ = some (.pointer prl) ∧ w'.cell? ⟨g, 7, none⟩ = some (.pointer prr) ∧ w'.cell? ⟨g, 8, none⟩ = some (.pointer pa) ∧ w'.cell? ⟨g, 9, none⟩ = some (.pointer pb) ∧ w'.cell? ⟨g, 10, none⟩ = some (.bool rt)) (ds := []) #[false, false, false, false, false, false, false, false, false, false, false, false, false] (by kernel_rfl) rfl rfl ⟨(cell_of HV0.out 0).trans rfl, (cell_of HV0.out 1).trans rfl, (cell_of HV0.out 2).trans rfl, (cell_of HV0.out 3).trans rfl, (cell_of HV0.out 4).trans rfl, (cell_of HV0.out 5).trans rfl, (cell_of HV0.out 6).trans rfl, (cell_of HV0.out 7).trans rfl, (cell_of HV0.out 8).trans rfl, (cell_of HV0.out 9).trans rfl, (cell_of HV0.out 10).trans rfl⟩ (fun hHeld => ?_)
 refine pure_ (i := 1) (N := some 15) (v := ?_) (a' := ?_) #[false, true, false, false, false, false, false, false, false, false, false, false, false] rfl rfl (by kernel_rfl) (fun _ _ _ h => h) (Or.inl ⟨by rfl, ?_⟩) ?_ ?_
 rotate_left
 ·intro w'
  go_simp
  with_reducible rfl
 rotate_left
 ·simp only [Act.put, sI, sZ, sS, i64_w, i32_w]
  rfl
 refine pure_ (i := 3) (N := some 17) (v := ?_) (a' := ?_) #[false, true, false, true, false, false, false, false, false, false, false, false, false] rfl rfl (by kernel_rfl) (fun _ _ _ h => h) (Or.inl ⟨by rfl, ?_⟩) ?_ ?_
 rotate_left
 ·intro w'
  go_simp
  with_reducible rfl
 rotate_left
 ·simp only [Act.put, sI, sZ, sS, i64_w, i32_w]
  rfl
 refine pure_ (i := 4) (N := some 18) (v := ?_) (a' := ?_) #[false, true, false, true, true, false, false, false, false, false, false, false, false] rfl rfl (by kernel_rfl) (fun _ _ _ h => h) (Or.inl ⟨by rfl, ?_⟩) ?_ ?_
 rotate_left
 ·intro w'
  go_simp
  with_reducible rfl
 rotate_left
 ·simp only [Act.put, sI, sZ, sS, i64_w, i32_w]
  rfl
 refine pure_ (i := 5) (N := some 19) (v := ?_) (a' := ?_) #[false, true, false, true, true, true, false, false, false, false, false, false, false] rfl rfl (by kernel_rfl) (fun _ _ _ h => h) (Or.inl ⟨by rfl, ?_⟩) ?_ ?_
 rotate_left
 ·intro w'
  go_simp
  with_reducible rfl
 rotate_left
 ·simp only [Act.put, sI, sZ, sS, i64_w, i32_w]
  rfl
 refine pure_ (i := 8) (N := some 22) (v := ?_) (a' := ?_) #[false, true, false, true, true, true, false, false, true, false, false, false, false] rfl rfl (by kernel_rfl) (fun _ _ _ h => h) (Or.inl ⟨by rfl, ?_⟩) ?_ ?_
 rotate_left
 ·intro w'
  go_simp
  with_reducible rfl
 rotate_left
 ·simp only [Act.put, sI, sZ, sS, i64_w, i32_w]
  rfl
 refine take_ (i := 0) (N := some 14) (v := ?_) (a' := ?_) #[true, true, false, true, true, true, false, false, true, false, false, false, false] rfl rfl (by kernel_rfl) (fun _ _ _ h => h) (Or.inl ⟨by rfl, ?_⟩) hHeld ?_ ?_
 rotate_left
 ·rintro w' ⟨s0, s1, s2, s3, s4, s5, s6, s7, s8, s9, s10⟩
  go_simp
  with_reducible rfl
 rotate_left
 ·simp only [Act.put, sI, sZ, sS, i64_w, i32_w]
  rfl
 refine take_ (i := 2) (N := some 16) (v := ?_) (a' := ?_) #[true, true, true, true, true, true, false, false, true, false, false, false, false] rfl rfl (by kernel_rfl) (fun _ _ _ h => h) (Or.inl ⟨by rfl, ?_⟩) hHeld ?_ ?_
 rotate_left
 ·rintro w' ⟨s0, s1, s2, s3, s4, s5, s6, s7, s8, s9, s10⟩
  go_simp
  with_reducible rfl
 rotate_left
 ·simp only [Act.put, sI, sZ, sS, i64_w, i32_w]
  rfl
 refine take_ (i := 6) (N := some 20) (v := ?_) (a' := ?_) #[true, true, true, true, true, true, true, false, true, false, false, false, false] rfl rfl (by kernel_rfl) (fun _ _ _ h => h) (Or.inl ⟨by rfl, ?_⟩) hHeld ?_ ?_
 rotate_left
 ·rintro w' ⟨s0, s1, s2, s3, s4, s5, s6, s7, s8, s9, s10⟩
  go_simp
  with_reducible rfl
 rotate_left
 ·simp only [Act.put, sI, sZ, sS, i64_w, i32_w]
  rfl
 refine take_ (i := 9) (N := some 23) (v := ?_) (a' := ?_) #[true, true, true, true, true, true, true, false, true, true, false, false, false] rfl rfl (by kernel_rfl) (fun _ _ _ h => h) (Or.inl ⟨by rfl, ?_⟩) hHeld ?_ ?_
 rotate_left
 ·rintro w' ⟨s0, s1, s2, s3, s4, s5, s6, s7, s8, s9, s10⟩
  go_simp
  with_reducible rfl
 rotate_left
 ·simp only [Act.put, sI, sZ, sS, i64_w, i32_w]
  rfl
 refine one_ (i := 7) (N := some 21) #[true, true, true, true, true, true, true, true, true, true, false, false, false] rfl rfl (by kernel_rfl) (by decide) (fun K hK => ?_)
 refine goes_ Try.func94 (by kernel_rfl) rfl #[.pointer pl, .int .i64 1] (by rfl) rfl rfl (by (try simp only [List.map_toArray, List.map_cons, List.map_nil]); first | done | rfl) ?_
 with_reducible refine (as_any _ _ _ _ _ _ _ (fun k hk => HSS.out k (Nat.le_trans HB0.out.size hk)) (by rw [← El.out]; exact (Hl.out.below HB0.out))).mono ?_
 rw [← El.out]
 rintro e w1_ ⟨v', rfl, h1, h2⟩
 obtain ⟨q1, rfl⟩ := h1.ptr
 have HB1 := Am (HB0.out.trans (h2.mono HB0.out.size))
 have HNq1 := Am (TopRep.rep h1 h2)
 have HV1 := Am ((h2.block _ (Array.getElem?_eq_some_iff.1 HV0.out).1).trans HV0.out)
 clear h1 h2 HB0 HV0
 refine ⟨_, rfl, ?_⟩
 refine hK.out _ _ ⟨(cell_of HV1.out 0).trans rfl, (cell_of HV1.out 1).trans rfl, (cell_of HV1.out 2).trans rfl, (cell_of HV1.out 3).trans rfl, (cell_of HV1.out 4).trans rfl, (cell_of HV1.out 5).trans rfl, (cell_of HV1.out 6).trans rfl, (cell_of HV1.out 7).trans rfl, (cell_of HV1.out 8).trans rfl, (cell_of HV1.out 9).trans rfl, (cell_of HV1.out 10).trans rfl⟩ (fun hHeld => ?_)
 clear hK K
 refine norm_ (a' := ?_) ?_ ?_
 rotate_left
 ·show Act.put _ (some 21) _ = _
  simp only [Act.put, sI, sZ, sS, i64_w, i32_w]
  rfl
 refine one_ (i := 10) (N := some 24) #[true, true, true, true, true, true, true, true, true, true, true, false, false] rfl rfl (by kernel_rfl) (by decide) (fun K hK => ?_)
 refine goes_ Try.func94 (by kernel_rfl) rfl #[.pointer pr, .int .i64 1] (by rfl) rfl rfl (by (try simp only [List.map_toArray, List.map_cons, List.map_nil]); first | done | rfl) ?_
 with_reducible refine (as_any _ _ _ _ _ _ _ (fun k hk => HSS.out k (Nat.le_trans HB1.out.size hk)) (by rw [← Er.out]; exact (Hr.out.below HB1.out))).mono ?_
 rw [← Er.out]
 rintro e w2_ ⟨v', rfl, h1, h2⟩
 obtain ⟨q2, rfl⟩ := h1.ptr
 have HB2 := Am (HB1.out.trans (h2.mono HB1.out.size))
 have HNq2 := Am (TopRep.rep h1 h2)
 have HV2 := Am ((h2.block _ (Array.getElem?_eq_some_iff.1 HV1.out).1).trans HV1.out)
 have HNq1_ := Am (Rep.below HNq1.out h2)
 clear HNq1
 have HNq1 := HNq1_
 clear HNq1_
 clear h1 h2 HB1 HV1
 refine ⟨_, rfl, ?_⟩
 refine hK.out _ _ ⟨(cell_of HV2.out 0).trans rfl, (cell_of HV2.out 1).trans rfl, (cell_of HV2.out 2).trans rfl, (cell_of HV2.out 3).trans rfl, (cell_of HV2.out 4).trans rfl, (cell_of HV2.out 5).trans rfl, (cell_of HV2.out 6).trans rfl, (cell_of HV2.out 7).trans rfl, (cell_of HV2.out 8).trans rfl, (cell_of HV2.out 9).trans rfl, (cell_of HV2.out 10).trans rfl⟩ (fun hHeld => ?_)
 clear hK K
 refine norm_ (a' := ?_) ?_ ?_
 rotate_left
 ·show Act.put _ (some 24) _ = _
  simp only [Act.put, sI, sZ, sS, i64_w, i32_w]
  rfl
 refine one_ (i := 11) (N := some 25) #[true, true, true, true, true, true, true, true, true, true, true, true, false] rfl rfl (by kernel_rfl) (by decide) (fun K hK => ?_)
 refine goes_ Try.func93 (by kernel_rfl) rfl #[.agg #[.bool m, .pointer p, .pointer pl, .pointer pr, .pointer pll, .pointer plr, .pointer prl, .pointer prr, .pointer pa, .pointer pb, .bool rt], .pointer p, .int .i64 (wrap64 (wt X - 1)), .pointer q1, .pointer q2] (by rfl) rfl rfl (by (try simp only [List.map_toArray, List.map_cons, List.map_nil]); first | done | rfl) ?_
 with_reducible refine (put_any _ _ _ _ _ _ _ _ _ _ _ _ _ _ _ _ _ _ _ _ _ _ (fun k hk => HSS.out k (Nat.le_trans HB2.out.size hk)) (by rw [← Ex.out]; exact (Hx.out.below HB2.out)) HNq1.out HNq2.out).mono ?_
 rw [show nx.f0 = keyT X from by rw [Ex.out]; rfl]
 rintro e w3_ ⟨v', rfl, h1, h2⟩
 obtain ⟨q3, rfl⟩ := h1.ptr
 have HB3 := Am (HB2.out.trans (h2.mono HB2.out.size))
 have HNq3 := Am (TopRep.rep h1 h2)
 have HTOP := Am h1
 have HTB := Am h2
 have HTW := HB2
 have HV3 := Am ((h2.block _ (Array.getElem?_eq_some_iff.1 HV2.out).1).trans HV2.out)
 have HNq1_ := Am (Rep.below HNq1.out h2)
 clear HNq1
 have HNq1 := HNq1_
 clear HNq1_
 have HNq2_ := Am (Rep.below HNq2.out h2)
 clear HNq2
 have HNq2 := HNq2_
 clear HNq2_
 clear h1 h2 HB2 HV2
 refine ⟨_, rfl, ?_⟩
 refine hK.out _ _ ⟨(cell_of HV3.out 0).trans rfl, (cell_of HV3.out 1).trans rfl, (cell_of HV3.out 2).trans rfl, (cell_of HV3.out 3).trans rfl, (cell_of HV3.out 4).trans rfl, (cell_of HV3.out 5).trans rfl, (cell_of HV3.out 6).trans rfl, (cell_of HV3.out 7).trans rfl, (cell_of HV3.out 8).trans rfl, (cell_of HV3.out 9).trans rfl, (cell_of HV3.out 10).trans rfl⟩ (fun hHeld => ?_)
 clear hK K
 refine norm_ (a' := ?_) ?_ ?_
 rotate_left
 ·show Act.put _ (some 25) _ = _
  simp only [Act.put, sI, sZ, sS, i64_w, i32_w]
  rfl
 refine pure_ (i := 12) (N := some 4) (v := ?_) (a' := ?_) #[true, true, true, true, true, true, true, true, true, true, true, true, true] rfl rfl (by kernel_rfl) (fun _ _ _ h => h) (Or.inl ⟨by rfl, ?_⟩) ?_ ?_
 rotate_left
 ·intro w'
  go_simp
  with_reducible rfl
 rotate_left
 ·simp only [Act.put, sI, sZ, sS, i64_w, i32_w]
  rfl
 refine done_ (by kernel_rfl) ?_
 try clear hHeld
 go_wp2
 go_ret
 exact HF.out _ _ _ HTW.out HTB.out HTOP.out
set_option maxHeartbeats 4000000 in
set_option maxRecDepth 100000 in
theorem do12_any (m rt : Bool) (p pl pr pll plr prl prr pa pb : Option Addr) {nx : S34} {qx : Int} {lx rx : Tr} {X : Tr} (w : World) (hS : ∀ k, w.heap.size ≤ k → S k) (ex : X = .node nx qx lx rx) (Hx : Aside0 (Rep S w (.pointer p) X)) :
  Calls Try.prog 65 #[.agg #[.bool m, .pointer p, .pointer pl, .pointer pr, .pointer pll, .pointer plr, .pointer prl, .pointer prr, .pointer pa, .pointer pb, .bool rt], .int .i64 12] w fun e w' => DoPost S w (asT 1 X) e w' := by
 have hu111 := Try.underlying111
 have Ex := Am ex
 clear ex
 have HSS := Am hS
 clear hS
 have hfin := do_fin (S := S) w (asT 1 X)
 have HF := Am hfin
 clear hfin
 go_enter Try.func65, Try.ntmps65
 go_wp2_with (fail)
 refine (weight_any _ _ _ (Hx.out.below ((Below.refl _ _).alloc (Nat.le_refl _) _))).mono ?_
 rintro e w' ⟨rfl, rfl⟩
 go_wp2_with (fail)
 refine (as_any _ _ _ _ _ _ _ (fun k hk => HSS.out k (Nat.le_trans (by simp) hk)) (by rw [← Ex.out]; exact (Hx.out.below ((Below.refl _ _).alloc (Nat.le_refl _) _)))).mono ?_
 rw [← Ex.out]
 rintro e w2 ⟨v', rfl, h1, h2⟩
 obtain ⟨qr, rfl⟩ := h1.ptr
 have HN := Am h1
 have HB9 := Am h2
 clear h1 h2
 go_wp2
 go_ret
 exact HF.out _ _ _ ((Below.refl _ _).alloc (Nat.le_refl _) _) HB9.out HN.out
end Go.Proofs.Ytgleaefhflamnaa.T
namespace Go.Proofs.Ytgleaefhflamnaa.T
open Go.RowKit Go.Proofs.YtgleaefhflamnaaW.PrintWords Go.Proofs.YtgleaefhflamnaaW.PrintLast Go.Proofs.YtgleaefhflamnaaW.PrintMore
variable {S : Nat → Prop}
set_option maxHeartbeats 4000000 in
set_option maxRecDepth 100000 in
theorem do2_any (m rt : Bool) (p pl pr pll plr prl prr pa pb : Option Addr) {nx : S34} {qx : Int} {lx rx : Tr} {nl : S34} {ql : Int} {ll rl : Tr} {X : Tr} {L : Tr} {R : Tr} {LL : Tr} {LR : Tr} (w : World) (hS : ∀ k, w.heap.size ≤ k → S k) (ex : X = .node nx qx lx rx) (el : L = .node nl ql ll rl) (Hx : Aside0 (Rep S w (.pointer p) X)) (Hl : Aside0 (Rep S w (.pointer pl) L)) (Hr : Aside0 (Rep S w (.pointer pr) R)) (Hll : Aside0 (Rep S w (.pointer pll) LL)) (Hlr : Aside0 (Rep S w (.pointer plr) LR)) :
  Calls Try.prog 65 #[.agg #[.bool m, .pointer p, .pointer pl, .pointer pr, .pointer pll, .pointer plr, .pointer prl, .pointer prr, .pointer pa, .pointer pb, .bool rt], .int .i64 2] w fun e w' => DoPost S w (putT m (keyT L) (wt X) LL (putT m (keyT X) 0 LR R)) e w' := by
 have hu111 := Try.underlying111
 have Ex := Am ex
 clear ex
 have El := Am el
 clear el
 have HSS := Am hS
 clear hS
 have hfin := do_fin (S := S) w (putT m (keyT L) (wt X) LL (putT m (keyT X) 0 LR R))
 have HF := Am hfin
 clear hfin
 go_enter Try.func65, Try.ntmps65
 go_wp2_with (fail)
 refine (weight_any _ _ _ (Hx.out.below ((Below.refl _ _).alloc (Nat.le_refl _) _))).mono ?_
 rintro e w' ⟨rfl, rfl⟩
 go_wp2
 have HB0 : Aside0 (Below w.heap.size w (w.alloc (.cells #[.bool m, .pointer p, .pointer pl, .pointer pr, .pointer pll, .pointer plr, .pointer prl, .pointer prr, .pointer pa, .pointer pb, .bool rt] 111))) := ⟨(Below.refl _ _).alloc (Nat.le_refl _) _⟩
 have HV0 : Aside0 ((w.alloc (.cells #[.bool m, .pointer p, .pointer pl, .pointer pr, .pointer pll, .pointer plr, .pointer prl, .pointer prr, .pointer pa, .pointer pb, .bool rt] 111)).heap[w.heap.size]? = some (.cells #[.bool m, .pointer p, .pointer pl, .pointer pr, .pointer pll, .pointer plr, .pointer prl, .pointer prr, .pointer pa, .pointer pb, .bool rt] 111 (0, 0))) := ⟨heap_alloc_new w _⟩
 generalize w.alloc (.cells #[.bool m, .pointer p, .pointer pl, .pointer pr, .pointer pll, .pointer plr, .pointer prl, .pointer prr, .pointer pa, .pointer pb, .bool rt] 111) = w1 at HB0 HV0 ⊢
 obtain ⟨g, hg⟩ : ∃ g, g = w.heap.size := ⟨_, rfl⟩
 rw [← hg] at HV0 ⊢
 clear hg
 have HB0_ := Am (bd HB0.out)
 have HV0_ : Aside0 (w1.drew.heap[g]? = some (.cells #[.bool m, .pointer p, .pointer pl, .pointer pr, .pointer pll, .pointer plr, .pointer prl, .pointer prr, .pointer pa, .pointer pb, .bool rt] 111 (0, 0))) := ⟨HV0.out⟩
 clear HB0 HV0 
 have HB0 := HB0_
 have HV0 := HV0_
 clear HB0_ HV0_
 refine start_ (n := 16) (S := fun w' => w'.cell? ⟨g, 0, none⟩ = some (.bool m) ∧ w'.cell? ⟨g, 1, none⟩ = some (.pointer p) ∧ w'.cell? ⟨g, 2, none⟩ = some (.pointer pl) ∧ w'.cell? ⟨g, 3, none⟩ = some (.pointer pr) ∧ w'.cell? ⟨g, 4, none⟩ = some (.pointer pll) ∧ w'.cell? ⟨g, 5, none⟩ = some (.pointer plr) ∧ w'.cell? ⟨g, 6, none⟩ = some (.pointer prl) ∧ w'.cell? ⟨g, 7, none⟩ = some (.pointer prr) ∧ w'.cell? ⟨g, 8, none⟩ = some (.pointer pa) ∧ w'.cell? ⟨g, 9, none⟩ = some (.pointer pb) ∧ w'.cell? ⟨g, 10, none⟩ = some (.bool rt)) (ds := []) #[false, false, false, false, false, false, false, false, false, false, false, false, false, false, false, false] (by kernel_rfl) rfl rfl ⟨(cell_of HV0.out 0).trans rfl, (cell_of HV0.out 1).trans rfl, (cell_of HV0.out 2).trans rfl, (cell_of HV0.out 3).trans rfl, (cell_of HV0.out 4).trans rfl, (cell_of HV0.out 5).trans rfl, (cell_of HV0.out 6).trans rfl, (cell_of HV0.out 7).trans rfl, (cell_of HV0.out 8).trans rfl, (cell_of HV0.out 9).trans rfl, (cell_of HV0.out 10).trans rfl⟩ (fun hHeld => ?_)
 refine pure_ (i := 1) (N := some 29) (v := ?_) (a' := ?_) #[false, true, false, false, false, false, false, false, false, false, false, false, false, false, false, false] rfl rfl (by kernel_rfl) (fun _ _ _ h => h) (Or.inl ⟨by rfl, ?_⟩) ?_ ?_
 rotate_left
 ·intro w'
  go_simp
  with_reducible rfl
 rotate_left
 ·simp only [Act.put, sI, sZ, sS, i64_w, i32_w]
  rfl
 refine pure_ (i := 3) (N := some 31) (v := ?_) (a' := ?_) #[false, true, false, true, false, false, false, false, false, false, false, false, false, false, false, false] rfl rfl (by kernel_rfl) (fun _ _ _ h => h) (Or.inl ⟨by rfl, ?_⟩) ?_ ?_
 rotate_left
 ·intro w'
  go_simp
  with_reducible rfl
 rotate_left
 ·simp only [Act.put, sI, sZ, sS, i64_w, i32_w]
  rfl
 refine pure_ (i := 4) (N := some 32) (v := ?_) (a' := ?_) #[false, true, false, true, true, false, false, false, false, false, false, false, false, false, false, false] rfl rfl (by kernel_rfl) (fun _ _ _ h => h) (Or.inl ⟨by rfl, ?_⟩) ?_ ?_
 rotate_left
 ·intro w'
  go_simp
  with_reducible rfl
 rotate_left
 ·simp only [Act.put, sI, sZ, sS, i64_w, i32_w]
  rfl
 refine pure_ (i := 7) (N := some 35) (v := ?_) (a' := ?_) #[false, true, false, true, true, false, false, true, false, false, false, false, false, false, false, false] rfl rfl (by kernel_rfl) (fun _ _ _ h => h) (Or.inl ⟨by rfl, ?_⟩) ?_ ?_
 rotate_left
 ·intro w'
  go_simp
  with_reducible rfl
 rotate_left
 ·simp only [Act.put, sI, sZ, sS, i64_w, i32_w]
  rfl
 refine pure_ (i := 9) (N := some 37) (v := ?_) (a' := ?_) #[false, true, false, true, true, false, false, true, false, true, false, false, false, false, false, false] rfl rfl (by kernel_rfl) (fun _ _ _ h => h) (Or.inl ⟨by rfl, ?_⟩) ?_ ?_
 rotate_left
 ·intro w'
  go_simp
  with_reducible rfl
 rotate_left
 ·simp only [Act.put, sI, sZ, sS, i64_w, i32_w]
  rfl
 refine pure_ (i := 11) (N := some 39) (v := ?_) (a' := ?_) #[false, true, false, true, true, false, false, true, false, true, false, true, false, false, false, false] rfl rfl (by kernel_rfl) (fun _ _ _ h => h) (Or.inl ⟨by rfl, ?_⟩) ?_ ?_
 rotate_left
 ·intro w'
  go_simp
  with_reducible rfl
 rotate_left
 ·simp only [Act.put, sI, sZ, sS, i64_w, i32_w]
  rfl
 refine take_ (i := 0) (N := some 28) (v := ?_) (a' := ?_) #[true, true, false, true, true, false, false, true, false, true, false, true, false, false, false, false] rfl rfl (by kernel_rfl) (fun _ _ _ h => h) (Or.inl ⟨by rfl, ?_⟩) hHeld ?_ ?_
 rotate_left
 ·rintro w' ⟨s0, s1, s2, s3, s4, s5, s6, s7, s8, s9, s10⟩
  go_simp
  with_reducible rfl
 rotate_left
 ·simp only [Act.put, sI, sZ, sS, i64_w, i32_w]
  rfl
 refine take_ (i := 2) (N := some 30) (v := ?_) (a' := ?_) #[true, true, true, true, true, false, false, true, false, true, false, true, false, false, false, false] rfl rfl (by kernel_rfl) (fun _ _ _ h => h) (Or.inl ⟨by rfl, ?_⟩) hHeld ?_ ?_
 rotate_left
 ·rintro w' ⟨s0, s1, s2, s3, s4, s5, s6, s7, s8, s9, s10⟩
  go_simp
  with_reducible rfl
 rotate_left
 ·simp only [Act.put, sI, sZ, sS, i64_w, i32_w]
  rfl
 refine take_ (i := 5) (N := some 33) (v := ?_) (a' := ?_) #[true, true, true, true, true, true, false, true, false, true, false, true, false, false, false, false] rfl rfl (by kernel_rfl) (fun _ _ _ h => h) (Or.inl ⟨by rfl, ?_⟩) hHeld ?_ ?_
 rotate_left
 ·rintro w' ⟨s0, s1, s2, s3, s4, s5, s6, s7, s8, s9, s10⟩
  go_simp
  with_reducible rfl
 rotate_left
 ·simp only [Act.put, sI, sZ, sS, i64_w, i32_w]
  rfl
 refine take_ (i := 6) (N := some 34) (v := ?_) (a' := ?_) #[true, true, true, true, true, true, true, true, false, true, false, true, false, false, false, false] rfl rfl (by kernel_rfl) (fun _ _ _ h => h) (Or.inl ⟨by rfl, ?_⟩) hHeld ?_ ?_
 rotate_left
 ·rintro w' ⟨s0, s1, s2, s3, s4, s5, s6, s7, s8, s9, s10⟩
  go_simp
  with_reducible rfl
 rotate_left
 ·simp only [Act.put, sI, sZ, sS, i64_w, i32_w]
  rfl
 refine take_ (i := 8) (N := some 36) (v := ?_) (a' := ?_) #[true, true, true, true, true, true, true, true, true, true, false, true, false, false, false, false] rfl rfl (by kernel_rfl) (fun _ _ _ h => h) (Or.inl ⟨by rfl, ?_⟩) hHeld ?_ ?_
 rotate_left
 ·rintro w' ⟨s0, s1, s2, s3, s4, s5, s6, s7, s8, s9, s10⟩
  go_simp
  with_reducible rfl
 rotate_left
 ·simp only [Act.put, sI, sZ, sS, i64_w, i32_w]
  rfl
 refine take_ (i := 10) (N := some 38) (v := ?_) (a' := ?_) #[true, true, true, true, true, true, true, true, true, true, true, true, false, false, false, false] rfl rfl (by kernel_rfl) (fun _ _ _ h => h) (Or.inl ⟨by rfl, ?_⟩) hHeld ?_ ?_
 rotate_left
 ·rintro w' ⟨s0, s1, s2, s3, s4, s5, s6, s7, s8, s9, s10⟩
  go_simp
  with_reducible rfl
 rotate_left
 ·simp only [Act.put, sI, sZ, sS, i64_w, i32_w]
  rfl
 refine take_ (i := 12) (N := some 40) (v := ?_) (a' := ?_) #[true, true, true, true, true, true, true, true, true, true, true, true, true, false, false, false] rfl rfl (by kernel_rfl) (fun _ _ _ h => h) (Or.inl ⟨by rfl, ?_⟩) hHeld ?_ ?_
 rotate_left
 ·rintro w' ⟨s0, s1, s2, s3, s4, s5, s6, s7, s8, s9, s10⟩
  go_simp
  with_reducible rfl
 rotate_left
 ·simp only [Act.put, sI, sZ, sS, i64_w, i32_w]
  rfl
 refine one_ (i := 13) (N := some 41) #[true, true, true, true, true, true, true, true, true, true, true, true, true, true, false, false] rfl rfl (by kernel_rfl) (by decide) (fun K hK => ?_)
 refine goes_ Try.func93 (by kernel_rfl) rfl #[.agg #[.bool m, .pointer p, .pointer pl, .pointer pr, .pointer pll, .pointer plr, .pointer prl, .pointer prr, .pointer pa, .pointer pb, .bool rt], .pointer p, .int .i64 0, .pointer plr, .pointer pr] (by rfl) rfl rfl (by (try simp only [List.map_toArray, List.map_cons, List.map_nil]); first | done | rfl) ?_
 with_reducible refine (put_any _ _ _ _ _ _ _ _ _ _ _ _ _ _ _ _ _ _ _ _ _ _ (fun k hk => HSS.out k (Nat.le_trans HB0.out.size hk)) (by rw [← Ex.out]; exact (Hx.out.below HB0.out)) (Hlr.out.below HB0.out) (Hr.out.below HB0.out)).mono ?_
 rw [show nx.f0 = keyT X from by rw [Ex.out]; rfl]
 rintro e w1_ ⟨v', rfl, h1, h2⟩
 obtain ⟨q1, rfl⟩ := h1.ptr
 have HB1 := Am (HB0.out.trans (h2.mono HB0.out.size))
 have HNq1 := Am (TopRep.rep h1 h2)
 have HV1 := Am ((h2.block _ (Array.getElem?_eq_some_iff.1 HV0.out).1).trans HV0.out)
 clear h1 h2 HB0 HV0
 refine ⟨_, rfl, ?_⟩
 refine hK.out _ _ ⟨(cell_of HV1.out 0).trans rfl, (cell_of HV1.out 1).trans rfl, (cell_of HV1.out 2).trans rfl, (cell_of HV1.out 3).trans rfl, (cell_of HV1.out 4).trans rfl, (cell_of HV1.out 5).trans rfl, (cell_of HV1.out 6).trans rfl, (cell_of HV1.out 7).trans rfl, (cell_of HV1.out 8).trans rfl, (cell_of HV1.out 9).trans rfl, (cell_of HV1.out 10).trans rfl⟩ (fun hHeld => ?_)
 clear hK K
 refine norm_ (a' := ?_) ?_ ?_
 rotate_left
 ·show Act.put _ (some 41) _ = _
  simp only [Act.put, sI, sZ, sS, i64_w, i32_w]
  rfl
 refine one_ (i := 14) (N := some 42) #[true, true, true, true, true, true, true, true, true, true, true, true, true, true, true, false] rfl rfl (by kernel_rfl) (by decide) (fun K hK => ?_)
 refine goes_ Try.func93 (by kernel_rfl) rfl #[.agg #[.bool m, .pointer p, .pointer pl, .pointer pr, .pointer pll, .pointer plr, .pointer prl, .pointer prr, .pointer pa, .pointer pb, .bool rt], .pointer pl, .int .i64 (wt X), .pointer pll, .pointer q1] (by rfl) rfl rfl (by (try simp only [List.map_toArray, List.map_cons, List.map_nil]); first | done | rfl) ?_
 with_reducible refine (put_any _ _ _ _ _ _ _ _ _ _ _ _ _ _ _ _ _ _ _ _ _ _ (fun k hk => HSS.out k (Nat.le_trans HB1.out.size hk)) (by rw [← El.out]; exact (Hl.out.below HB1.out)) (Hll.out.below HB1.out) HNq1.out).mono ?_
 rw [show nl.f0 = keyT L from by rw [El.out]; rfl]
 rintro e w2_ ⟨v', rfl, h1, h2⟩
 obtain ⟨q2, rfl⟩ := h1.ptr
 have HB2 := Am (HB1.out.trans (h2.mono HB1.out.size))
 have HNq2 := Am (TopRep.rep h1 h2)
 have HTOP := Am h1
 have HTB := Am h2
 have HTW := HB1
 have HV2 := Am ((h2.block _ (Array.getElem?_eq_some_iff.1 HV1.out).1).trans HV1.out)
 have HNq1_ := Am (Rep.below HNq1.out h2)
 clear HNq1
 have HNq1 := HNq1_
 clear HNq1_
 clear h1 h2 HB1 HV1
 refine ⟨_, rfl, ?_⟩
 refine hK.out _ _ ⟨(cell_of HV2.out 0).trans rfl, (cell_of HV2.out 1).trans rfl, (cell_of HV2.out 2).trans rfl, (cell_of HV2.out 3).trans rfl, (cell_of HV2.out 4).trans rfl, (cell_of HV2.out 5).trans rfl, (cell_of HV2.out 6).trans rfl, (cell_of HV2.out 7).trans rfl, (cell_of HV2.out 8).trans rfl, (cell_of HV2.out 9).trans rfl, (cell_of HV2.out 10).trans rfl⟩ (fun hHeld => ?_)
 clear hK K
 refine norm_ (a' := ?_) ?_ ?_
 rotate_left
 ·show Act.put _ (some 42) _ = _
  simp only [Act.put, sI, sZ, sS, i64_w, i32_w]
  rfl
 refine pure_ (i := 15) (N := some 4) (v := ?_) (a' := ?_) #[true, true, true, true, true, true, true, true, true, true, true, true, true, true, true, true] rfl rfl (by kernel_rfl) (fun _ _ _ h => h) (Or.inl ⟨by rfl, ?_⟩) ?_ ?_
 rotate_left
 ·intro w'
  go_simp
  with_reducible rfl
 rotate_left
 ·simp only [Act.put, sI, sZ, sS, i64_w, i32_w]
  rfl
 refine done_ (by kernel_rfl) ?_
 try clear hHeld
 go_wp2
 go_ret
 exact HF.out _ _ _ HTW.out HTB.out HTOP.out
set_option maxHeartbeats 4000000 in
set_option maxRecDepth 100000 in
theorem do4_any (m rt : Bool) (p pl pr pll plr prl prr pa pb : Option Addr) {nx : S34} {qx : Int} {lx rx : Tr} {nl : S34} {ql : Int} {ll rl : Tr} {nr : S34} {qr : Int} {lr rr : Tr} {X : Tr} {L : Tr} {R : Tr} (w : World) (hS : ∀ k, w.heap.size ≤ k → S k) (ex : X = .node nx qx lx rx) (el : L = .node nl ql ll rl) (er : R = .node nr qr lr rr) (Hx : Aside0 (Rep S w (.pointer p) X)) (Hl : Aside0 (Rep S w (.pointer pl) L)) (Hr : Aside0 (Rep S w (.pointer pr) R)) :
  Calls Try.prog 65 #[.agg #[.bool m, .pointer p, .pointer pl, .pointer pr, .pointer pll, .pointer plr, .pointer prl, .pointer prr, .pointer pa, .pointer pb, .bool rt], .int .i64 4] w fun e w' => DoPost S w (putT m (keyT X) (wrap64 (wt X + 1)) (lessT L) (asT 0 R)) e w' := by
 have hu111 := Try.underlying111
 have Ex := Am ex
 clear ex
 have El := Am el
 clear el
 have Er := Am er
 clear er
 have HSS := Am hS
 clear hS
 have hfin := do_fin (S := S) w (putT m (keyT X) (wrap64 (wt X + 1)) (lessT L) (asT 0 R))
 have HF := Am hfin
 clear hfin
 go_enter Try.func65, Try.ntmps65
 go_wp2_with (fail)
 refine (weight_any _ _ _ (Hx.out.below ((Below.refl _ _).alloc (Nat.le_refl _) _))).mono ?_
 rintro e w' ⟨rfl, rfl⟩
 go_wp2
 have HB0 : Aside0 (Below w.heap.size w (w.alloc (.cells #[.bool m, .pointer p, .pointer pl, .pointer pr, .pointer pll, .pointer plr, .pointer prl, .pointer prr, .pointer pa, .pointer pb, .bool rt] 111))) := ⟨(Below.refl _ _).alloc (Nat.le_refl _) _⟩
 have HV0 : Aside0 ((w.alloc (.cells #[.bool m, .pointer p, .pointer pl, .pointer pr, .pointer pll, .pointer plr, .pointer prl, .pointer prr, .pointer pa, .pointer pb, .bool rt] 111)).heap[w.heap.size]? = some (.cells #[.bool m, .pointer p, .pointer pl, .pointer pr, .pointer pll, .pointer plr, .pointer prl, .pointer prr, .pointer pa, .pointer pb, .bool rt] 111 (0, 0))) := ⟨heap_alloc_new w _⟩
 generalize w.alloc (.cells #[.bool m, .pointer p, .pointer pl, .pointer pr, .pointer pll, .pointer plr, .pointer prl, .pointer prr, .pointer pa, .pointer pb, .bool rt] 111) = w1 at HB0 HV0 ⊢
 obtain ⟨g, hg⟩ : ∃ g, g = w.heap.size := ⟨_, rfl⟩
 rw [← hg] at HV0 ⊢
 clear hg
 have HB0_ := Am (bd HB0.out)
 have HV0_ : Aside0 (w1.drew.heap[g]? = some (.cells #[.bool m, .pointer p, .pointer pl, .pointer pr, .pointer pll, .pointer plr, .pointer prl, .pointer prr, .pointer pa, .pointer pb, .bool rt] 111 (0, 0))) := ⟨HV0.out⟩
 clear HB0 HV0 
 have HB0 := HB0_
 have HV0 := HV0_
 clear HB0_ HV0_
 refine start_ (n := 13) (S := fun w' => w'.cell? ⟨g, 0, none⟩ = some (.bool m) ∧ w'.cell? ⟨g, 1, none⟩ = some (.pointer p) ∧ w'.cell? ⟨g, 2, none⟩ = some (.pointer pl) ∧ w'.cell? ⟨g, 3, none⟩ = some (.pointer pr) ∧ w'.cell? ⟨g, 4, none⟩ = some (.pointer pll) ∧ w'.cell? ⟨g, 5, none⟩ = some (.pointer plr) ∧ w'.cell? ⟨g, 6, none⟩ = some (.pointer prl) ∧ w'.cell? ⟨g, 7, none⟩ = some (.pointer prr) ∧ w'.cell? ⟨g, 8, none⟩ = some (.pointer pa) ∧ w'.cell? ⟨g, 9, none⟩ = some (.pointer pb) ∧ w'.cell? ⟨g, 10, none⟩ = some (.bool rt)) (ds := []) #[false, false, false, false, false, false, false, false, false, false, false, false, false] (by kernel_rfl) rfl rfl ⟨(cell_of HV0.out 0).trans rfl, (cell_of HV0.out 1).trans rfl, (cell_of HV0.out 2).trans rfl, (cell_of HV0.out 3).trans rfl, (cell_of HV0.out 4).trans rfl, (cell_of HV0.out 5).trans rfl, (cell_of HV0.out 6).trans rfl, (cell_of HV0.out 7).trans rfl, (cell_of HV0.out 8).trans rfl, (cell_of HV0.out 9).trans rfl, (cell_of HV0.out 10).trans rfl⟩ (fun hHeld => ?_)
 refine pure_ (i := 1) (N := some 73) (v := ?_) (a' := ?_) #[false, true, false, false, false, false, false, false, false, false, false, false, false] rfl rfl (by kernel_rfl) (fun _ _ _ h => h) (Or.inl ⟨by rfl, ?_⟩) ?_ ?_
 rotate_left
 ·intro w'
  go_simp
  with_reducible rfl
 rotate_left
 ·simp only [Act.put, sI, sZ, sS, i64_w, i32_w]
  rfl
 refine pure_ (i := 3) (N := some 75) (v := ?_) (a' := ?_) #[false, true, false, true, false, false, false, false, false, false, false, false, false] rfl rfl (by kernel_rfl) (fun _ _ _ h => h) (Or.inl ⟨by rfl, ?_⟩) ?_ ?_
 rotate_left
 ·intro w'
  go_simp
  with_reducible rfl
 rotate_left
 ·simp only [Act.put, sI, sZ, sS, i64_w, i32_w]
  rfl
 refine pure_ (i := 4) (N := some 76) (v := ?_) (a' := ?_) #[false, true, false, true, true, false, false, false, false, false, false, false, false] rfl rfl (by kernel_rfl) (fun _ _ _ h => h) (Or.inl ⟨by rfl, ?_⟩) ?_ ?_
 rotate_left
 ·intro w'
  go_simp
  with_reducible rfl
 rotate_left
 ·simp only [Act.put, sI, sZ, sS, i64_w, i32_w]
  rfl
 refine pure_ (i := 5) (N := some 77) (v := ?_) (a' := ?_) #[false, true, false, true, true, true, false, false, false, false, false, false, false] rfl rfl (by kernel_rfl) (fun _ _ _ h => h) (Or.inl ⟨by rfl, ?_⟩) ?_ ?_
 rotate_left
 ·intro w'
  go_simp
  with_reducible rfl
 rotate_left
 ·simp only [Act.put, sI, sZ, sS, i64_w, i32_w]
  rfl
 refine pure_ (i := 8) (N := some 80) (v := ?_) (a' := ?_) #[false, true, false, true, true, true, false, false, true, false, false, false, false] rfl rfl (by kernel_rfl) (fun _ _ _ h => h) (Or.inl ⟨by rfl, ?_⟩) ?_ ?_
 rotate_left
 ·intro w'
  go_simp
  with_reducible rfl
 rotate_left
 ·simp only [Act.put, sI, sZ, sS, i64_w, i32_w]
  rfl
 refine take_ (i := 0) (N := some 72) (v := ?_) (a' := ?_) #[true, true, false, true, true, true, false, false, true, false, false, false, false] rfl rfl (by kernel_rfl) (fun _ _ _ h => h) (Or.inl ⟨by rfl, ?_⟩) hHeld ?_ ?_
 rotate_left
 ·rintro w' ⟨s0, s1, s2, s3, s4, s5, s6, s7, s8, s9, s10⟩
  go_simp
  with_reducible rfl
 rotate_left
 ·simp only [Act.put, sI, sZ, sS, i64_w, i32_w]
  rfl
 refine take_ (i := 2) (N := some 74) (v := ?_) (a' := ?_) #[true, true, true, true, true, true, false, false, true, false, false, false, false] rfl rfl (by kernel_rfl) (fun _ _ _ h => h) (Or.inl ⟨by rfl, ?_⟩) hHeld ?_ ?_
 rotate_left
 ·rintro w' ⟨s0, s1, s2, s3, s4, s5, s6, s7, s8, s9, s10⟩
  go_simp
  with_reducible rfl
 rotate_left
 ·simp only [Act.put, sI, sZ, sS, i64_w, i32_w]
  rfl
 refine take_ (i := 6) (N := some 78) (v := ?_) (a' := ?_) #[true, true, true, true, true, true, true, false, true, false, false, false, false] rfl rfl (by kernel_rfl) (fun _ _ _ h => h) (Or.inl ⟨by rfl, ?_⟩) hHeld ?_ ?_
 rotate_left
 ·rintro w' ⟨s0, s1, s2, s3, s4, s5, s6, s7, s8, s9, s10⟩
  go_simp
  with_reducible rfl
 rotate_left
 ·simp only [Act.put, sI, sZ, sS, i64_w, i32_w]
  rfl
 refine take_ (i := 9) (N := some 81) (v := ?_) (a' := ?_) #[true, true, true, true, true, true, true, false, true, true, false, false, false] rfl rfl (by kernel_rfl) (fun _ _ _ h => h) (Or.inl ⟨by rfl, ?_⟩) hHeld ?_ ?_
 rotate_left
 ·rintro w' ⟨s0, s1, s2, s3, s4, s5, s6, s7, s8, s9, s10⟩
  go_simp
  with_reducible rfl
 rotate_left
 ·simp only [Act.put, sI, sZ, sS, i64_w, i32_w]
  rfl
 refine one_ (i := 7) (N := some 79) #[true, true, true, true, true, true, true, true, true, true, false, false, false] rfl rfl (by kernel_rfl) (by decide) (fun K hK => ?_)
 refine goes_ Try.func95 (by kernel_rfl) rfl #[.pointer pl] (by rfl) rfl rfl (by (try simp only [List.map_toArray, List.map_cons, List.map_nil]); first | done | rfl) ?_
 with_reducible refine (less_any _ _ _ _ _ _ (fun k hk => HSS.out k (Nat.le_trans HB0.out.size hk)) (by rw [← El.out]; exact (Hl.out.below HB0.out))).mono ?_
 rw [← El.out]
 rintro e w1_ ⟨v', rfl, h1, h2⟩
 obtain ⟨q1, rfl⟩ := h1.ptr
 have HB1 := Am (HB0.out.trans (h2.mono HB0.out.size))
 have HNq1 := Am (TopRep.rep h1 h2)
 have HV1 := Am ((h2.block _ (Array.getElem?_eq_some_iff.1 HV0.out).1).trans HV0.out)
 clear h1 h2 HB0 HV0
 refine ⟨_, rfl, ?_⟩
 refine hK.out _ _ ⟨(cell_of HV1.out 0).trans rfl, (cell_of HV1.out 1).trans rfl, (cell_of HV1.out 2).trans rfl, (cell_of HV1.out 3).trans rfl, (cell_of HV1.out 4).trans rfl, (cell_of HV1.out 5).trans rfl, (cell_of HV1.out 6).trans rfl, (cell_of HV1.out 7).trans rfl, (cell_of HV1.out 8).trans rfl, (cell_of HV1.out 9).trans rfl, (cell_of HV1.out 10).trans rfl⟩ (fun hHeld => ?_)
 clear hK K
 refine norm_ (a' := ?_) ?_ ?_
 rotate_left
 ·show Act.put _ (some 79) _ = _
  simp only [Act.put, sI, sZ, sS, i64_w, i32_w]
  rfl
 refine one_ (i := 10) (N := some 82) #[true, true, true, true, true, true, true, true, true, true, true, false, false] rfl rfl (by kernel_rfl) (by decide) (fun K hK => ?_)
 refine goes_ Try.func94 (by kernel_rfl) rfl #[.pointer pr, .int .i64 0] (by rfl) rfl rfl (by (try simp only [List.map_toArray, List.map_cons, List.map_nil]); first | done | rfl) ?_
 with_reducible refine (as_any _ _ _ _ _ _ _ (fun k hk => HSS.out k (Nat.le_trans HB1.out.size hk)) (by rw [← Er.out]; exact (Hr.out.below HB1.out))).mono ?_
 rw [← Er.out]
 rintro e w2_ ⟨v', rfl, h1, h2⟩
 obtain ⟨q2, rfl⟩ := h1.ptr
 have HB2 := Am (HB1.out.trans (h2.mono HB1.out.size))
 have HNq2 := Am (TopRep.rep h1 h2)
 have HV2 := Am ((h2.block _ (Array.getElem?_eq_some_iff.1 HV1.out).1).trans HV1.out)
 have HNq1_ := Am (Rep.below HNq1.out h2)
 clear HNq1
 have HNq1 := HNq1_
 clear HNq1_
 clear h1 h2 HB1 HV1
 refine ⟨_, rfl, ?_⟩
 refine hK.out _ _ ⟨(cell_of HV2.out 0).trans rfl, (cell_of HV2.out 1).trans rfl, (cell_of HV2.out 2).trans rfl, (cell_of HV2.out 3).trans rfl, (cell_of HV2.out 4).trans rfl, (cell_of HV2.out 5).trans rfl, (cell_of HV2.out 6).trans rfl, (cell_of HV2.out 7).trans rfl, (cell_of HV2.out 8).trans rfl, (cell_of HV2.out 9).trans rfl, (cell_of HV2.out 10).trans rfl⟩ (fun hHeld => ?_)
 clear hK K
 refine norm_ (a' := ?_) ?_ ?_
 rotate_left
 ·show Act.put _ (some 82) _ = _
  simp only [Act.put, sI, sZ, sS, i64_w, i32_w]
  rfl
 refine one_ (i := 11) (N := some 83) #[true, true, true, true, true, true, true, true, true, true, true, true, false] rfl rfl (by kernel_rfl) (by decide) (fun K hK => ?_)
 refine goes_ Try.func93 (by kernel_rfl) rfl #[.agg #[.bool m, .pointer p, .pointer pl, .pointer pr, .pointer pll, .pointer plr, .pointer prl, .pointer prr, .pointer pa, .pointer pb, .bool rt], .pointer p, .int .i64 (wrap64 (wt X + 1)), .pointer q1, .pointer q2] (by rfl) rfl rfl (by (try simp only [List.map_toArray, List.map_cons, List.map_nil]); first | done | rfl) ?_
 with_reducible refine (put_any _ _ _ _ _ _ _ _ _ _ _ _ _ _ _ _ _ _ _ _ _ _ (fun k hk => HSS.out k (Nat.le_trans HB2.out.size hk)) (by rw [← Ex.out]; exact (Hx.out.below HB2.out)) HNq1.out HNq2.out).mono ?_
 rw [show nx.f0 = keyT X from by rw [Ex.out]; rfl]
 rintro e w3_ ⟨v', rfl, h1, h2⟩
 obtain ⟨q3, rfl⟩ := h1.ptr
 have HB3 := Am (HB2.out.trans (h2.mono HB2.out.size))
 have HNq3 := Am (TopRep.rep h1 h2)
 have HTOP := Am h1
 have HTB := Am h2
 have HTW := HB2
 have HV3 := Am ((h2.block _ (Array.getElem?_eq_some_iff.1 HV2.out).1).trans HV2.out)
 have HNq1_ := Am (Rep.below HNq1.out h2)
 clear HNq1
 have HNq1 := HNq1_
 clear HNq1_
 have HNq2_ := Am (Rep.below HNq2.out h2)
 clear HNq2
 have HNq2 := HNq2_
 clear HNq2_
 clear h1 h2 HB2 HV2
 refine ⟨_, rfl, ?_⟩
 refine hK.out _ _ ⟨(cell_of HV3.out 0).trans rfl, (cell_of HV3.out 1).trans rfl, (cell_of HV3.out 2).trans rfl, (cell_of HV3.out 3).trans rfl, (cell_of HV3.out 4).trans rfl, (cell_of HV3.out 5).trans rfl, (cell_of HV3.out 6).trans rfl, (cell_of HV3.out 7).trans rfl, (cell_of HV3.out 8).trans rfl, (cell_of HV3.out 9).trans rfl, (cell_of HV3.out 10).trans rfl⟩ (fun hHeld => ?_)
 clear hK K
 refine norm_ (a' := ?_) ?_ ?_
 rotate_left
 ·show Act.put _ (some 83) _ = _
  simp only [Act.put, sI, sZ, sS, i64_w, i32_w]
  rfl
 refine pure_ (i := 12) (N := some 4) (v := ?_) (a' := ?_) #[true, true, true, true, true, true, true, true, true, true, true, true, true] rfl rfl (by kernel_rfl) (fun _ _ _ h => h) (Or.inl ⟨by rfl, ?_⟩) ?_ ?_
 rotate_left
 ·intro w'
  go_simp
  with_reducible rfl
 rotate_left
 ·simp only [Act.put, sI, sZ, sS, i64_w, i32_w]
  rfl
 refine done_ (by kernel_rfl) ?_
 try clear hHeld
 go_wp2
 go_ret
 exact HF.out _ _ _ HTW.out HTB.out HTOP.out
end Go.Proofs.Ytgleaefhflamnaa.T
namespace Go.Proofs.Ytgleaefhflamnaa.T
open Go.RowKit Go.Proofs.YtgleaefhflamnaaW.PrintWords Go.Proofs.YtgleaefhflamnaaW.PrintLast Go.Proofs.YtgleaefhflamnaaW.PrintMore
variable {S : Nat → Prop}
set_option maxHeartbeats 4000000 in
set_option maxRecDepth 100000 in
theorem do3_any (m rt : Bool) (p pl pr pll plr prl prr pa pb : Option Addr) {nx : S34} {qx : Int} {lx rx : Tr} {nl : S34} {ql : Int} {ll rl : Tr} {nlr : S34} {qlr : Int} {llr rlr : Tr} {X : Tr} {L : Tr} {R : Tr} {LL : Tr} {LR : Tr} (w : World) (hS : ∀ k, w.heap.size ≤ k → S k) (ex : X = .node nx qx lx rx) (el : L = .node nl ql ll rl) (elr : LR = .node nlr qlr llr rlr) (Hx : Aside0 (Rep S w (.pointer p) X)) (Hl : Aside0 (Rep S w (.pointer pl) L)) (Hr : Aside0 (Rep S w (.pointer pr) R)) (Hll : Aside0 (Rep S w (.pointer pll) LL)) (Hlr : Aside0 (Rep S w (.pointer plr) LR)) :
  Calls Try.prog 65 #[.agg #[.bool m, .pointer p, .pointer pl, .pointer pr, .pointer pll, .pointer plr, .pointer prl, .pointer prr, .pointer pa, .pointer pb, .bool rt], .int .i64 3] w fun e w' => DoPost S w (putT m (keyT LR) (wt X) (putT m (keyT L) 0 LL (lT m LR)) (putT m (keyT X) 0 (rT m LR) R)) e w' := by
 have hu111 := Try.underlying111
 have Ex := Am ex
 clear ex
 have El := Am el
 clear el
 have Elr := Am elr
 clear elr
 have HSS := Am hS
 clear hS
 have hfin := do_fin (S := S) w (putT m (keyT LR) (wt X) (putT m (keyT L) 0 LL (lT m LR)) (putT m (keyT X) 0 (rT m LR) R))
 have HF := Am hfin
 clear hfin
 go_enter Try.func65, Try.ntmps65
 go_wp2_with (fail)
 refine (weight_any _ _ _ (Hx.out.below ((Below.refl _ _).alloc (Nat.le_refl _) _))).mono ?_
 rintro e w' ⟨rfl, rfl⟩
 go_wp2
 have HB0 : Aside0 (Below w.heap.size w (w.alloc (.cells #[.bool m, .pointer p, .pointer pl, .pointer pr, .pointer pll, .pointer plr, .pointer prl, .pointer prr, .pointer pa, .pointer pb, .bool rt] 111))) := ⟨(Below.refl _ _).alloc (Nat.le_refl _) _⟩
 have HV0 : Aside0 ((w.alloc (.cells #[.bool m, .pointer p, .pointer pl, .pointer pr, .pointer pll, .pointer plr, .pointer prl, .pointer prr, .pointer pa, .pointer pb, .bool rt] 111)).heap[w.heap.size]? = some (.cells #[.bool m, .pointer p, .pointer pl, .pointer pr, .pointer pll, .pointer plr, .pointer prl, .pointer prr, .pointer pa, .pointer pb, .bool rt] 111 (0, 0))) := ⟨heap_alloc_new w _⟩
 generalize w.alloc (.cells #[.bool m, .pointer p, .pointer pl, .pointer pr, .pointer pll, .pointer plr, .pointer prl, .pointer prr, .pointer pa, .pointer pb, .bool rt] 111) = w1 at HB0 HV0 ⊢
 obtain ⟨g, hg⟩ : ∃ g, g = w.heap.size := ⟨_, rfl⟩
 rw [← hg] at HV0 ⊢
 clear hg
 have HB0_ := Am (bd HB0.out)
 have HV0_ : Aside0 (w1.drew.heap[g]? = some (.cells #[.bool m, .pointer p, .pointer pl, .pointer pr, .pointer pll, .pointer plr, .pointer prl, .pointer prr, .pointer pa, .pointer pb, .bool rt] 111 (0, 0))) := ⟨HV0.out⟩
 clear HB0 HV0 
 have HB0 := HB0_
 have HV0 := HV0_
 clear HB0_ HV0_
 refine start_ (n := 26) (S := fun w' => w'.cell? ⟨g, 0, none⟩ = some (.bool m) ∧ w'.cell? ⟨g, 1, none⟩ = some (.pointer p) ∧ w'.cell? ⟨g, 2, none⟩ = some (.pointer pl) ∧ w'.cell? ⟨g, 3, none⟩ = some (.pointer pr) ∧ w'.cell? ⟨g, 4, none⟩ = some (.pointer pll) ∧ w'.cell? ⟨g, 5, none⟩ = some (.pointer plr) ∧ w'.cell? ⟨g, 6, none⟩ = some (.pointer prl) ∧ w'.cell? ⟨g, 7, none⟩ = some (.pointer prr) ∧ w'.cell? ⟨g, 8, none⟩ = some (.pointer pa) ∧ w'.cell? ⟨g, 9, none⟩ = some (.pointer pb) ∧ w'.cell? ⟨g, 10, none⟩ = some (.bool rt)) (ds := []) #[false, false, false, false, false, false, false, false, false, false, false, false, false, false, false, false, false, false, false, false, false, false, false, false, false, false] (by kernel_rfl) rfl rfl ⟨(cell_of HV0.out 0).trans rfl, (cell_of HV0.out 1).trans rfl, (cell_of HV0.out 2).trans rfl, (cell_of HV0.out 3).trans rfl, (cell_of HV0.out 4).trans rfl, (cell_of HV0.out 5).trans rfl, (cell_of HV0.out 6).trans rfl, (cell_of HV0.out 7).trans rfl, (cell_of HV0.out 8).trans rfl, (cell_of HV0.out 9).trans rfl, (cell_of HV0.out 10).trans rfl⟩ (fun hHeld => ?_)
 refine pure_ (i := 1) (N := some 46) (v := ?_) (a' := ?_) #[false, true, false, false, false, false, false, false, false, false, false, false, false, false, false, false, false, false, false, false, false, false, false, false, false, false] rfl rfl (by kernel_rfl) (fun _ _ _ h => h) (Or.inl ⟨by rfl, ?_⟩) ?_ ?_
 rotate_left
 ·intro w'
  go_simp
  with_reducible rfl
 rotate_left
 ·simp only [Act.put, sI, sZ, sS, i64_w, i32_w]
  rfl
 refine pure_ (i := 3) (N := some 48) (v := ?_) (a' := ?_) #[false, true, false, true, false, false, false, false, false, false, false, false, false, false, false, false, false, false, false, false, false, false, false, false, false, false] rfl rfl (by kernel_rfl) (fun _ _ _ h => h) (Or.inl ⟨by rfl, ?_⟩) ?_ ?_
 rotate_left
 ·intro w'
  go_simp
  with_reducible rfl
 rotate_left
 ·simp only [Act.put, sI, sZ, sS, i64_w, i32_w]
  rfl
 refine pure_ (i := 5) (N := some 50) (v := ?_) (a' := ?_) #[false, true, false, true, false, true, false, false, false, false, false, false, false, false, false, false, false, false, false, false, false, false, false, false, false, false] rfl rfl (by kernel_rfl) (fun _ _ _ h => h) (Or.inl ⟨by rfl, ?_⟩) ?_ ?_
 rotate_left
 ·intro w'
  go_simp
  with_reducible rfl
 rotate_left
 ·simp only [Act.put, sI, sZ, sS, i64_w, i32_w]
  rfl
 refine pure_ (i := 7) (N := some 52) (v := ?_) (a' := ?_) #[false, true, false, true, false, true, false, true, false, false, false, false, false, false, false, false, false, false, false, false, false, false, false, false, false, false] rfl rfl (by kernel_rfl) (fun _ _ _ h => h) (Or.inl ⟨by rfl, ?_⟩) ?_ ?_
 rotate_left
 ·intro w'
  go_simp
  with_reducible rfl
 rotate_left
 ·simp only [Act.put, sI, sZ, sS, i64_w, i32_w]
  rfl
 refine pure_ (i := 10) (N := some 55) (v := ?_) (a' := ?_) #[false, true, false, true, false, true, false, true, false, false, true, false, false, false, false, false, false, false, false, false, false, false, false, false, false, false] rfl rfl (by kernel_rfl) (fun _ _ _ h => h) (Or.inl ⟨by rfl, ?_⟩) ?_ ?_
 rotate_left
 ·intro w'
  go_simp
  with_reducible rfl
 rotate_left
 ·simp only [Act.put, sI, sZ, sS, i64_w, i32_w]
  rfl
 refine pure_ (i := 15) (N := some 60) (v := ?_) (a' := ?_) #[false, true, false, true, false, true, false, true, false, false, true, false, false, false, false, true, false, false, false, false, false, false, false, false, false, false] rfl rfl (by kernel_rfl) (fun _ _ _ h => h) (Or.inl ⟨by rfl, ?_⟩) ?_ ?_
 rotate_left
 ·intro w'
  go_simp
  with_reducible rfl
 rotate_left
 ·simp only [Act.put, sI, sZ, sS, i64_w, i32_w]
  rfl
 refine pure_ (i := 18) (N := some 63) (v := ?_) (a' := ?_) #[false, true, false, true, false, true, false, true, false, false, true, false, false, false, false, true, false, false, true, false, false, false, false, false, false, false] rfl rfl (by kernel_rfl) (fun _ _ _ h => h) (Or.inl ⟨by rfl, ?_⟩) ?_ ?_
 rotate_left
 ·intro w'
  go_simp
  with_reducible rfl
 rotate_left
 ·simp only [Act.put, sI, sZ, sS, i64_w, i32_w]
  rfl
 refine pure_ (i := 21) (N := some 66) (v := ?_) (a' := ?_) #[false, true, false, true, false, true, false, true, false, false, true, false, false, false, false, true, false, false, true, false, false, true, false, false, false, false] rfl rfl (by kernel_rfl) (fun _ _ _ h => h) (Or.inl ⟨by rfl, ?_⟩) ?_ ?_
 rotate_left
 ·intro w'
  go_simp
  with_reducible rfl
 rotate_left
 ·simp only [Act.put, sI, sZ, sS, i64_w, i32_w]
  rfl
 refine take_ (i := 0) (N := some 45) (v := ?_) (a' := ?_) #[true, true, false, true, false, true, false, true, false, false, true, false, false, false, false, true, false, false, true, false, false, true, false, false, false, false] rfl rfl (by kernel_rfl) (fun _ _ _ h => h) (Or.inl ⟨by rfl, ?_⟩) hHeld ?_ ?_
 rotate_left
 ·rintro w' ⟨s0, s1, s2, s3, s4, s5, s6, s7, s8, s9, s10⟩
  go_simp
  with_reducible rfl
 rotate_left
 ·simp only [Act.put, sI, sZ, sS, i64_w, i32_w]
  rfl
 refine take_ (i := 2) (N := some 47) (v := ?_) (a' := ?_) #[true, true, true, true, false, true, false, true, false, false, true, false, false, false, false, true, false, false, true, false, false, true, false, false, false, false] rfl rfl (by kernel_rfl) (fun _ _ _ h => h) (Or.inl ⟨by rfl, ?_⟩) hHeld ?_ ?_
 rotate_left
 ·rintro w' ⟨s0, s1, s2, s3, s4, s5, s6, s7, s8, s9, s10⟩
  go_simp
  with_reducible rfl
 rotate_left
 ·simp only [Act.put, sI, sZ, sS, i64_w, i32_w]
  rfl
 refine take_ (i := 4) (N := some 49) (v := ?_) (a' := ?_) #[true, true, true, true, true, true, false, true, false, false, true, false, false, false, false, true, false, false, true, false, false, true, false, false, false, false] rfl rfl (by kernel_rfl) (fun _ _ _ h => h) (Or.inl ⟨by rfl, ?_⟩) hHeld ?_ ?_
 rotate_left
 ·rintro w' ⟨s0, s1, s2, s3, s4, s5, s6, s7, s8, s9, s10⟩
  go_simp
  with_reducible rfl
 rotate_left
 ·simp only [Act.put, sI, sZ, sS, i64_w, i32_w]
  rfl
 refine take_ (i := 6) (N := some 51) (v := ?_) (a' := ?_) #[true, true, true, true, true, true, true, true, false, false, true, false, false, false, false, true, false, false, true, false, false, true, false, false, false, false] rfl rfl (by kernel_rfl) (fun _ _ _ h => h) (Or.inl ⟨by rfl, ?_⟩) hHeld ?_ ?_
 rotate_left
 ·rintro w' ⟨s0, s1, s2, s3, s4, s5, s6, s7, s8, s9, s10⟩
  go_simp
  with_reducible rfl
 rotate_left
 ·simp only [Act.put, sI, sZ, sS, i64_w, i32_w]
  rfl
 refine take_ (i := 8) (N := some 53) (v := ?_) (a' := ?_) #[true, true, true, true, true, true, true, true, true, false, true, false, false, false, false, true, false, false, true, false, false, true, false, false, false, false] rfl rfl (by kernel_rfl) (fun _ _ _ h => h) (Or.inl ⟨by rfl, ?_⟩) hHeld ?_ ?_
 rotate_left
 ·rintro w' ⟨s0, s1, s2, s3, s4, s5, s6, s7, s8, s9, s10⟩
  go_simp
  with_reducible rfl
 rotate_left
 ·simp only [Act.put, sI, sZ, sS, i64_w, i32_w]
  rfl
 refine take_ (i := 9) (N := some 54) (v := ?_) (a' := ?_) #[true, true, true, true, true, true, true, true, true, true, true, false, false, false, false, true, false, false, true, false, false, true, false, false, false, false] rfl rfl (by kernel_rfl) (fun _ _ _ h => h) (Or.inl ⟨by rfl, ?_⟩) hHeld ?_ ?_
 rotate_left
 ·rintro w' ⟨s0, s1, s2, s3, s4, s5, s6, s7, s8, s9, s10⟩
  go_simp
  with_reducible rfl
 rotate_left
 ·simp only [Act.put, sI, sZ, sS, i64_w, i32_w]
  rfl
 refine take_ (i := 11) (N := some 56) (v := ?_) (a' := ?_) #[true, true, true, true, true, true, true, true, true, true, true, true, false, false, false, true, false, false, true, false, false, true, false, false, false, false] rfl rfl (by kernel_rfl) (fun _ _ _ h => h) (Or.inl ⟨by rfl, ?_⟩) hHeld ?_ ?_
 rotate_left
 ·rintro w' ⟨s0, s1, s2, s3, s4, s5, s6, s7, s8, s9, s10⟩
  go_simp
  with_reducible rfl
 rotate_left
 ·simp only [Act.put, sI, sZ, sS, i64_w, i32_w]
  rfl
 refine take_ (i := 14) (N := some 59) (v := ?_) (a' := ?_) #[true, true, true, true, true, true, true, true, true, true, true, true, false, false, true, true, false, false, true, false, false, true, false, false, false, false] rfl rfl (by kernel_rfl) (fun _ _ _ h => h) (Or.inl ⟨by rfl, ?_⟩) hHeld ?_ ?_
 rotate_left
 ·rintro w' ⟨s0, s1, s2, s3, s4, s5, s6, s7, s8, s9, s10⟩
  go_simp
  with_reducible rfl
 rotate_left
 ·simp only [Act.put, sI, sZ, sS, i64_w, i32_w]
  rfl
 refine take_ (i := 16) (N := some 61) (v := ?_) (a' := ?_) #[true, true, true, true, true, true, true, true, true, true, true, true, false, false, true, true, true, false, true, false, false, true, false, false, false, false] rfl rfl (by kernel_rfl) (fun _ _ _ h => h) (Or.inl ⟨by rfl, ?_⟩) hHeld ?_ ?_
 rotate_left
 ·rintro w' ⟨s0, s1, s2, s3, s4, s5, s6, s7, s8, s9, s10⟩
  go_simp
  with_reducible rfl
 rotate_left
 ·simp only [Act.put, sI, sZ, sS, i64_w, i32_w]
  rfl
 refine take_ (i := 17) (N := some 62) (v := ?_) (a' := ?_) #[true, true, true, true, true, true, true, true, true, true, true, true, false, false, true, true, true, true, true, false, false, true, false, false, false, false] rfl rfl (by kernel_rfl) (fun _ _ _ h => h) (Or.inl ⟨by rfl, ?_⟩) hHeld ?_ ?_
 rotate_left
 ·rintro w' ⟨s0, s1, s2, s3, s4, s5, s6, s7, s8, s9, s10⟩
  go_simp
  with_reducible rfl
 rotate_left
 ·simp only [Act.put, sI, sZ, sS, i64_w, i32_w]
  rfl
 refine take_ (i := 19) (N := some 64) (v := ?_) (a' := ?_) #[true, true, true, true, true, true, true, true, true, true, true, true, false, false, true, true, true, true, true, true, false, true, false, false, false, false] rfl rfl (by kernel_rfl) (fun _ _ _ h => h) (Or.inl ⟨by rfl, ?_⟩) hHeld ?_ ?_
 rotate_left
 ·rintro w' ⟨s0, s1, s2, s3, s4, s5, s6, s7, s8, s9, s10⟩
  go_simp
  with_reducible rfl
 rotate_left
 ·simp only [Act.put, sI, sZ, sS, i64_w, i32_w]
  rfl
 refine take_ (i := 22) (N := some 67) (v := ?_) (a' := ?_) #[true, true, true, true, true, true, true, true, true, true, true, true, false, false, true, true, true, true, true, true, false, true, true, false, false, false] rfl rfl (by kernel_rfl) (fun _ _ _ h => h) (Or.inl ⟨by rfl, ?_⟩) hHeld ?_ ?_
 rotate_left
 ·rintro w' ⟨s0, s1, s2, s3, s4, s5, s6, s7, s8, s9, s10⟩
  go_simp
  with_reducible rfl
 rotate_left
 ·simp only [Act.put, sI, sZ, sS, i64_w, i32_w]
  rfl
 refine one_ (i := 12) (N := some 57) #[true, true, true, true, true, true, true, true, true, true, true, true, true, false, true, true, true, true, true, true, false, true, true, false, false, false] rfl rfl (by kernel_rfl) (by decide) (fun K hK => ?_)
 refine goes_ Try.func85 (by kernel_rfl) rfl #[.agg #[.bool m, .pointer p, .pointer pl, .pointer pr, .pointer pll, .pointer plr, .pointer prl, .pointer prr, .pointer pa, .pointer pb, .bool rt], .pointer plr] (by rfl) rfl rfl (by (try simp only [List.map_toArray, List.map_cons, List.map_nil]); first | done | rfl) ?_
 with_reducible refine (left_any _ _ _ _ _ _ _ _ _ _ _ _ _ w _ Hlr.out HB0.out).mono ?_
 rintro e w1_ ⟨v', rfl, h1, h2⟩
 obtain ⟨q1, rfl⟩ := h1.ptr
 have HB1 := Am (HB0.out.trans (h2.mono HB0.out.size))
 have HNq1 := Am (Rep.below h1 HB1.out)
 have HV1 := Am ((h2.block _ (Array.getElem?_eq_some_iff.1 HV0.out).1).trans HV0.out)
 clear h1 h2 HB0 HV0
 refine ⟨_, rfl, ?_⟩
 refine hK.out _ _ ⟨(cell_of HV1.out 0).trans rfl, (cell_of HV1.out 1).trans rfl, (cell_of HV1.out 2).trans rfl, (cell_of HV1.out 3).trans rfl, (cell_of HV1.out 4).trans rfl, (cell_of HV1.out 5).trans rfl, (cell_of HV1.out 6).trans rfl, (cell_of HV1.out 7).trans rfl, (cell_of HV1.out 8).trans rfl, (cell_of HV1.out 9).trans rfl, (cell_of HV1.out 10).trans rfl⟩ (fun hHeld => ?_)
 clear hK K
 refine norm_ (a' := ?_) ?_ ?_
 rotate_left
 ·show Act.put _ (some 57) _ = _
  simp only [Act.put, sI, sZ, sS, i64_w, i32_w]
  rfl
 refine one_ (i := 13) (N := some 58) #[true, true, true, true, true, true, true, true, true, true, true, true, true, true, true, true, true, true, true, true, false, true, true, false, false, false] rfl rfl (by kernel_rfl) (by decide) (fun K hK => ?_)
 refine goes_ Try.func93 (by kernel_rfl) rfl #[.agg #[.bool m, .pointer p, .pointer pl, .pointer pr, .pointer pll, .pointer plr, .pointer prl, .pointer prr, .pointer pa, .pointer pb, .bool rt], .pointer pl, .int .i64 0, .pointer pll, .pointer q1] (by rfl) rfl rfl (by (try simp only [List.map_toArray, List.map_cons, List.map_nil]); first | done | rfl) ?_
 with_reducible refine (put_any _ _ _ _ _ _ _ _ _ _ _ _ _ _ _ _ _ _ _ _ _ _ (fun k hk => HSS.out k (Nat.le_trans HB1.out.size hk)) (by rw [← El.out]; exact (Hl.out.below HB1.out)) (Hll.out.below HB1.out) HNq1.out).mono ?_
 rw [show nl.f0 = keyT L from by rw [El.out]; rfl]
 rintro e w2_ ⟨v', rfl, h1, h2⟩
 obtain ⟨q2, rfl⟩ := h1.ptr
 have HB2 := Am (HB1.out.trans (h2.mono HB1.out.size))
 have HNq2 := Am (TopRep.rep h1 h2)
 have HV2 := Am ((h2.block _ (Array.getElem?_eq_some_iff.1 HV1.out).1).trans HV1.out)
 have HNq1_ := Am (Rep.below HNq1.out h2)
 clear HNq1
 have HNq1 := HNq1_
 clear HNq1_
 clear h1 h2 HB1 HV1
 refine ⟨_, rfl, ?_⟩
 refine hK.out _ _ ⟨(cell_of HV2.out 0).trans rfl, (cell_of HV2.out 1).trans rfl, (cell_of HV2.out 2).trans rfl, (cell_of HV2.out 3).trans rfl, (cell_of HV2.out 4).trans rfl, (cell_of HV2.out 5).trans rfl, (cell_of HV2.out 6).trans rfl, (cell_of HV2.out 7).trans rfl, (cell_of HV2.out 8).trans rfl, (cell_of HV2.out 9).trans rfl, (cell_of HV2.out 10).trans rfl⟩ (fun hHeld => ?_)
 clear hK K
 refine norm_ (a' := ?_) ?_ ?_
 rotate_left
 ·show Act.put _ (some 58) _ = _
  simp only [Act.put, sI, sZ, sS, i64_w, i32_w]
  rfl
 refine one_ (i := 20) (N := some 65) #[true, true, true, true, true, true, true, true, true, true, true, true, true, true, true, true, true, true, true, true, true, true, true, false, false, false] rfl rfl (by kernel_rfl) (by decide) (fun K hK => ?_)
 refine goes_ Try.func86 (by kernel_rfl) rfl #[.agg #[.bool m, .pointer p, .pointer pl, .pointer pr, .pointer pll, .pointer plr, .pointer prl, .pointer prr, .pointer pa, .pointer pb, .bool rt], .pointer plr] (by rfl) rfl rfl (by (try simp only [List.map_toArray, List.map_cons, List.map_nil]); first | done | rfl) ?_
 with_reducible refine (right_any _ _ _ _ _ _ _ _ _ _ _ _ _ w _ Hlr.out HB2.out).mono ?_
 rintro e w3_ ⟨v', rfl, h1, h2⟩
 obtain ⟨q3, rfl⟩ := h1.ptr
 have HB3 := Am (HB2.out.trans (h2.mono HB2.out.size))
 have HNq3 := Am (Rep.below h1 HB3.out)
 have HV3 := Am ((h2.block _ (Array.getElem?_eq_some_iff.1 HV2.out).1).trans HV2.out)
 have HNq1_ := Am (Rep.below HNq1.out h2)
 clear HNq1
 have HNq1 := HNq1_
 clear HNq1_
 have HNq2_ := Am (Rep.below HNq2.out h2)
 clear HNq2
 have HNq2 := HNq2_
 clear HNq2_
 clear h1 h2 HB2 HV2
 refine ⟨_, rfl, ?_⟩
 refine hK.out _ _ ⟨(cell_of HV3.out 0).trans rfl, (cell_of HV3.out 1).trans rfl, (cell_of HV3.out 2).trans rfl, (cell_of HV3.out 3).trans rfl, (cell_of HV3.out 4).trans rfl, (cell_of HV3.out 5).trans rfl, (cell_of HV3.out 6).trans rfl, (cell_of HV3.out 7).trans rfl, (cell_of HV3.out 8).trans rfl, (cell_of HV3.out 9).trans rfl, (cell_of HV3.out 10).trans rfl⟩ (fun hHeld => ?_)
 clear hK K
 refine norm_ (a' := ?_) ?_ ?_
 rotate_left
 ·show Act.put _ (some 65) _ = _
  simp only [Act.put, sI, sZ, sS, i64_w, i32_w]
  rfl
 refine one_ (i := 23) (N := some 68) #[true, true, true, true, true, true, true, true, true, true, true, true, true, true, true, true, true, true, true, true, true, true, true, true, false, false] rfl rfl (by kernel_rfl) (by decide) (fun K hK => ?_)
 refine goes_ Try.func93 (by kernel_rfl) rfl #[.agg #[.bool m, .pointer p, .pointer pl, .pointer pr, .pointer pll, .pointer plr, .pointer prl, .pointer prr, .pointer pa, .pointer pb, .bool rt], .pointer p, .int .i64 0, .pointer q3, .pointer pr] (by rfl) rfl rfl (by (try simp only [List.map_toArray, List.map_cons, List.map_nil]); first | done | rfl) ?_
 with_reducible refine (put_any _ _ _ _ _ _ _ _ _ _ _ _ _ _ _ _ _ _ _ _ _ _ (fun k hk => HSS.out k (Nat.le_trans HB3.out.size hk)) (by rw [← Ex.out]; exact (Hx.out.below HB3.out)) HNq3.out (Hr.out.below HB3.out)).mono ?_
 rw [show nx.f0 = keyT X from by rw [Ex.out]; rfl]
 rintro e w4_ ⟨v', rfl, h1, h2⟩
 obtain ⟨q4, rfl⟩ := h1.ptr
 have HB4 := Am (HB3.out.trans (h2.mono HB3.out.size))
 have HNq4 := Am (TopRep.rep h1 h2)
 have HV4 := Am ((h2.block _ (Array.getElem?_eq_some_iff.1 HV3.out).1).trans HV3.out)
 have HNq1_ := Am (Rep.below HNq1.out h2)
 clear HNq1
 have HNq1 := HNq1_
 clear HNq1_
 have HNq2_ := Am (Rep.below HNq2.out h2)
 clear HNq2
 have HNq2 := HNq2_
 clear HNq2_
 have HNq3_ := Am (Rep.below HNq3.out h2)
 clear HNq3
 have HNq3 := HNq3_
 clear HNq3_
 clear h1 h2 HB3 HV3
 refine ⟨_, rfl, ?_⟩
 refine hK.out _ _ ⟨(cell_of HV4.out 0).trans rfl, (cell_of HV4.out 1).trans rfl, (cell_of HV4.out 2).trans rfl, (cell_of HV4.out 3).trans rfl, (cell_of HV4.out 4).trans rfl, (cell_of HV4.out 5).trans rfl, (cell_of HV4.out 6).trans rfl, (cell_of HV4.out 7).trans rfl, (cell_of HV4.out 8).trans rfl, (cell_of HV4.out 9).trans rfl, (cell_of HV4.out 10).trans rfl⟩ (fun hHeld => ?_)
 clear hK K
 refine norm_ (a' := ?_) ?_ ?_
 rotate_left
 ·show Act.put _ (some 68) _ = _
  simp only [Act.put, sI, sZ, sS, i64_w, i32_w]
  rfl
 refine one_ (i := 24) (N := some 69) #[true, true, true, true, true, true, true, true, true, true, true, true, true, true, true, true, true, true, true, true, true, true, true, true, true, false] rfl rfl (by kernel_rfl) (by decide) (fun K hK => ?_)
 refine goes_ Try.func93 (by kernel_rfl) rfl #[.agg #[.bool m, .pointer p, .pointer pl, .pointer pr, .pointer pll, .pointer plr, .pointer prl, .pointer prr, .pointer pa, .pointer pb, .bool rt], .pointer plr, .int .i64 (wt X), .pointer q2, .pointer q4] (by rfl) rfl rfl (by (try simp only [List.map_toArray, List.map_cons, List.map_nil]); first | done | rfl) ?_
 with_reducible refine (put_any _ _ _ _ _ _ _ _ _ _ _ _ _ _ _ _ _ _ _ _ _ _ (fun k hk => HSS.out k (Nat.le_trans HB4.out.size hk)) (by rw [← Elr.out]; exact (Hlr.out.below HB4.out)) HNq2.out HNq4.out).mono ?_
 rw [show nlr.f0 = keyT LR from by rw [Elr.out]; rfl]
 rintro e w5_ ⟨v', rfl, h1, h2⟩
 obtain ⟨q5, rfl⟩ := h1.ptr
 have HB5 := Am (HB4.out.trans (h2.mono HB4.out.size))
 have HNq5 := Am (TopRep.rep h1 h2)
 have HTOP := Am h1
 have HTB := Am h2
 have HTW := HB4
 have HV5 := Am ((h2.block _ (Array.getElem?_eq_some_iff.1 HV4.out).1).trans HV4.out)
 have HNq1_ := Am (Rep.below HNq1.out h2)
 clear HNq1
 have HNq1 := HNq1_
 clear HNq1_
 have HNq2_ := Am (Rep.below HNq2.out h2)
 clear HNq2
 have HNq2 := HNq2_
 clear HNq2_
 have HNq3_ := Am (Rep.below HNq3.out h2)
 clear HNq3
 have HNq3 := HNq3_
 clear HNq3_
 have HNq4_ := Am (Rep.below HNq4.out h2)
 clear HNq4
 have HNq4 := HNq4_
 clear HNq4_
 clear h1 h2 HB4 HV4
 refine ⟨_, rfl, ?_⟩
 refine hK.out _ _ ⟨(cell_of HV5.out 0).trans rfl, (cell_of HV5.out 1).trans rfl, (cell_of HV5.out 2).trans rfl, (cell_of HV5.out 3).trans rfl, (cell_of HV5.out 4).trans rfl, (cell_of HV5.out 5).trans rfl, (cell_of HV5.out 6).trans rfl, (cell_of HV5.out 7).trans rfl, (cell_of HV5.out 8).trans rfl, (cell_of HV5.out 9).trans rfl, (cell_of HV5.out 10).trans rfl⟩ (fun hHeld => ?_)
 clear hK K
 refine norm_ (a' := ?_) ?_ ?_
 rotate_left
 ·show Act.put _ (some 69) _ = _
  simp only [Act.put, sI, sZ, sS, i64_w, i32_w]
  rfl
 refine pure_ (i := 25) (N := some 4) (v := ?_) (a' := ?_) #[true, true, true, true, true, true, true, true, true, true, true, true, true, true, true, true, true, true, true, true, true, true, true, true, true, true] rfl rfl (by kernel_rfl) (fun _ _ _ h => h) (Or.inl ⟨by rfl, ?_⟩) ?_ ?_
 rotate_left
 ·intro w'
  go_simp
  with_reducible rfl
 rotate_left
 ·simp only [Act.put, sI, sZ, sS, i64_w, i32_w]
  rfl
 refine done_ (by kernel_rfl) ?_
 try clear hHeld
 go_wp2
 go_ret
 exact HF.out _ _ _ HTW.out HTB.out HTOP.out
set_option maxHeartbeats 4000000 in
set_option maxRecDepth 100000 in
theorem do11_any (m rt : Bool) (p pl pr pll plr prl prr pa pb : Option Addr) {nx : S34} {qx : Int} {lx rx : Tr} {nl : S34} {ql : Int} {ll rl : Tr} {nr : S34} {qr : Int} {lr rr : Tr} {X : Tr} {L : Tr} {R : Tr} (w : World) (hS : ∀ k, w.heap.size ≤ k → S k) (ex : X = .node nx qx lx rx) (el : L = .node nl ql ll rl) (er : R = .node nr qr lr rr) (Hx : Aside0 (Rep S w (.pointer p) X)) (Hl : Aside0 (Rep S w (.pointer pl) L)) (Hr : Aside0 (Rep S w (.pointer pr) R)) :
  Calls Try.prog 65 #[.agg #[.bool m, .pointer p, .pointer pl, .pointer pr, .pointer pll, .pointer plr, .pointer prl, .pointer prr, .pointer pa, .pointer pb, .bool rt], .int .i64 11] w fun e w' => DoPost S w (putT m (keyT X) (wrap64 (wt X + 1)) (lessT L) (lessT R)) e w' := by
 have hu111 := Try.underlying111
 have Ex := Am ex
 clear ex
 have El := Am el
 clear el
 have Er := Am er
 clear er
 have HSS := Am hS
 clear hS
 have hfin := do_fin (S := S) w (putT m (keyT X) (wrap64 (wt X + 1)) (lessT L) (lessT R))
 have HF := Am hfin
 clear hfin
 go_enter Try.func65, Try.ntmps65
 go_wp2_with (fail)
 refine (weight_any _ _ _ (Hx.out.below ((Below.refl _ _).alloc (Nat.le_refl _) _))).mono ?_
 rintro e w' ⟨rfl, rfl⟩
 go_wp2
 have HB0 : Aside0 (Below w.heap.size w (w.alloc (.cells #[.bool m, .pointer p, .pointer pl, .pointer pr, .pointer pll, .pointer plr, .pointer prl, .pointer prr, .pointer pa, .pointer pb, .bool rt] 111))) := ⟨(Below.refl _ _).alloc (Nat.le_refl _) _⟩
 have HV0 : Aside0 ((w.alloc (.cells #[.bool m, .pointer p, .pointer pl, .pointer pr, .pointer pll, .pointer plr, .pointer prl, .pointer prr, .pointer pa, .pointer pb, .bool rt] 111)).heap[w.heap.size]? = some (.cells #[.bool m, .pointer p, .pointer pl, .pointer pr, .pointer pll, .pointer plr, .pointer prl, .pointer prr, .pointer pa, .pointer pb, .bool rt] 111 (0, 0))) := ⟨heap_alloc_new w _⟩
 generalize w.alloc (.cells #[.bool m, .pointer p, .pointer pl, .pointer pr, .pointer pll, .pointer plr, .pointer prl, .pointer prr, .pointer pa, .pointer pb, .bool rt] 111) = w1 at HB0 HV0 ⊢
 obtain ⟨g, hg⟩ : ∃ g, g = w.heap.size := ⟨_, rfl⟩
 rw [← hg] at HV0 ⊢
 clear hg
 have HB0_ := Am (bd HB0.out)
 have HV0_ : Aside0 (w1.drew.heap[g]? = some (.cells #[.bool m, .pointer p, .pointer pl, .pointer pr, .pointer pll, .pointer plr, .pointer prl, .pointer prr, .pointer pa, .pointer pb, .bool rt] 111 (0, 0))) := ⟨HV0.out⟩
 clear HB0 HV0 
 have HB0 := HB0_
 have HV0 := HV0_
 clear HB0_ HV0_
 refine start_ (n := 13) (S := fun w' => w'.cell? ⟨g, 0, none⟩ = some (.bool m) ∧ w'.cell? ⟨g, 1, none⟩ = some (.pointer p) ∧ w'.cell? ⟨g, 2, none⟩ = some (.pointer pl) ∧ w'.cell? ⟨g, 3, none⟩ = some (.pointer pr) ∧ w'.cell? ⟨g, 4, none⟩ = some (.pointer pll) ∧ w'.cell? ⟨g, 5, none⟩ = some (.pointer plr) ∧ w'.cell? ⟨g, 6, none⟩ = some (.pointer prl) ∧ w'.cell? ⟨g, 7, none⟩ = some (.pointer prr) ∧ w'.cell? ⟨g, 8, none⟩ = some (.pointer pa) ∧ w'.cell? ⟨g, 9, none⟩ = some (.pointer pb) ∧ w'.cell? ⟨g, 10, none⟩ = some (.bool rt)) (ds := []) #[false, false, false, false, false, false, false, false, false, false, false, false, false] (by kernel_rfl) rfl rfl ⟨(cell_of HV0.out 0).trans rfl, (cell_of HV0.out 1).trans rfl, (cell_of HV0.out 2).trans rfl, (cell_of HV0.out 3).trans rfl, (cell_of HV0.out 4).trans rfl, (cell_of HV0.out 5).trans rfl, (cell_of HV0.out 6).trans rfl, (cell_of HV0.out 7).trans rfl, (cell_of HV0.out 8).trans rfl, (cell_of HV0.out 9).trans rfl, (cell_of HV0.out 10).trans rfl⟩ (fun hHeld => ?_)
 refine pure_ (i := 1) (N := some 87) (v := ?_) (a' := ?_) #[false, true, false, false, false, false, false, false, false, false, false, false, false] rfl rfl (by kernel_rfl) (fun _ _ _ h => h) (Or.inl ⟨by rfl, ?_⟩) ?_ ?_
 rotate_left
 ·intro w'
  go_simp
  with_reducible rfl
 rotate_left
 ·simp only [Act.put, sI, sZ, sS, i64_w, i32_w]
  rfl
 refine pure_ (i := 3) (N := some 89) (v := ?_) (a' := ?_) #[false, true, false, true, false, false, false, false, false, false, false, false, false] rfl rfl (by kernel_rfl) (fun _ _ _ h => h) (Or.inl ⟨by rfl, ?_⟩) ?_ ?_
 rotate_left
 ·intro w'
  go_simp
  with_reducible rfl
 rotate_left
 ·simp only [Act.put, sI, sZ, sS, i64_w, i32_w]
  rfl
 refine pure_ (i := 4) (N := some 90) (v := ?_) (a' := ?_) #[false, true, false, true, true, false, false, false, false, false, false, false, false] rfl rfl (by kernel_rfl) (fun _ _ _ h => h) (Or.inl ⟨by rfl, ?_⟩) ?_ ?_
 rotate_left
 ·intro w'
  go_simp
  with_reducible rfl
 rotate_left
 ·simp only [Act.put, sI, sZ, sS, i64_w, i32_w]
  rfl
 refine pure_ (i := 5) (N := some 91) (v := ?_) (a' := ?_) #[false, true, false, true, true, true, false, false, false, false, false, false, false] rfl rfl (by kernel_rfl) (fun _ _ _ h => h) (Or.inl ⟨by rfl, ?_⟩) ?_ ?_
 rotate_left
 ·intro w'
  go_simp
  with_reducible rfl
 rotate_left
 ·simp only [Act.put, sI, sZ, sS, i64_w, i32_w]
  rfl
 refine pure_ (i := 8) (N := some 94) (v := ?_) (a' := ?_) #[false, true, false, true, true, true, false, false, true, false, false, false, false] rfl rfl (by kernel_rfl) (fun _ _ _ h => h) (Or.inl ⟨by rfl, ?_⟩) ?_ ?_
 rotate_left
 ·intro w'
  go_simp
  with_reducible rfl
 rotate_left
 ·simp only [Act.put, sI, sZ, sS, i64_w, i32_w]
  rfl
 refine take_ (i := 0) (N := some 86) (v := ?_) (a' := ?_) #[true, true, false, true, true, true, false, false, true, false, false, false, false] rfl rfl (by kernel_rfl) (fun _ _ _ h => h) (Or.inl ⟨by rfl, ?_⟩) hHeld ?_ ?_
 rotate_left
 ·rintro w' ⟨s0, s1, s2, s3, s4, s5, s6, s7, s8, s9, s10⟩
  go_simp
  with_reducible rfl
 rotate_left
 ·simp only [Act.put, sI, sZ, sS, i64_w, i32_w]
  rfl
 refine take_ (i := 2) (N := some 88) (v := ?_) (a' := ?_) #[true, true, true, true, true, true, false, false, true, false, false, false, false] rfl rfl (by kernel_rfl) (fun _ _ _ h => h) (Or.inl ⟨by rfl, ?_⟩) hHeld ?_ ?_
 rotate_left
 ·rintro w' ⟨s0, s1, s2, s3, s4, s5, s6, s7, s8, s9, s10⟩
  go_simp
  with_reducible rfl
 rotate_left
 ·simp only [Act.put, sI, sZ, sS, i64_w, i32_w]
  rfl
 refine take_ (i := 6) (N := some 92) (v := ?_) (a' := ?_) #[true, true, true, true, true, true, true, false, true, false, false, false, false] rfl rfl (by kernel_rfl) (fun _ _ _ h => h) (Or.inl ⟨by rfl, ?_⟩) hHeld ?_ ?_
 rotate_left
 ·rintro w' ⟨s0, s1, s2, s3, s4, s5, s6, s7, s8, s9, s10⟩
  go_simp
  with_reducible rfl
 rotate_left
 ·simp only [Act.put, sI, sZ, sS, i64_w, i32_w]
  rfl
 refine take_ (i := 9) (N := some 95) (v := ?_) (a' := ?_) #[true, true, true, true, true, true, true, false, true, true, false, false, false] rfl rfl (by kernel_rfl) (fun _ _ _ h => h) (Or.inl ⟨by rfl, ?_⟩) hHeld ?_ ?_
 rotate_left
 ·rintro w' ⟨s0, s1, s2, s3, s4, s5, s6, s7, s8, s9, s10⟩
  go_simp
  with_reducible rfl
 rotate_left
 ·simp only [Act.put, sI, sZ, sS, i64_w, i32_w]
  rfl
 refine one_ (i := 7) (N := some 93) #[true, true, true, true, true, true, true, true, true, true, false, false, false] rfl rfl (by kernel_rfl) (by decide) (fun K hK => ?_)
 refine goes_ Try.func95 (by kernel_rfl) rfl #[.pointer pl] (by rfl) rfl rfl (by (try simp only [List.map_toArray, List.map_cons, List.map_nil]); first | done | rfl) ?_
 with_reducible refine (less_any _ _ _ _ _ _ (fun k hk => HSS.out k (Nat.le_trans HB0.out.size hk)) (by rw [← El.out]; exact (Hl.out.below HB0.out))).mono ?_
 rw [← El.out]
 rintro e w1_ ⟨v', rfl, h1, h2⟩
 obtain ⟨q1, rfl⟩ := h1.ptr
 have HB1 := Am (HB0.out.trans (h2.mono HB0.out.size))
 have HNq1 := Am (TopRep.rep h1 h2)
 have HV1 := Am ((h2.block _ (Array.getElem?_eq_some_iff.1 HV0.out).1).trans HV0.out)
 clear h1 h2 HB0 HV0
 refine ⟨_, rfl, ?_⟩
 refine hK.out _ _ ⟨(cell_of HV1.out 0).trans rfl, (cell_of HV1.out 1).trans rfl, (cell_of HV1.out 2).trans rfl, (cell_of HV1.out 3).trans rfl, (cell_of HV1.out 4).trans rfl, (cell_of HV1.out 5).trans rfl, (cell_of HV1.out 6).trans rfl, (cell_of HV1.out 7).trans rfl, (cell_of HV1.out 8).trans rfl, (cell_of HV1.out 9).trans rfl, (cell_of HV1.out 10).trans rfl⟩ (fun hHeld => ?_)
 clear hK K
 refine norm_ (a' := ?_) ?_ ?_
 rotate_left
 ·show Act.put _ (some 93) _ = _
  simp only [Act.put, sI, sZ, sS, i64_w, i32_w]
  rfl
 refine one_ (i := 10) (N := some 96) #[true, true, true, true, true, true, true, true, true, true, true, false, false] rfl rfl (by kernel_rfl) (by decide) (fun K hK => ?_)
 refine goes_ Try.func95 (by kernel_rfl) rfl #[.pointer pr] (by rfl) rfl rfl (by (try simp only [List.map_toArray, List.map_cons, List.map_nil]); first | done | rfl) ?_
 with_reducible refine (less_any _ _ _ _ _ _ (fun k hk => HSS.out k (Nat.le_trans HB1.out.size hk)) (by rw [← Er.out]; exact (Hr.out.below HB1.out))).mono ?_
 rw [← Er.out]
 rintro e w2_ ⟨v', rfl, h1, h2⟩
 obtain ⟨q2, rfl⟩ := h1.ptr
 have HB2 := Am (HB1.out.trans (h2.mono HB1.out.size))
 have HNq2 := Am (TopRep.rep h1 h2)
 have HV2 := Am ((h2.block _ (Array.getElem?_eq_some_iff.1 HV1.out).1).trans HV1.out)
 have HNq1_ := Am (Rep.below HNq1.out h2)
 clear HNq1
 have HNq1 := HNq1_
 clear HNq1_
 clear h1 h2 HB1 HV1
 refine ⟨_, rfl, ?_⟩
 refine hK.out _ _ ⟨(cell_of HV2.out 0).trans rfl, (cell_of HV2.out 1).trans rfl, (cell_of HV2.out 2).trans rfl, (cell_of HV2.out 3).trans rfl, (cell_of HV2.out 4).trans rfl, (cell_of HV2.out 5).trans rfl, (cell_of HV2.out 6).trans rfl, (cell_of HV2.out 7).trans rfl, (cell_of HV2.out 8).trans rfl, (cell_of HV2.out 9).trans rfl, (cell_of HV2.out 10).trans rfl⟩ (fun hHeld => ?_)
 clear hK K
 refine norm_ (a' := ?_) ?_ ?_
 rotate_left
 ·show Act.put _ (some 96) _ = _
  simp only [Act.put, sI, sZ, sS, i64_w, i32_w]
  rfl
 refine one_ (i := 11) (N := some 97) #[true, true, true, true, true, true, true, true, true, true, true, true, false] rfl rfl (by kernel_rfl) (by decide) (fun K hK => ?_)
 refine goes_ Try.func93 (by kernel_rfl) rfl #[.agg #[.bool m, .pointer p, .pointer pl, .pointer pr, .pointer pll, .pointer plr, .pointer prl, .pointer prr, .pointer pa, .pointer pb, .bool rt], .pointer p, .int .i64 (wrap64 (wt X + 1)), .pointer q1, .pointer q2] (by rfl) rfl rfl (by (try simp only [List.map_toArray, List.map_cons, List.map_nil]); first | done | rfl) ?_
 with_reducible refine (put_any _ _ _ _ _ _ _ _ _ _ _ _ _ _ _ _ _ _ _ _ _ _ (fun k hk => HSS.out k (Nat.le_trans HB2.out.size hk)) (by rw [← Ex.out]; exact (Hx.out.below HB2.out)) HNq1.out HNq2.out).mono ?_
 rw [show nx.f0 = keyT X from by rw [Ex.out]; rfl]
 rintro e w3_ ⟨v', rfl, h1, h2⟩
 obtain ⟨q3, rfl⟩ := h1.ptr
 have HB3 := Am (HB2.out.trans (h2.mono HB2.out.size))
 have HNq3 := Am (TopRep.rep h1 h2)
 have HTOP := Am h1
 have HTB := Am h2
 have HTW := HB2
 have HV3 := Am ((h2.block _ (Array.getElem?_eq_some_iff.1 HV2.out).1).trans HV2.out)
 have HNq1_ := Am (Rep.below HNq1.out h2)
 clear HNq1
 have HNq1 := HNq1_
 clear HNq1_
 have HNq2_ := Am (Rep.below HNq2.out h2)
 clear HNq2
 have HNq2 := HNq2_
 clear HNq2_
 clear h1 h2 HB2 HV2
 refine ⟨_, rfl, ?_⟩
 refine hK.out _ _ ⟨(cell_of HV3.out 0).trans rfl, (cell_of HV3.out 1).trans rfl, (cell_of HV3.out 2).trans rfl, (cell_of HV3.out 3).trans rfl, (cell_of HV3.out 4).trans rfl, (cell_of HV3.out 5).trans rfl, (cell_of HV3.out 6).trans rfl, (cell_of HV3.out 7).trans rfl, (cell_of HV3.out 8).trans rfl, (cell_of HV3.out 9).trans rfl, (cell_of HV3.out 10).trans rfl⟩ (fun hHeld => ?_)
 clear hK K
 refine norm_ (a' := ?_) ?_ ?_
 rotate_left
 ·show Act.put _ (some 97) _ = _
  simp only [Act.put, sI, sZ, sS, i64_w, i32_w]
  rfl
 refine pure_ (i := 12) (N := some 4) (v := ?_) (a' := ?_) #[true, true, true, true, true, true, true, true, true, true, true, true, true] rfl rfl (by kernel_rfl) (fun _ _ _ h => h) (Or.inl ⟨by rfl, ?_⟩) ?_ ?_
 rotate_left
 ·intro w'
  go_simp
  with_reducible rfl
 rotate_left
 ·simp only [Act.put, sI, sZ, sS, i64_w, i32_w]
  rfl
 refine done_ (by kernel_rfl) ?_
 try clear hHeld
 go_wp2
 go_ret
 exact HF.out _ _ _ HTW.out HTB.out HTOP.out
end Go.Proofs.Ytgleaefhflamnaa.T
namespace Go.Proofs.Ytgleaefhflamnaa.T
open Go.RowKit Go.Proofs.YtgleaefhflamnaaW.PrintWords Go.Proofs.YtgleaefhflamnaaW.PrintLast Go.Proofs.YtgleaefhflamnaaW.PrintMore
variable {S : Nat → Prop}
set_option maxHeartbeats 4000000 in
set_option maxRecDepth 100000 in
theorem do9_any (m rt : Bool) (p pl pr pll plr prl prr pa pb : Option Addr) {nx : S34} {qx : Int} {lx rx : Tr} {nl : S34} {ql : Int} {ll rl : Tr} {nr : S34} {qr : Int} {lr rr : Tr} {nrr : S34} {qrr : Int} {lrr rrr : Tr} {X : Tr} {L : Tr} {R : Tr} {RL : Tr} {RR : Tr} (w : World) (hS : ∀ k, w.heap.size ≤ k → S k) (ex : X = .node nx qx lx rx) (el : L = .node nl ql ll rl) (er : R = .node nr qr lr rr) (err : RR = .node nrr qrr lrr rrr) (Hx : Aside0 (Rep S w (.pointer p) X)) (Hl : Aside0 (Rep S w (.pointer pl) L)) (Hr : Aside0 (Rep S w (.pointer pr) R)) (Hrl : Aside0 (Rep S w (.pointer prl) RL)) (Hrr : Aside0 (Rep S w (.pointer prr) RR)) :
  Calls Try.prog 65 #[.agg #[.bool m, .pointer p, .pointer pl, .pointer pr, .pointer pll, .pointer plr, .pointer prl, .pointer prr, .pointer pa, .pointer pb, .bool rt], .int .i64 9] w fun e w' => DoPost S w (putT m (keyT R) (wt X) (putT m (keyT X) 1 (lessT L) RL) (asT 1 RR)) e w' := by
 have hu111 := Try.underlying111
 have Ex := Am ex
 clear ex
 have El := Am el
 clear el
 have Er := Am er
 clear er
 have Err := Am err
 clear err
 have HSS := Am hS
 clear hS
 have hfin := do_fin (S := S) w (putT m (keyT R) (wt X) (putT m (keyT X) 1 (lessT L) RL) (asT 1 RR))
 have HF := Am hfin
 clear hfin
 go_enter Try.func65, Try.ntmps65
 go_wp2_with (fail)
 refine (weight_any _ _ _ (Hx.out.below ((Below.refl _ _).alloc (Nat.le_refl _) _))).mono ?_
 rintro e w' ⟨rfl, rfl⟩
 go_wp2
 have HB0 : Aside0 (Below w.heap.size w (w.alloc (.cells #[.bool m, .pointer p, .pointer pl, .pointer pr, .pointer pll, .pointer plr, .pointer prl, .pointer prr, .pointer pa, .pointer pb, .bool rt] 111))) := ⟨(Below.refl _ _).alloc (Nat.le_refl _) _⟩
 have HV0 : Aside0 ((w.alloc (.cells #[.bool m, .pointer p, .pointer pl, .pointer pr, .pointer pll, .pointer plr, .pointer prl, .pointer prr, .pointer pa, .pointer pb, .bool rt] 111)).heap[w.heap.size]? = some (.cells #[.bool m, .pointer p, .pointer pl, .pointer pr, .pointer pll, .pointer plr, .pointer prl, .pointer prr, .pointer pa, .pointer pb, .bool rt] 111 (0, 0))) := ⟨heap_alloc_new w _⟩
 generalize w.alloc (.cells #[.bool m, .pointer p, .pointer pl, .pointer pr, .pointer pll, .pointer plr, .pointer prl, .pointer prr, .pointer pa, .pointer pb, .bool rt] 111) = w1 at HB0 HV0 ⊢
 obtain ⟨g, hg⟩ : ∃ g, g = w.heap.size := ⟨_, rfl⟩
 rw [← hg] at HV0 ⊢
 clear hg
 have HB0_ := Am (bd HB0.out)
 have HV0_ : Aside0 (w1.drew.heap[g]? = some (.cells #[.bool m, .pointer p, .pointer pl, .pointer pr, .pointer pll, .pointer plr, .pointer prl, .pointer prr, .pointer pa, .pointer pb, .bool rt] 111 (0, 0))) := ⟨HV0.out⟩
 clear HB0 HV0 
 have HB0 := HB0_
 have HV0 := HV0_
 clear HB0_ HV0_
 refine start_ (n := 18) (S := fun w' => w'.cell? ⟨g, 0, none⟩ = some (.bool m) ∧ w'.cell? ⟨g, 1, none⟩ = some (.pointer p) ∧ w'.cell? ⟨g, 2, none⟩ = some (.pointer pl) ∧ w'.cell? ⟨g, 3, none⟩ = some (.pointer pr) ∧ w'.cell? ⟨g, 4, none⟩ = some (.pointer pll) ∧ w'.cell? ⟨g, 5, none⟩ = some (.pointer plr) ∧ w'.cell? ⟨g, 6, none⟩ = some (.pointer prl) ∧ w'.cell? ⟨g, 7, none⟩ = some (.pointer prr) ∧ w'.cell? ⟨g, 8, none⟩ = some (.pointer pa) ∧ w'.cell? ⟨g, 9, none⟩ = some (.pointer pb) ∧ w'.cell? ⟨g, 10, none⟩ = some (.bool rt)) (ds := []) #[false, false, false, false, false, false, false, false, false, false, false, false, false, false, false, false, false, false] (by kernel_rfl) rfl rfl ⟨(cell_of HV0.out 0).trans rfl, (cell_of HV0.out 1).trans rfl, (cell_of HV0.out 2).trans rfl, (cell_of HV0.out 3).trans rfl, (cell_of HV0.out 4).trans rfl, (cell_of HV0.out 5).trans rfl, (cell_of HV0.out 6).trans rfl, (cell_of HV0.out 7).trans rfl, (cell_of HV0.out 8).trans rfl, (cell_of HV0.out 9).trans rfl, (cell_of HV0.out 10).trans rfl⟩ (fun hHeld => ?_)
 refine pure_ (i := 1) (N := some 101) (v := ?_) (a' := ?_) #[false, true, false, false, false, false, false, false, false, false, false, false, false, false, false, false, false, false] rfl rfl (by kernel_rfl) (fun _ _ _ h => h) (Or.inl ⟨by rfl, ?_⟩) ?_ ?_
 rotate_left
 ·intro w'
  go_simp
  with_reducible rfl
 rotate_left
 ·simp only [Act.put, sI, sZ, sS, i64_w, i32_w]
  rfl
 refine pure_ (i := 3) (N := some 103) (v := ?_) (a' := ?_) #[false, true, false, true, false, false, false, false, false, false, false, false, false, false, false, false, false, false] rfl rfl (by kernel_rfl) (fun _ _ _ h => h) (Or.inl ⟨by rfl, ?_⟩) ?_ ?_
 rotate_left
 ·intro w'
  go_simp
  with_reducible rfl
 rotate_left
 ·simp only [Act.put, sI, sZ, sS, i64_w, i32_w]
  rfl
 refine pure_ (i := 5) (N := some 105) (v := ?_) (a' := ?_) #[false, true, false, true, false, true, false, false, false, false, false, false, false, false, false, false, false, false] rfl rfl (by kernel_rfl) (fun _ _ _ h => h) (Or.inl ⟨by rfl, ?_⟩) ?_ ?_
 rotate_left
 ·intro w'
  go_simp
  with_reducible rfl
 rotate_left
 ·simp only [Act.put, sI, sZ, sS, i64_w, i32_w]
  rfl
 refine pure_ (i := 7) (N := some 107) (v := ?_) (a' := ?_) #[false, true, false, true, false, true, false, true, false, false, false, false, false, false, false, false, false, false] rfl rfl (by kernel_rfl) (fun _ _ _ h => h) (Or.inl ⟨by rfl, ?_⟩) ?_ ?_
 rotate_left
 ·intro w'
  go_simp
  with_reducible rfl
 rotate_left
 ·simp only [Act.put, sI, sZ, sS, i64_w, i32_w]
  rfl
 refine pure_ (i := 10) (N := some 110) (v := ?_) (a' := ?_) #[false, true, false, true, false, true, false, true, false, false, true, false, false, false, false, false, false, false] rfl rfl (by kernel_rfl) (fun _ _ _ h => h) (Or.inl ⟨by rfl, ?_⟩) ?_ ?_
 rotate_left
 ·intro w'
  go_simp
  with_reducible rfl
 rotate_left
 ·simp only [Act.put, sI, sZ, sS, i64_w, i32_w]
  rfl
 refine pure_ (i := 13) (N := some 113) (v := ?_) (a' := ?_) #[false, true, false, true, false, true, false, true, false, false, true, false, false, true, false, false, false, false] rfl rfl (by kernel_rfl) (fun _ _ _ h => h) (Or.inl ⟨by rfl, ?_⟩) ?_ ?_
 rotate_left
 ·intro w'
  go_simp
  with_reducible rfl
 rotate_left
 ·simp only [Act.put, sI, sZ, sS, i64_w, i32_w]
  rfl
 refine take_ (i := 0) (N := some 100) (v := ?_) (a' := ?_) #[true, true, false, true, false, true, false, true, false, false, true, false, false, true, false, false, false, false] rfl rfl (by kernel_rfl) (fun _ _ _ h => h) (Or.inl ⟨by rfl, ?_⟩) hHeld ?_ ?_
 rotate_left
 ·rintro w' ⟨s0, s1, s2, s3, s4, s5, s6, s7, s8, s9, s10⟩
  go_simp
  with_reducible rfl
 rotate_left
 ·simp only [Act.put, sI, sZ, sS, i64_w, i32_w]
  rfl
 refine take_ (i := 2) (N := some 102) (v := ?_) (a' := ?_) #[true, true, true, true, false, true, false, true, false, false, true, false, false, true, false, false, false, false] rfl rfl (by kernel_rfl) (fun _ _ _ h => h) (Or.inl ⟨by rfl, ?_⟩) hHeld ?_ ?_
 rotate_left
 ·rintro w' ⟨s0, s1, s2, s3, s4, s5, s6, s7, s8, s9, s10⟩
  go_simp
  with_reducible rfl
 rotate_left
 ·simp only [Act.put, sI, sZ, sS, i64_w, i32_w]
  rfl
 refine take_ (i := 4) (N := some 104) (v := ?_) (a' := ?_) #[true, true, true, true, true, true, false, true, false, false, true, false, false, true, false, false, false, false] rfl rfl (by kernel_rfl) (fun _ _ _ h => h) (Or.inl ⟨by rfl, ?_⟩) hHeld ?_ ?_
 rotate_left
 ·rintro w' ⟨s0, s1, s2, s3, s4, s5, s6, s7, s8, s9, s10⟩
  go_simp
  with_reducible rfl
 rotate_left
 ·simp only [Act.put, sI, sZ, sS, i64_w, i32_w]
  rfl
 refine take_ (i := 6) (N := some 106) (v := ?_) (a' := ?_) #[true, true, true, true, true, true, true, true, false, false, true, false, false, true, false, false, false, false] rfl rfl (by kernel_rfl) (fun _ _ _ h => h) (Or.inl ⟨by rfl, ?_⟩) hHeld ?_ ?_
 rotate_left
 ·rintro w' ⟨s0, s1, s2, s3, s4, s5, s6, s7, s8, s9, s10⟩
  go_simp
  with_reducible rfl
 rotate_left
 ·simp only [Act.put, sI, sZ, sS, i64_w, i32_w]
  rfl
 refine take_ (i := 8) (N := some 108) (v := ?_) (a' := ?_) #[true, true, true, true, true, true, true, true, true, false, true, false, false, true, false, false, false, false] rfl rfl (by kernel_rfl) (fun _ _ _ h => h) (Or.inl ⟨by rfl, ?_⟩) hHeld ?_ ?_
 rotate_left
 ·rintro w' ⟨s0, s1, s2, s3, s4, s5, s6, s7, s8, s9, s10⟩
  go_simp
  with_reducible rfl
 rotate_left
 ·simp only [Act.put, sI, sZ, sS, i64_w, i32_w]
  rfl
 refine take_ (i := 11) (N := some 111) (v := ?_) (a' := ?_) #[true, true, true, true, true, true, true, true, true, false, true, true, false, true, false, false, false, false] rfl rfl (by kernel_rfl) (fun _ _ _ h => h) (Or.inl ⟨by rfl, ?_⟩) hHeld ?_ ?_
 rotate_left
 ·rintro w' ⟨s0, s1, s2, s3, s4, s5, s6, s7, s8, s9, s10⟩
  go_simp
  with_reducible rfl
 rotate_left
 ·simp only [Act.put, sI, sZ, sS, i64_w, i32_w]
  rfl
 refine take_ (i := 14) (N := some 114) (v := ?_) (a' := ?_) #[true, true, true, true, true, true, true, true, true, false, true, true, false, true, true, false, false, false] rfl rfl (by kernel_rfl) (fun _ _ _ h => h) (Or.inl ⟨by rfl, ?_⟩) hHeld ?_ ?_
 rotate_left
 ·rintro w' ⟨s0, s1, s2, s3, s4, s5, s6, s7, s8, s9, s10⟩
  go_simp
  with_reducible rfl
 rotate_left
 ·simp only [Act.put, sI, sZ, sS, i64_w, i32_w]
  rfl
 refine one_ (i := 9) (N := some 109) #[true, true, true, true, true, true, true, true, true, true, true, true, false, true, true, false, false, false] rfl rfl (by kernel_rfl) (by decide) (fun K hK => ?_)
 refine goes_ Try.func95 (by kernel_rfl) rfl #[.pointer pl] (by rfl) rfl rfl (by (try simp only [List.map_toArray, List.map_cons, List.map_nil]); first | done | rfl) ?_
 with_reducible refine (less_any _ _ _ _ _ _ (fun k hk => HSS.out k (Nat.le_trans HB0.out.size hk)) (by rw [← El.out]; exact (Hl.out.below HB0.out))).mono ?_
 rw [← El.out]
 rintro e w1_ ⟨v', rfl, h1, h2⟩
 obtain ⟨q1, rfl⟩ := h1.ptr
 have HB1 := Am (HB0.out.trans (h2.mono HB0.out.size))
 have HNq1 := Am (TopRep.rep h1 h2)
 have HV1 := Am ((h2.block _ (Array.getElem?_eq_some_iff.1 HV0.out).1).trans HV0.out)
 clear h1 h2 HB0 HV0
 refine ⟨_, rfl, ?_⟩
 refine hK.out _ _ ⟨(cell_of HV1.out 0).trans rfl, (cell_of HV1.out 1).trans rfl, (cell_of HV1.out 2).trans rfl, (cell_of HV1.out 3).trans rfl, (cell_of HV1.out 4).trans rfl, (cell_of HV1.out 5).trans rfl, (cell_of HV1.out 6).trans rfl, (cell_of HV1.out 7).trans rfl, (cell_of HV1.out 8).trans rfl, (cell_of HV1.out 9).trans rfl, (cell_of HV1.out 10).trans rfl⟩ (fun hHeld => ?_)
 clear hK K
 refine norm_ (a' := ?_) ?_ ?_
 rotate_left
 ·show Act.put _ (some 109) _ = _
  simp only [Act.put, sI, sZ, sS, i64_w, i32_w]
  rfl
 refine one_ (i := 12) (N := some 112) #[true, true, true, true, true, true, true, true, true, true, true, true, true, true, true, false, false, false] rfl rfl (by kernel_rfl) (by decide) (fun K hK => ?_)
 refine goes_ Try.func93 (by kernel_rfl) rfl #[.agg #[.bool m, .pointer p, .pointer pl, .pointer pr, .pointer pll, .pointer plr, .pointer prl, .pointer prr, .pointer pa, .pointer pb, .bool rt], .pointer p, .int .i64 1, .pointer q1, .pointer prl] (by rfl) rfl rfl (by (try simp only [List.map_toArray, List.map_cons, List.map_nil]); first | done | rfl) ?_
 with_reducible refine (put_any _ _ _ _ _ _ _ _ _ _ _ _ _ _ _ _ _ _ _ _ _ _ (fun k hk => HSS.out k (Nat.le_trans HB1.out.size hk)) (by rw [← Ex.out]; exact (Hx.out.below HB1.out)) HNq1.out (Hrl.out.below HB1.out)).mono ?_
 rw [show nx.f0 = keyT X from by rw [Ex.out]; rfl]
 rintro e w2_ ⟨v', rfl, h1, h2⟩
 obtain ⟨q2, rfl⟩ := h1.ptr
 have HB2 := Am (HB1.out.trans (h2.mono HB1.out.size))
 have HNq2 := Am (TopRep.rep h1 h2)
 have HV2 := Am ((h2.block _ (Array.getElem?_eq_some_iff.1 HV1.out).1).trans HV1.out)
 have HNq1_ := Am (Rep.below HNq1.out h2)
 clear HNq1
 have HNq1 := HNq1_
 clear HNq1_
 clear h1 h2 HB1 HV1
 refine ⟨_, rfl, ?_⟩
 refine hK.out _ _ ⟨(cell_of HV2.out 0).trans rfl, (cell_of HV2.out 1).trans rfl, (cell_of HV2.out 2).trans rfl, (cell_of HV2.out 3).trans rfl, (cell_of HV2.out 4).trans rfl, (cell_of HV2.out 5).trans rfl, (cell_of HV2.out 6).trans rfl, (cell_of HV2.out 7).trans rfl, (cell_of HV2.out 8).trans rfl, (cell_of HV2.out 9).trans rfl, (cell_of HV2.out 10).trans rfl⟩ (fun hHeld => ?_)
 clear hK K
 refine norm_ (a' := ?_) ?_ ?_
 rotate_left
 ·show Act.put _ (some 112) _ = _
  simp only [Act.put, sI, sZ, sS, i64_w, i32_w]
  rfl
 refine one_ (i := 15) (N := some 115) #[true, true, true, true, true, true, true, true, true, true, true, true, true, true, true, true, false, false] rfl rfl (by kernel_rfl) (by decide) (fun K hK => ?_)
 refine goes_ Try.func94 (by kernel_rfl) rfl #[.pointer prr, .int .i64 1] (by rfl) rfl rfl (by (try simp only [List.map_toArray, List.map_cons, List.map_nil]); first | done | rfl) ?_
 with_reducible refine (as_any _ _ _ _ _ _ _ (fun k hk => HSS.out k (Nat.le_trans HB2.out.size hk)) (by rw [← Err.out]; exact (Hrr.out.below HB2.out))).mono ?_
 rw [← Err.out]
 rintro e w3_ ⟨v', rfl, h1, h2⟩
 obtain ⟨q3, rfl⟩ := h1.ptr
 have HB3 := Am (HB2.out.trans (h2.mono HB2.out.size))
 have HNq3 := Am (TopRep.rep h1 h2)
 have HV3 := Am ((h2.block _ (Array.getElem?_eq_some_iff.1 HV2.out).1).trans HV2.out)
 have HNq1_ := Am (Rep.below HNq1.out h2)
 clear HNq1
 have HNq1 := HNq1_
 clear HNq1_
 have HNq2_ := Am (Rep.below HNq2.out h2)
 clear HNq2
 have HNq2 := HNq2_
 clear HNq2_
 clear h1 h2 HB2 HV2
 refine ⟨_, rfl, ?_⟩
 refine hK.out _ _ ⟨(cell_of HV3.out 0).trans rfl, (cell_of HV3.out 1).trans rfl, (cell_of HV3.out 2).trans rfl, (cell_of HV3.out 3).trans rfl, (cell_of HV3.out 4).trans rfl, (cell_of HV3.out 5).trans rfl, (cell_of HV3.out 6).trans rfl, (cell_of HV3.out 7).trans rfl, (cell_of HV3.out 8).trans rfl, (cell_of HV3.out 9).trans rfl, (cell_of HV3.out 10).trans rfl⟩ (fun hHeld => ?_)
 clear hK K
 refine norm_ (a' := ?_) ?_ ?_
 rotate_left
 ·show Act.put _ (some 115) _ = _
  simp only [Act.put, sI, sZ, sS, i64_w, i32_w]
  rfl
 refine one_ (i := 16) (N := some 116) #[true, true, true, true, true, true, true, true, true, true, true, true, true, true, true, true, true, false] rfl rfl (by kernel_rfl) (by decide) (fun K hK => ?_)
 refine goes_ Try.func93 (by kernel_rfl) rfl #[.agg #[.bool m, .pointer p, .pointer pl, .pointer pr, .pointer pll, .pointer plr, .pointer prl, .pointer prr, .pointer pa, .pointer pb, .bool rt], .pointer pr, .int .i64 (wt X), .pointer q2, .pointer q3] (by rfl) rfl rfl (by (try simp only [List.map_toArray, List.map_cons, List.map_nil]); first | done | rfl) ?_
 with_reducible refine (put_any _ _ _ _ _ _ _ _ _ _ _ _ _ _ _ _ _ _ _ _ _ _ (fun k hk => HSS.out k (Nat.le_trans HB3.out.size hk)) (by rw [← Er.out]; exact (Hr.out.below HB3.out)) HNq2.out HNq3.out).mono ?_
 rw [show nr.f0 = keyT R from by rw [Er.out]; rfl]
 rintro e w4_ ⟨v', rfl, h1, h2⟩
 obtain ⟨q4, rfl⟩ := h1.ptr
 have HB4 := Am (HB3.out.trans (h2.mono HB3.out.size))
 have HNq4 := Am (TopRep.rep h1 h2)
 have HTOP := Am h1
 have HTB := Am h2
 have HTW := HB3
 have HV4 := Am ((h2.block _ (Array.getElem?_eq_some_iff.1 HV3.out).1).trans HV3.out)
 have HNq1_ := Am (Rep.below HNq1.out h2)
 clear HNq1
 have HNq1 := HNq1_
 clear HNq1_
 have HNq2_ := Am (Rep.below HNq2.out h2)
 clear HNq2
 have HNq2 := HNq2_
 clear HNq2_
 have HNq3_ := Am (Rep.below HNq3.out h2)
 clear HNq3
 have HNq3 := HNq3_
 clear HNq3_
 clear h1 h2 HB3 HV3
 refine ⟨_, rfl, ?_⟩
 refine hK.out _ _ ⟨(cell_of HV4.out 0).trans rfl, (cell_of HV4.out 1).trans rfl, (cell_of HV4.out 2).trans rfl, (cell_of HV4.out 3).trans rfl, (cell_of HV4.out 4).trans rfl, (cell_of HV4.out 5).trans rfl, (cell_of HV4.out 6).trans rfl, (cell_of HV4.out 7).trans rfl, (cell_of HV4.out 8).trans rfl, (cell_of HV4.out 9).trans rfl, (cell_of HV4.out 10).trans rfl⟩ (fun hHeld => ?_)
 clear hK K
 refine norm_ (a' := ?_) ?_ ?_
 rotate_left
 ·show Act.put _ (some 116) _ = _
  simp only [Act.put, sI, sZ, sS, i64_w, i32_w]
  rfl
 refine pure_ (i := 17) (N := some 4) (v := ?_) (a' := ?_) #[true, true, true, true, true, true, true, true, true, true, true, true, true, true, true, true, true, true] rfl rfl (by kernel_rfl) (fun _ _ _ h => h) (Or.inl ⟨by rfl, ?_⟩) ?_ ?_
 rotate_left
 ·intro w'
  go_simp
  with_reducible rfl
 rotate_left
 ·simp only [Act.put, sI, sZ, sS, i64_w, i32_w]
  rfl
 refine done_ (by kernel_rfl) ?_
 try clear hHeld
 go_wp2
 go_ret
 exact HF.out _ _ _ HTW.out HTB.out HTOP.out
set_option maxHeartbeats 4000000 in
set_option maxRecDepth 100000 in
theorem do10_any (m rt : Bool) (p pl pr pll plr prl prr pa pb : Option Addr) {nx : S34} {qx : Int} {lx rx : Tr} {nl : S34} {ql : Int} {ll rl : Tr} {nr : S34} {qr : Int} {lr rr : Tr} {nrl : S34} {qrl : Int} {lrl rrl : Tr} {X : Tr} {L : Tr} {R : Tr} {RL : Tr} {RR : Tr} {A : Tr} {B : Tr} (w : World) (hS : ∀ k, w.heap.size ≤ k → S k) (ex : X = .node nx qx lx rx) (el : L = .node nl ql ll rl) (er : R = .node nr qr lr rr) (erl : RL = .node nrl qrl lrl rrl) (Hx : Aside0 (Rep S w (.pointer p) X)) (Hl : Aside0 (Rep S w (.pointer pl) L)) (Hr : Aside0 (Rep S w (.pointer pr) R)) (Hrl : Aside0 (Rep S w (.pointer prl) RL)) (Hrr : Aside0 (Rep S w (.pointer prr) RR)) (Ha : Aside0 (Rep S w (.pointer pa) A)) (Hb : Aside0 (Rep S w (.pointer pb) B)) :
  Calls Try.prog 65 #[.agg #[.bool m, .pointer p, .pointer pl, .pointer pr, .pointer pll, .pointer plr, .pointer prl, .pointer prr, .pointer pa, .pointer pb, .bool rt], .int .i64 10] w fun e w' => DoPost S w (putT m (keyT RL) (wt X) (putT m (keyT X) 1 (lessT L) A) (putT m (keyT R) 1 B RR)) e w' := by
 have hu111 := Try.underlying111
 have Ex := Am ex
 clear ex
 have El := Am el
 clear el
 have Er := Am er
 clear er
 have Erl := Am erl
 clear erl
 have HSS := Am hS
 clear hS
 have hfin := do_fin (S := S) w (putT m (keyT RL) (wt X) (putT m (keyT X) 1 (lessT L) A) (putT m (keyT R) 1 B RR))
 have HF := Am hfin
 clear hfin
 go_enter Try.func65, Try.ntmps65
 go_wp2_with (fail)
 refine (weight_any _ _ _ (Hx.out.below ((Below.refl _ _).alloc (Nat.le_refl _) _))).mono ?_
 rintro e w' ⟨rfl, rfl⟩
 go_wp2
 have HB0 : Aside0 (Below w.heap.size w (w.alloc (.cells #[.bool m, .pointer p, .pointer pl, .pointer pr, .pointer pll, .pointer plr, .pointer prl, .pointer prr, .pointer pa, .pointer pb, .bool rt] 111))) := ⟨(Below.refl _ _).alloc (Nat.le_refl _) _⟩
 have HV0 : Aside0 ((w.alloc (.cells #[.bool m, .pointer p, .pointer pl, .pointer pr, .pointer pll, .pointer plr, .pointer prl, .pointer prr, .pointer pa, .pointer pb, .bool rt] 111)).heap[w.heap.size]? = some (.cells #[.bool m, .pointer p, .pointer pl, .pointer pr, .pointer pll, .pointer plr, .pointer prl, .pointer prr, .pointer pa, .pointer pb, .bool rt] 111 (0, 0))) := ⟨heap_alloc_new w _⟩
 generalize w.alloc (.cells #[.bool m, .pointer p, .pointer pl, .pointer pr, .pointer pll, .pointer plr, .pointer prl, .pointer prr, .pointer pa, .pointer pb, .bool rt] 111) = w1 at HB0 HV0 ⊢
 obtain ⟨g, hg⟩ : ∃ g, g = w.heap.size := ⟨_, rfl⟩
 rw [← hg] at HV0 ⊢
 clear hg
 have HB0_ := Am (bd HB0.out)
 have HV0_ : Aside0 (w1.drew.heap[g]? = some (.cells #[.bool m, .pointer p, .pointer pl, .pointer pr, .pointer pll, .pointer plr, .pointer prl, .pointer prr, .pointer pa, .pointer pb, .bool rt] 111 (0, 0))) := ⟨HV0.out⟩
 clear HB0 HV0 
 have HB0 := HB0_
 have HV0 := HV0_
 clear HB0_ HV0_
 refine start_ (n := 23) (S := fun w' => w'.cell? ⟨g, 0, none⟩ = some (.bool m) ∧ w'.cell? ⟨g, 1, none⟩ = some (.pointer p) ∧ w'.cell? ⟨g, 2, none⟩ = some (.pointer pl) ∧ w'.cell? ⟨g, 3, none⟩ = some (.pointer pr) ∧ w'.cell? ⟨g, 4, none⟩ = some (.pointer pll) ∧ w'.cell? ⟨g, 5, none⟩ = some (.pointer plr) ∧ w'.cell? ⟨g, 6, none⟩ = some (.pointer prl) ∧ w'.cell? ⟨g, 7, none⟩ = some (.pointer prr) ∧ w'.cell? ⟨g, 8, none⟩ = some (.pointer pa) ∧ w'.cell? ⟨g, 9, none⟩ = some (.pointer pb) ∧ w'.cell? ⟨g, 10, none⟩ = some (.bool rt)) (ds := []) #[false, false, false, false, false, false, false, false, false, false, false, false, false, false, false, false, false, false, false, false, false, false, false] (by kernel_rfl) rfl rfl ⟨(cell_of HV0.out 0).trans rfl, (cell_of HV0.out 1).trans rfl, (cell_of HV0.out 2).trans rfl, (cell_of HV0.out 3).trans rfl, (cell_of HV0.out 4).trans rfl, (cell_of HV0.out 5).trans rfl, (cell_of HV0.out 6).trans rfl, (cell_of HV0.out 7).trans rfl, (cell_of HV0.out 8).trans rfl, (cell_of HV0.out 9).trans rfl, (cell_of HV0.out 10).trans rfl⟩ (fun hHeld => ?_)
 refine pure_ (i := 1) (N := some 120) (v := ?_) (a' := ?_) #[false, true, false, false, false, false, false, false, false, false, false, false, false, false, false, false, false, false, false, false, false, false, false] rfl rfl (by kernel_rfl) (fun _ _ _ h => h) (Or.inl ⟨by rfl, ?_⟩) ?_ ?_
 rotate_left
 ·intro w'
  go_simp
  with_reducible rfl
 rotate_left
 ·simp only [Act.put, sI, sZ, sS, i64_w, i32_w]
  rfl
 refine pure_ (i := 3) (N := some 122) (v := ?_) (a' := ?_) #[false, true, false, true, false, false, false, false, false, false, false, false, false, false, false, false, false, false, false, false, false, false, false] rfl rfl (by kernel_rfl) (fun _ _ _ h => h) (Or.inl ⟨by rfl, ?_⟩) ?_ ?_
 rotate_left
 ·intro w'
  go_simp
  with_reducible rfl
 rotate_left
 ·simp only [Act.put, sI, sZ, sS, i64_w, i32_w]
  rfl
 refine pure_ (i := 5) (N := some 124) (v := ?_) (a' := ?_) #[false, true, false, true, false, true, false, false, false, false, false, false, false, false, false, false, false, false, false, false, false, false, false] rfl rfl (by kernel_rfl) (fun _ _ _ h => h) (Or.inl ⟨by rfl, ?_⟩) ?_ ?_
 rotate_left
 ·intro w'
  go_simp
  with_reducible rfl
 rotate_left
 ·simp only [Act.put, sI, sZ, sS, i64_w, i32_w]
  rfl
 refine pure_ (i := 7) (N := some 126) (v := ?_) (a' := ?_) #[false, true, false, true, false, true, false, true, false, false, false, false, false, false, false, false, false, false, false, false, false, false, false] rfl rfl (by kernel_rfl) (fun _ _ _ h => h) (Or.inl ⟨by rfl, ?_⟩) ?_ ?_
 rotate_left
 ·intro w'
  go_simp
  with_reducible rfl
 rotate_left
 ·simp only [Act.put, sI, sZ, sS, i64_w, i32_w]
  rfl
 refine pure_ (i := 10) (N := some 129) (v := ?_) (a' := ?_) #[false, true, false, true, false, true, false, true, false, false, true, false, false, false, false, false, false, false, false, false, false, false, false] rfl rfl (by kernel_rfl) (fun _ _ _ h => h) (Or.inl ⟨by rfl, ?_⟩) ?_ ?_
 rotate_left
 ·intro w'
  go_simp
  with_reducible rfl
 rotate_left
 ·simp only [Act.put, sI, sZ, sS, i64_w, i32_w]
  rfl
 refine pure_ (i := 14) (N := some 133) (v := ?_) (a' := ?_) #[false, true, false, true, false, true, false, true, false, false, true, false, false, false, true, false, false, false, false, false, false, false, false] rfl rfl (by kernel_rfl) (fun _ _ _ h => h) (Or.inl ⟨by rfl, ?_⟩) ?_ ?_
 rotate_left
 ·intro w'
  go_simp
  with_reducible rfl
 rotate_left
 ·simp only [Act.put, sI, sZ, sS, i64_w, i32_w]
  rfl
 refine pure_ (i := 16) (N := some 135) (v := ?_) (a' := ?_) #[false, true, false, true, false, true, false, true, false, false, true, false, false, false, true, false, true, false, false, false, false, false, false] rfl rfl (by kernel_rfl) (fun _ _ _ h => h) (Or.inl ⟨by rfl, ?_⟩) ?_ ?_
 rotate_left
 ·intro w'
  go_simp
  with_reducible rfl
 rotate_left
 ·simp only [Act.put, sI, sZ, sS, i64_w, i32_w]
  rfl
 refine pure_ (i := 18) (N := some 137) (v := ?_) (a' := ?_) #[false, true, false, true, false, true, false, true, false, false, true, false, false, false, true, false, true, false, true, false, false, false, false] rfl rfl (by kernel_rfl) (fun _ _ _ h => h) (Or.inl ⟨by rfl, ?_⟩) ?_ ?_
 rotate_left
 ·intro w'
  go_simp
  with_reducible rfl
 rotate_left
 ·simp only [Act.put, sI, sZ, sS, i64_w, i32_w]
  rfl
 refine take_ (i := 0) (N := some 119) (v := ?_) (a' := ?_) #[true, true, false, true, false, true, false, true, false, false, true, false, false, false, true, false, true, false, true, false, false, false, false] rfl rfl (by kernel_rfl) (fun _ _ _ h => h) (Or.inl ⟨by rfl, ?_⟩) hHeld ?_ ?_
 rotate_left
 ·rintro w' ⟨s0, s1, s2, s3, s4, s5, s6, s7, s8, s9, s10⟩
  go_simp
  with_reducible rfl
 rotate_left
 ·simp only [Act.put, sI, sZ, sS, i64_w, i32_w]
  rfl
 refine take_ (i := 2) (N := some 121) (v := ?_) (a' := ?_) #[true, true, true, true, false, true, false, true, false, false, true, false, false, false, true, false, true, false, true, false, false, false, false] rfl rfl (by kernel_rfl) (fun _ _ _ h => h) (Or.inl ⟨by rfl, ?_⟩) hHeld ?_ ?_
 rotate_left
 ·rintro w' ⟨s0, s1, s2, s3, s4, s5, s6, s7, s8, s9, s10⟩
  go_simp
  with_reducible rfl
 rotate_left
 ·simp only [Act.put, sI, sZ, sS, i64_w, i32_w]
  rfl
 refine take_ (i := 4) (N := some 123) (v := ?_) (a' := ?_) #[true, true, true, true, true, true, false, true, false, false, true, false, false, false, true, false, true, false, true, false, false, false, false] rfl rfl (by kernel_rfl) (fun _ _ _ h => h) (Or.inl ⟨by rfl, ?_⟩) hHeld ?_ ?_
 rotate_left
 ·rintro w' ⟨s0, s1, s2, s3, s4, s5, s6, s7, s8, s9, s10⟩
  go_simp
  with_reducible rfl
 rotate_left
 ·simp only [Act.put, sI, sZ, sS, i64_w, i32_w]
  rfl
 refine take_ (i := 6) (N := some 125) (v := ?_) (a' := ?_) #[true, true, true, true, true, true, true, true, false, false, true, false, false, false, true, false, true, false, true, false, false, false, false] rfl rfl (by kernel_rfl) (fun _ _ _ h => h) (Or.inl ⟨by rfl, ?_⟩) hHeld ?_ ?_
 rotate_left
 ·rintro w' ⟨s0, s1, s2, s3, s4, s5, s6, s7, s8, s9, s10⟩
  go_simp
  with_reducible rfl
 rotate_left
 ·simp only [Act.put, sI, sZ, sS, i64_w, i32_w]
  rfl
 refine take_ (i := 8) (N := some 127) (v := ?_) (a' := ?_) #[true, true, true, true, true, true, true, true, true, false, true, false, false, false, true, false, true, false, true, false, false, false, false] rfl rfl (by kernel_rfl) (fun _ _ _ h => h) (Or.inl ⟨by rfl, ?_⟩) hHeld ?_ ?_
 rotate_left
 ·rintro w' ⟨s0, s1, s2, s3, s4, s5, s6, s7, s8, s9, s10⟩
  go_simp
  with_reducible rfl
 rotate_left
 ·simp only [Act.put, sI, sZ, sS, i64_w, i32_w]
  rfl
 refine take_ (i := 11) (N := some 130) (v := ?_) (a' := ?_) #[true, true, true, true, true, true, true, true, true, false, true, true, false, false, true, false, true, false, true, false, false, false, false] rfl rfl (by kernel_rfl) (fun _ _ _ h => h) (Or.inl ⟨by rfl, ?_⟩) hHeld ?_ ?_
 rotate_left
 ·rintro w' ⟨s0, s1, s2, s3, s4, s5, s6, s7, s8, s9, s10⟩
  go_simp
  with_reducible rfl
 rotate_left
 ·simp only [Act.put, sI, sZ, sS, i64_w, i32_w]
  rfl
 refine take_ (i := 13) (N := some 132) (v := ?_) (a' := ?_) #[true, true, true, true, true, true, true, true, true, false, true, true, false, true, true, false, true, false, true, false, false, false, false] rfl rfl (by kernel_rfl) (fun _ _ _ h => h) (Or.inl ⟨by rfl, ?_⟩) hHeld ?_ ?_
 rotate_left
 ·rintro w' ⟨s0, s1, s2, s3, s4, s5, s6, s7, s8, s9, s10⟩
  go_simp
  with_reducible rfl
 rotate_left
 ·simp only [Act.put, sI, sZ, sS, i64_w, i32_w]
  rfl
 refine take_ (i := 15) (N := some 134) (v := ?_) (a' := ?_) #[true, true, true, true, true, true, true, true, true, false, true, true, false, true, true, true, true, false, true, false, false, false, false] rfl rfl (by kernel_rfl) (fun _ _ _ h => h) (Or.inl ⟨by rfl, ?_⟩) hHeld ?_ ?_
 rotate_left
 ·rintro w' ⟨s0, s1, s2, s3, s4, s5, s6, s7, s8, s9, s10⟩
  go_simp
  with_reducible rfl
 rotate_left
 ·simp only [Act.put, sI, sZ, sS, i64_w, i32_w]
  rfl
 refine take_ (i := 17) (N := some 136) (v := ?_) (a' := ?_) #[true, true, true, true, true, true, true, true, true, false, true, true, false, true, true, true, true, true, true, false, false, false, false] rfl rfl (by kernel_rfl) (fun _ _ _ h => h) (Or.inl ⟨by rfl, ?_⟩) hHeld ?_ ?_
 rotate_left
 ·rintro w' ⟨s0, s1, s2, s3, s4, s5, s6, s7, s8, s9, s10⟩
  go_simp
  with_reducible rfl
 rotate_left
 ·simp only [Act.put, sI, sZ, sS, i64_w, i32_w]
  rfl
 refine take_ (i := 19) (N := some 138) (v := ?_) (a' := ?_) #[true, true, true, true, true, true, true, true, true, false, true, true, false, true, true, true, true, true, true, true, false, false, false] rfl rfl (by kernel_rfl) (fun _ _ _ h => h) (Or.inl ⟨by rfl, ?_⟩) hHeld ?_ ?_
 rotate_left
 ·rintro w' ⟨s0, s1, s2, s3, s4, s5, s6, s7, s8, s9, s10⟩
  go_simp
  with_reducible rfl
 rotate_left
 ·simp only [Act.put, sI, sZ, sS, i64_w, i32_w]
  rfl
 refine one_ (i := 9) (N := some 128) #[true, true, true, true, true, true, true, true, true, true, true, true, false, true, true, true, true, true, true, true, false, false, false] rfl rfl (by kernel_rfl) (by decide) (fun K hK => ?_)
 refine goes_ Try.func95 (by kernel_rfl) rfl #[.pointer pl] (by rfl) rfl rfl (by (try simp only [List.map_toArray, List.map_cons, List.map_nil]); first | done | rfl) ?_
 with_reducible refine (less_any _ _ _ _ _ _ (fun k hk => HSS.out k (Nat.le_trans HB0.out.size hk)) (by rw [← El.out]; exact (Hl.out.below HB0.out))).mono ?_
 rw [← El.out]
 rintro e w1_ ⟨v', rfl, h1, h2⟩
 obtain ⟨q1, rfl⟩ := h1.ptr
 have HB1 := Am (HB0.out.trans (h2.mono HB0.out.size))
 have HNq1 := Am (TopRep.rep h1 h2)
 have HV1 := Am ((h2.block _ (Array.getElem?_eq_some_iff.1 HV0.out).1).trans HV0.out)
 clear h1 h2 HB0 HV0
 refine ⟨_, rfl, ?_⟩
 refine hK.out _ _ ⟨(cell_of HV1.out 0).trans rfl, (cell_of HV1.out 1).trans rfl, (cell_of HV1.out 2).trans rfl, (cell_of HV1.out 3).trans rfl, (cell_of HV1.out 4).trans rfl, (cell_of HV1.out 5).trans rfl, (cell_of HV1.out 6).trans rfl, (cell_of HV1.out 7).trans rfl, (cell_of HV1.out 8).trans rfl, (cell_of HV1.out 9).trans rfl, (cell_of HV1.out 10).trans rfl⟩ (fun hHeld => ?_)
 clear hK K
 refine norm_ (a' := ?_) ?_ ?_
 rotate_left
 ·show Act.put _ (some 128) _ = _
  simp only [Act.put, sI, sZ, sS, i64_w, i32_w]
  rfl
 refine one_ (i := 12) (N := some 131) #[true, true, true, true, true, true, true, true, true, true, true, true, true, true, true, true, true, true, true, true, false, false, false] rfl rfl (by kernel_rfl) (by decide) (fun K hK => ?_)
 refine goes_ Try.func93 (by kernel_rfl) rfl #[.agg #[.bool m, .pointer p, .pointer pl, .pointer pr, .pointer pll, .pointer plr, .pointer prl, .pointer prr, .pointer pa, .pointer pb, .bool rt], .pointer p, .int .i64 1, .pointer q1, .pointer pa] (by rfl) rfl rfl (by (try simp only [List.map_toArray, List.map_cons, List.map_nil]); first | done | rfl) ?_
 with_reducible refine (put_any _ _ _ _ _ _ _ _ _ _ _ _ _ _ _ _ _ _ _ _ _ _ (fun k hk => HSS.out k (Nat.le_trans HB1.out.size hk)) (by rw [← Ex.out]; exact (Hx.out.below HB1.out)) HNq1.out (Ha.out.below HB1.out)).mono ?_
 rw [show nx.f0 = keyT X from by rw [Ex.out]; rfl]
 rintro e w2_ ⟨v', rfl, h1, h2⟩
 obtain ⟨q2, rfl⟩ := h1.ptr
 have HB2 := Am (HB1.out.trans (h2.mono HB1.out.size))
 have HNq2 := Am (TopRep.rep h1 h2)
 have HV2 := Am ((h2.block _ (Array.getElem?_eq_some_iff.1 HV1.out).1).trans HV1.out)
 have HNq1_ := Am (Rep.below HNq1.out h2)
 clear HNq1
 have HNq1 := HNq1_
 clear HNq1_
 clear h1 h2 HB1 HV1
 refine ⟨_, rfl, ?_⟩
 refine hK.out _ _ ⟨(cell_of HV2.out 0).trans rfl, (cell_of HV2.out 1).trans rfl, (cell_of HV2.out 2).trans rfl, (cell_of HV2.out 3).trans rfl, (cell_of HV2.out 4).trans rfl, (cell_of HV2.out 5).trans rfl, (cell_of HV2.out 6).trans rfl, (cell_of HV2.out 7).trans rfl, (cell_of HV2.out 8).trans rfl, (cell_of HV2.out 9).trans rfl, (cell_of HV2.out 10).trans rfl⟩ (fun hHeld => ?_)
 clear hK K
 refine norm_ (a' := ?_) ?_ ?_
 rotate_left
 ·show Act.put _ (some 131) _ = _
  simp only [Act.put, sI, sZ, sS, i64_w, i32_w]
  rfl
 refine one_ (i := 20) (N := some 139) #[true, true, true, true, true, true, true, true, true, true, true, true, true, true, true, true, true, true, true, true, true, false, false] rfl rfl (by kernel_rfl) (by decide) (fun K hK => ?_)
 refine goes_ Try.func93 (by kernel_rfl) rfl #[.agg #[.bool m, .pointer p, .pointer pl, .pointer pr, .pointer pll, .pointer plr, .pointer prl, .pointer prr, .pointer pa, .pointer pb, .bool rt], .pointer pr, .int .i64 1, .pointer pb, .pointer prr] (by rfl) rfl rfl (by (try simp only [List.map_toArray, List.map_cons, List.map_nil]); first | done | rfl) ?_
 with_reducible refine (put_any _ _ _ _ _ _ _ _ _ _ _ _ _ _ _ _ _ _ _ _ _ _ (fun k hk => HSS.out k (Nat.le_trans HB2.out.size hk)) (by rw [← Er.out]; exact (Hr.out.below HB2.out)) (Hb.out.below HB2.out) (Hrr.out.below HB2.out)).mono ?_
 rw [show nr.f0 = keyT R from by rw [Er.out]; rfl]
 rintro e w3_ ⟨v', rfl, h1, h2⟩
 obtain ⟨q3, rfl⟩ := h1.ptr
 have HB3 := Am (HB2.out.trans (h2.mono HB2.out.size))
 have HNq3 := Am (TopRep.rep h1 h2)
 have HV3 := Am ((h2.block _ (Array.getElem?_eq_some_iff.1 HV2.out).1).trans HV2.out)
 have HNq1_ := Am (Rep.below HNq1.out h2)
 clear HNq1
 have HNq1 := HNq1_
 clear HNq1_
 have HNq2_ := Am (Rep.below HNq2.out h2)
 clear HNq2
 have HNq2 := HNq2_
 clear HNq2_
 clear h1 h2 HB2 HV2
 refine ⟨_, rfl, ?_⟩
 refine hK.out _ _ ⟨(cell_of HV3.out 0).trans rfl, (cell_of HV3.out 1).trans rfl, (cell_of HV3.out 2).trans rfl, (cell_of HV3.out 3).trans rfl, (cell_of HV3.out 4).trans rfl, (cell_of HV3.out 5).trans rfl, (cell_of HV3.out 6).trans rfl, (cell_of HV3.out 7).trans rfl, (cell_of HV3.out 8).trans rfl, (cell_of HV3.out 9).trans rfl, (cell_of HV3.out 10).trans rfl⟩ (fun hHeld => ?_)
 clear hK K
 refine norm_ (a' := ?_) ?_ ?_
 rotate_left
 ·show Act.put _ (some 139) _ = _
  simp only [Act.put, sI, sZ, sS, i64_w, i32_w]
  rfl
 refine one_ (i := 21) (N := some 140) #[true, true, true, true, true, true, true, true, true, true, true, true, true, true, true, true, true, true, true, true, true, true, false] rfl rfl (by kernel_rfl) (by decide) (fun K hK => ?_)
 refine goes_ Try.func93 (by kernel_rfl) rfl #[.agg #[.bool m, .pointer p, .pointer pl, .pointer pr, .pointer pll, .pointer plr, .pointer prl, .pointer prr, .pointer pa, .pointer pb, .bool rt], .pointer prl, .int .i64 (wt X), .pointer q2, .pointer q3] (by rfl) rfl rfl (by (try simp only [List.map_toArray, List.map_cons, List.map_nil]); first | done | rfl) ?_
 with_reducible refine (put_any _ _ _ _ _ _ _ _ _ _ _ _ _ _ _ _ _ _ _ _ _ _ (fun k hk => HSS.out k (Nat.le_trans HB3.out.size hk)) (by rw [← Erl.out]; exact (Hrl.out.below HB3.out)) HNq2.out HNq3.out).mono ?_
 rw [show nrl.f0 = keyT RL from by rw [Erl.out]; rfl]
 rintro e w4_ ⟨v', rfl, h1, h2⟩
 obtain ⟨q4, rfl⟩ := h1.ptr
 have HB4 := Am (HB3.out.trans (h2.mono HB3.out.size))
 have HNq4 := Am (TopRep.rep h1 h2)
 have HTOP := Am h1
 have HTB := Am h2
 have HTW := HB3
 have HV4 := Am ((h2.block _ (Array.getElem?_eq_some_iff.1 HV3.out).1).trans HV3.out)
 have HNq1_ := Am (Rep.below HNq1.out h2)
 clear HNq1
 have HNq1 := HNq1_
 clear HNq1_
 have HNq2_ := Am (Rep.below HNq2.out h2)
 clear HNq2
 have HNq2 := HNq2_
 clear HNq2_
 have HNq3_ := Am (Rep.below HNq3.out h2)
 clear HNq3
 have HNq3 := HNq3_
 clear HNq3_
 clear h1 h2 HB3 HV3
 refine ⟨_, rfl, ?_⟩
 refine hK.out _ _ ⟨(cell_of HV4.out 0).trans rfl, (cell_of HV4.out 1).trans rfl, (cell_of HV4.out 2).trans rfl, (cell_of HV4.out 3).trans rfl, (cell_of HV4.out 4).trans rfl, (cell_of HV4.out 5).trans rfl, (cell_of HV4.out 6).trans rfl, (cell_of HV4.out 7).trans rfl, (cell_of HV4.out 8).trans rfl, (cell_of HV4.out 9).trans rfl, (cell_of HV4.out 10).trans rfl⟩ (fun hHeld => ?_)
 clear hK K
 refine norm_ (a' := ?_) ?_ ?_
 rotate_left
 ·show Act.put _ (some 140) _ = _
  simp only [Act.put, sI, sZ, sS, i64_w, i32_w]
  rfl
 refine pure_ (i := 22) (N := some 4) (v := ?_) (a' := ?_) #[true, true, true, true, true, true, true, true, true, true, true, true, true, true, true, true, true, true, true, true, true, true, true] rfl rfl (by kernel_rfl) (fun _ _ _ h => h) (Or.inl ⟨by rfl, ?_⟩) ?_ ?_
 rotate_left
 ·intro w'
  go_simp
  with_reducible rfl
 rotate_left
 ·simp only [Act.put, sI, sZ, sS, i64_w, i32_w]
  rfl
 refine done_ (by kernel_rfl) ?_
 try clear hHeld
 go_wp2
 go_ret
 exact HF.out _ _ _ HTW.out HTB.out HTOP.out
end Go.Proofs.Ytgleaefhflamnaa.T
namespace Go.Proofs.Ytgleaefhflamnaa.T
open Go.RowKit Go.Proofs.YtgleaefhflamnaaW.PrintWords Go.Proofs.YtgleaefhflamnaaW.PrintLast Go.Proofs.YtgleaefhflamnaaW.PrintMore
variable {S : Nat → Prop}
set_option maxHeartbeats 4000000 in
set_option maxRecDepth 100000 in
theorem do5_any (m rt : Bool) (p pl pr pll plr prl prr pa pb : Option Addr) {nx : S34} {qx : Int} {lx rx : Tr} {nl : S34} {ql : Int} {ll rl : Tr} {nr : S34} {qr : Int} {lr rr : Tr} {nrl : S34} {qrl : Int} {lrl rrl : Tr} {X : Tr} {L : Tr} {R : Tr} {RL : Tr} {RR : Tr} (w : World) (hS : ∀ k, w.heap.size ≤ k → S k) (ex : X = .node nx qx lx rx) (el : L = .node nl ql ll rl) (er : R = .node nr qr lr rr) (erl : RL = .node nrl qrl lrl rrl) (Hx : Aside0 (Rep S w (.pointer p) X)) (Hl : Aside0 (Rep S w (.pointer pl) L)) (Hr : Aside0 (Rep S w (.pointer pr) R)) (Hrl : Aside0 (Rep S w (.pointer prl) RL)) (Hrr : Aside0 (Rep S w (.pointer prr) RR)) :
  Calls Try.prog 65 #[.agg #[.bool m, .pointer p, .pointer pl, .pointer pr, .pointer pll, .pointer plr, .pointer prl, .pointer prr, .pointer pa, .pointer pb, .bool rt], .int .i64 5] w fun e w' => DoPost S w (putT m (keyT R) (wt X) (putT m (keyT X) 1 (lessT L) (lessT RL)) RR) e w' := by
 have hu111 := Try.underlying111
 have Ex := Am ex
 clear ex
 have El := Am el
 clear el
 have Er := Am er
 clear er
 have Erl := Am erl
 clear erl
 have HSS := Am hS
 clear hS
 have hfin := do_fin (S := S) w (putT m (keyT R) (wt X) (putT m (keyT X) 1 (lessT L) (lessT RL)) RR)
 have HF := Am hfin
 clear hfin
 go_enter Try.func65, Try.ntmps65
 go_wp2_with (fail)
 refine (weight_any _ _ _ (Hx.out.below ((Below.refl _ _).alloc (Nat.le_refl _) _))).mono ?_
 rintro e w' ⟨rfl, rfl⟩
 go_wp2
 have HB0 : Aside0 (Below w.heap.size w (w.alloc (.cells #[.bool m, .pointer p, .pointer pl, .pointer pr, .pointer pll, .pointer plr, .pointer prl, .pointer prr, .pointer pa, .pointer pb, .bool rt] 111))) := ⟨(Below.refl _ _).alloc (Nat.le_refl _) _⟩
 have HV0 : Aside0 ((w.alloc (.cells #[.bool m, .pointer p, .pointer pl, .pointer pr, .pointer pll, .pointer plr, .pointer prl, .pointer prr, .pointer pa, .pointer pb, .bool rt] 111)).heap[w.heap.size]? = some (.cells #[.bool m, .pointer p, .pointer pl, .pointer pr, .pointer pll, .pointer plr, .pointer prl, .pointer prr, .pointer pa, .pointer pb, .bool rt] 111 (0, 0))) := ⟨heap_alloc_new w _⟩
 generalize w.alloc (.cells #[.bool m, .pointer p, .pointer pl, .pointer pr, .pointer pll, .pointer plr, .pointer prl, .pointer prr, .pointer pa, .pointer pb, .bool rt] 111) = w1 at HB0 HV0 ⊢
 obtain ⟨g, hg⟩ : ∃ g, g = w.heap.size := ⟨_, rfl⟩
 rw [← hg] at HV0 ⊢
 clear hg
 have HB0_ := Am (bd HB0.out)
 have HV0_ : Aside0 (w1.drew.heap[g]? = some (.cells #[.bool m, .pointer p, .pointer pl, .pointer pr, .pointer pll, .pointer plr, .pointer prl, .pointer prr, .pointer pa, .pointer pb, .bool rt] 111 (0, 0))) := ⟨HV0.out⟩
 clear HB0 HV0 
 have HB0 := HB0_
 have HV0 := HV0_
 clear HB0_ HV0_
 refine start_ (n := 18) (S := fun w' => w'.cell? ⟨g, 0, none⟩ = some (.bool m) ∧ w'.cell? ⟨g, 1, none⟩ = some (.pointer p) ∧ w'.cell? ⟨g, 2, none⟩ = some (.pointer pl) ∧ w'.cell? ⟨g, 3, none⟩ = some (.pointer pr) ∧ w'.cell? ⟨g, 4, none⟩ = some (.pointer pll) ∧ w'.cell? ⟨g, 5, none⟩ = some (.pointer plr) ∧ w'.cell? ⟨g, 6, none⟩ = some (.pointer prl) ∧ w'.cell? ⟨g, 7, none⟩ = some (.pointer prr) ∧ w'.cell? ⟨g, 8, none⟩ = some (.pointer pa) ∧ w'.cell? ⟨g, 9, none⟩ = some (.pointer pb) ∧ w'.cell? ⟨g, 10, none⟩ = some (.bool rt)) (ds := []) #[false, false, false, false, false, false, false, false, false, false, false, false, false, false, false, false, false, false] (by kernel_rfl) rfl rfl ⟨(cell_of HV0.out 0).trans rfl, (cell_of HV0.out 1).trans rfl, (cell_of HV0.out 2).trans rfl, (cell_of HV0.out 3).trans rfl, (cell_of HV0.out 4).trans rfl, (cell_of HV0.out 5).trans rfl, (cell_of HV0.out 6).trans rfl, (cell_of HV0.out 7).trans rfl, (cell_of HV0.out 8).trans rfl, (cell_of HV0.out 9).trans rfl, (cell_of HV0.out 10).trans rfl⟩ (fun hHeld => ?_)
 refine pure_ (i := 1) (N := some 144) (v := ?_) (a' := ?_) #[false, true, false, false, false, false, false, false, false, false, false, false, false, false, false, false, false, false] rfl rfl (by kernel_rfl) (fun _ _ _ h => h) (Or.inl ⟨by rfl, ?_⟩) ?_ ?_
 rotate_left
 ·intro w'
  go_simp
  with_reducible rfl
 rotate_left
 ·simp only [Act.put, sI, sZ, sS, i64_w, i32_w]
  rfl
 refine pure_ (i := 3) (N := some 146) (v := ?_) (a' := ?_) #[false, true, false, true, false, false, false, false, false, false, false, false, false, false, false, false, false, false] rfl rfl (by kernel_rfl) (fun _ _ _ h => h) (Or.inl ⟨by rfl, ?_⟩) ?_ ?_
 rotate_left
 ·intro w'
  go_simp
  with_reducible rfl
 rotate_left
 ·simp only [Act.put, sI, sZ, sS, i64_w, i32_w]
  rfl
 refine pure_ (i := 5) (N := some 148) (v := ?_) (a' := ?_) #[false, true, false, true, false, true, false, false, false, false, false, false, false, false, false, false, false, false] rfl rfl (by kernel_rfl) (fun _ _ _ h => h) (Or.inl ⟨by rfl, ?_⟩) ?_ ?_
 rotate_left
 ·intro w'
  go_simp
  with_reducible rfl
 rotate_left
 ·simp only [Act.put, sI, sZ, sS, i64_w, i32_w]
  rfl
 refine pure_ (i := 7) (N := some 150) (v := ?_) (a' := ?_) #[false, true, false, true, false, true, false, true, false, false, false, false, false, false, false, false, false, false] rfl rfl (by kernel_rfl) (fun _ _ _ h => h) (Or.inl ⟨by rfl, ?_⟩) ?_ ?_
 rotate_left
 ·intro w'
  go_simp
  with_reducible rfl
 rotate_left
 ·simp only [Act.put, sI, sZ, sS, i64_w, i32_w]
  rfl
 refine pure_ (i := 10) (N := some 153) (v := ?_) (a' := ?_) #[false, true, false, true, false, true, false, true, false, false, true, false, false, false, false, false, false, false] rfl rfl (by kernel_rfl) (fun _ _ _ h => h) (Or.inl ⟨by rfl, ?_⟩) ?_ ?_
 rotate_left
 ·intro w'
  go_simp
  with_reducible rfl
 rotate_left
 ·simp only [Act.put, sI, sZ, sS, i64_w, i32_w]
  rfl
 refine pure_ (i := 14) (N := some 157) (v := ?_) (a' := ?_) #[false, true, false, true, false, true, false, true, false, false, true, false, false, false, true, false, false, false] rfl rfl (by kernel_rfl) (fun _ _ _ h => h) (Or.inl ⟨by rfl, ?_⟩) ?_ ?_
 rotate_left
 ·intro w'
  go_simp
  with_reducible rfl
 rotate_left
 ·simp only [Act.put, sI, sZ, sS, i64_w, i32_w]
  rfl
 refine take_ (i := 0) (N := some 143) (v := ?_) (a' := ?_) #[true, true, false, true, false, true, false, true, false, false, true, false, false, false, true, false, false, false] rfl rfl (by kernel_rfl) (fun _ _ _ h => h) (Or.inl ⟨by rfl, ?_⟩) hHeld ?_ ?_
 rotate_left
 ·rintro w' ⟨s0, s1, s2, s3, s4, s5, s6, s7, s8, s9, s10⟩
  go_simp
  with_reducible rfl
 rotate_left
 ·simp only [Act.put, sI, sZ, sS, i64_w, i32_w]
  rfl
 refine take_ (i := 2) (N := some 145) (v := ?_) (a' := ?_) #[true, true, true, true, false, true, false, true, false, false, true, false, false, false, true, false, false, false] rfl rfl (by kernel_rfl) (fun _ _ _ h => h) (Or.inl ⟨by rfl, ?_⟩) hHeld ?_ ?_
 rotate_left
 ·rintro w' ⟨s0, s1, s2, s3, s4, s5, s6, s7, s8, s9, s10⟩
  go_simp
  with_reducible rfl
 rotate_left
 ·simp only [Act.put, sI, sZ, sS, i64_w, i32_w]
  rfl
 refine take_ (i := 4) (N := some 147) (v := ?_) (a' := ?_) #[true, true, true, true, true, true, false, true, false, false, true, false, false, false, true, false, false, false] rfl rfl (by kernel_rfl) (fun _ _ _ h => h) (Or.inl ⟨by rfl, ?_⟩) hHeld ?_ ?_
 rotate_left
 ·rintro w' ⟨s0, s1, s2, s3, s4, s5, s6, s7, s8, s9, s10⟩
  go_simp
  with_reducible rfl
 rotate_left
 ·simp only [Act.put, sI, sZ, sS, i64_w, i32_w]
  rfl
 refine take_ (i := 6) (N := some 149) (v := ?_) (a' := ?_) #[true, true, true, true, true, true, true, true, false, false, true, false, false, false, true, false, false, false] rfl rfl (by kernel_rfl) (fun _ _ _ h => h) (Or.inl ⟨by rfl, ?_⟩) hHeld ?_ ?_
 rotate_left
 ·rintro w' ⟨s0, s1, s2, s3, s4, s5, s6, s7, s8, s9, s10⟩
  go_simp
  with_reducible rfl
 rotate_left
 ·simp only [Act.put, sI, sZ, sS, i64_w, i32_w]
  rfl
 refine take_ (i := 8) (N := some 151) (v := ?_) (a' := ?_) #[true, true, true, true, true, true, true, true, true, false, true, false, false, false, true, false, false, false] rfl rfl (by kernel_rfl) (fun _ _ _ h => h) (Or.inl ⟨by rfl, ?_⟩) hHeld ?_ ?_
 rotate_left
 ·rintro w' ⟨s0, s1, s2, s3, s4, s5, s6, s7, s8, s9, s10⟩
  go_simp
  with_reducible rfl
 rotate_left
 ·simp only [Act.put, sI, sZ, sS, i64_w, i32_w]
  rfl
 refine take_ (i := 11) (N := some 154) (v := ?_) (a' := ?_) #[true, true, true, true, true, true, true, true, true, false, true, true, false, false, true, false, false, false] rfl rfl (by kernel_rfl) (fun _ _ _ h => h) (Or.inl ⟨by rfl, ?_⟩) hHeld ?_ ?_
 rotate_left
 ·rintro w' ⟨s0, s1, s2, s3, s4, s5, s6, s7, s8, s9, s10⟩
  go_simp
  with_reducible rfl
 rotate_left
 ·simp only [Act.put, sI, sZ, sS, i64_w, i32_w]
  rfl
 refine take_ (i := 15) (N := some 158) (v := ?_) (a' := ?_) #[true, true, true, true, true, true, true, true, true, false, true, true, false, false, true, true, false, false] rfl rfl (by kernel_rfl) (fun _ _ _ h => h) (Or.inl ⟨by rfl, ?_⟩) hHeld ?_ ?_
 rotate_left
 ·rintro w' ⟨s0, s1, s2, s3, s4, s5, s6, s7, s8, s9, s10⟩
  go_simp
  with_reducible rfl
 rotate_left
 ·simp only [Act.put, sI, sZ, sS, i64_w, i32_w]
  rfl
 refine one_ (i := 9) (N := some 152) #[true, true, true, true, true, true, true, true, true, true, true, true, false, false, true, true, false, false] rfl rfl (by kernel_rfl) (by decide) (fun K hK => ?_)
 refine goes_ Try.func95 (by kernel_rfl) rfl #[.pointer pl] (by rfl) rfl rfl (by (try simp only [List.map_toArray, List.map_cons, List.map_nil]); first | done | rfl) ?_
 with_reducible refine (less_any _ _ _ _ _ _ (fun k hk => HSS.out k (Nat.le_trans HB0.out.size hk)) (by rw [← El.out]; exact (Hl.out.below HB0.out))).mono ?_
 rw [← El.out]
 rintro e w1_ ⟨v', rfl, h1, h2⟩
 obtain ⟨q1, rfl⟩ := h1.ptr
 have HB1 := Am (HB0.out.trans (h2.mono HB0.out.size))
 have HNq1 := Am (TopRep.rep h1 h2)
 have HV1 := Am ((h2.block _ (Array.getElem?_eq_some_iff.1 HV0.out).1).trans HV0.out)
 clear h1 h2 HB0 HV0
 refine ⟨_, rfl, ?_⟩
 refine hK.out _ _ ⟨(cell_of HV1.out 0).trans rfl, (cell_of HV1.out 1).trans rfl, (cell_of HV1.out 2).trans rfl, (cell_of HV1.out 3).trans rfl, (cell_of HV1.out 4).trans rfl, (cell_of HV1.out 5).trans rfl, (cell_of HV1.out 6).trans rfl, (cell_of HV1.out 7).trans rfl, (cell_of HV1.out 8).trans rfl, (cell_of HV1.out 9).trans rfl, (cell_of HV1.out 10).trans rfl⟩ (fun hHeld => ?_)
 clear hK K
 refine norm_ (a' := ?_) ?_ ?_
 rotate_left
 ·show Act.put _ (some 152) _ = _
  simp only [Act.put, sI, sZ, sS, i64_w, i32_w]
  rfl
 refine one_ (i := 12) (N := some 155) #[true, true, true, true, true, true, true, true, true, true, true, true, true, false, true, true, false, false] rfl rfl (by kernel_rfl) (by decide) (fun K hK => ?_)
 refine goes_ Try.func95 (by kernel_rfl) rfl #[.pointer prl] (by rfl) rfl rfl (by (try simp only [List.map_toArray, List.map_cons, List.map_nil]); first | done | rfl) ?_
 with_reducible refine (less_any _ _ _ _ _ _ (fun k hk => HSS.out k (Nat.le_trans HB1.out.size hk)) (by rw [← Erl.out]; exact (Hrl.out.below HB1.out))).mono ?_
 rw [← Erl.out]
 rintro e w2_ ⟨v', rfl, h1, h2⟩
 obtain ⟨q2, rfl⟩ := h1.ptr
 have HB2 := Am (HB1.out.trans (h2.mono HB1.out.size))
 have HNq2 := Am (TopRep.rep h1 h2)
 have HV2 := Am ((h2.block _ (Array.getElem?_eq_some_iff.1 HV1.out).1).trans HV1.out)
 have HNq1_ := Am (Rep.below HNq1.out h2)
 clear HNq1
 have HNq1 := HNq1_
 clear HNq1_
 clear h1 h2 HB1 HV1
 refine ⟨_, rfl, ?_⟩
 refine hK.out _ _ ⟨(cell_of HV2.out 0).trans rfl, (cell_of HV2.out 1).trans rfl, (cell_of HV2.out 2).trans rfl, (cell_of HV2.out 3).trans rfl, (cell_of HV2.out 4).trans rfl, (cell_of HV2.out 5).trans rfl, (cell_of HV2.out 6).trans rfl, (cell_of HV2.out 7).trans rfl, (cell_of HV2.out 8).trans rfl, (cell_of HV2.out 9).trans rfl, (cell_of HV2.out 10).trans rfl⟩ (fun hHeld => ?_)
 clear hK K
 refine norm_ (a' := ?_) ?_ ?_
 rotate_left
 ·show Act.put _ (some 155) _ = _
  simp only [Act.put, sI, sZ, sS, i64_w, i32_w]
  rfl
 refine one_ (i := 13) (N := some 156) #[true, true, true, true, true, true, true, true, true, true, true, true, true, true, true, true, false, false] rfl rfl (by kernel_rfl) (by decide) (fun K hK => ?_)
 refine goes_ Try.func93 (by kernel_rfl) rfl #[.agg #[.bool m, .pointer p, .pointer pl, .pointer pr, .pointer pll, .pointer plr, .pointer prl, .pointer prr, .pointer pa, .pointer pb, .bool rt], .pointer p, .int .i64 1, .pointer q1, .pointer q2] (by rfl) rfl rfl (by (try simp only [List.map_toArray, List.map_cons, List.map_nil]); first | done | rfl) ?_
 with_reducible refine (put_any _ _ _ _ _ _ _ _ _ _ _ _ _ _ _ _ _ _ _ _ _ _ (fun k hk => HSS.out k (Nat.le_trans HB2.out.size hk)) (by rw [← Ex.out]; exact (Hx.out.below HB2.out)) HNq1.out HNq2.out).mono ?_
 rw [show nx.f0 = keyT X from by rw [Ex.out]; rfl]
 rintro e w3_ ⟨v', rfl, h1, h2⟩
 obtain ⟨q3, rfl⟩ := h1.ptr
 have HB3 := Am (HB2.out.trans (h2.mono HB2.out.size))
 have HNq3 := Am (TopRep.rep h1 h2)
 have HV3 := Am ((h2.block _ (Array.getElem?_eq_some_iff.1 HV2.out).1).trans HV2.out)
 have HNq1_ := Am (Rep.below HNq1.out h2)
 clear HNq1
 have HNq1 := HNq1_
 clear HNq1_
 have HNq2_ := Am (Rep.below HNq2.out h2)
 clear HNq2
 have HNq2 := HNq2_
 clear HNq2_
 clear h1 h2 HB2 HV2
 refine ⟨_, rfl, ?_⟩
 refine hK.out _ _ ⟨(cell_of HV3.out 0).trans rfl, (cell_of HV3.out 1).trans rfl, (cell_of HV3.out 2).trans rfl, (cell_of HV3.out 3).trans rfl, (cell_of HV3.out 4).trans rfl, (cell_of HV3.out 5).trans rfl, (cell_of HV3.out 6).trans rfl, (cell_of HV3.out 7).trans rfl, (cell_of HV3.out 8).trans rfl, (cell_of HV3.out 9).trans rfl, (cell_of HV3.out 10).trans rfl⟩ (fun hHeld => ?_)
 clear hK K
 refine norm_ (a' := ?_) ?_ ?_
 rotate_left
 ·show Act.put _ (some 156) _ = _
  simp only [Act.put, sI, sZ, sS, i64_w, i32_w]
  rfl
 refine one_ (i := 16) (N := some 159) #[true, true, true, true, true, true, true, true, true, true, true, true, true, true, true, true, true, false] rfl rfl (by kernel_rfl) (by decide) (fun K hK => ?_)
 refine goes_ Try.func93 (by kernel_rfl) rfl #[.agg #[.bool m, .pointer p, .pointer pl, .pointer pr, .pointer pll, .pointer plr, .pointer prl, .pointer prr, .pointer pa, .pointer pb, .bool rt], .pointer pr, .int .i64 (wt X), .pointer q3, .pointer prr] (by rfl) rfl rfl (by (try simp only [List.map_toArray, List.map_cons, List.map_nil]); first | done | rfl) ?_
 with_reducible refine (put_any _ _ _ _ _ _ _ _ _ _ _ _ _ _ _ _ _ _ _ _ _ _ (fun k hk => HSS.out k (Nat.le_trans HB3.out.size hk)) (by rw [← Er.out]; exact (Hr.out.below HB3.out)) HNq3.out (Hrr.out.below HB3.out)).mono ?_
 rw [show nr.f0 = keyT R from by rw [Er.out]; rfl]
 rintro e w4_ ⟨v', rfl, h1, h2⟩
 obtain ⟨q4, rfl⟩ := h1.ptr
 have HB4 := Am (HB3.out.trans (h2.mono HB3.out.size))
 have HNq4 := Am (TopRep.rep h1 h2)
 have HTOP := Am h1
 have HTB := Am h2
 have HTW := HB3
 have HV4 := Am ((h2.block _ (Array.getElem?_eq_some_iff.1 HV3.out).1).trans HV3.out)
 have HNq1_ := Am (Rep.below HNq1.out h2)
 clear HNq1
 have HNq1 := HNq1_
 clear HNq1_
 have HNq2_ := Am (Rep.below HNq2.out h2)
 clear HNq2
 have HNq2 := HNq2_
 clear HNq2_
 have HNq3_ := Am (Rep.below HNq3.out h2)
 clear HNq3
 have HNq3 := HNq3_
 clear HNq3_
 clear h1 h2 HB3 HV3
 refine ⟨_, rfl, ?_⟩
 refine hK.out _ _ ⟨(cell_of HV4.out 0).trans rfl, (cell_of HV4.out 1).trans rfl, (cell_of HV4.out 2).trans rfl, (cell_of HV4.out 3).trans rfl, (cell_of HV4.out 4).trans rfl, (cell_of HV4.out 5).trans rfl, (cell_of HV4.out 6).trans rfl, (cell_of HV4.out 7).trans rfl, (cell_of HV4.out 8).trans rfl, (cell_of HV4.out 9).trans rfl, (cell_of HV4.out 10).trans rfl⟩ (fun hHeld => ?_)
 clear hK K
 refine norm_ (a' := ?_) ?_ ?_
 rotate_left
 ·show Act.put _ (some 159) _ = _
  simp only [Act.put, sI, sZ, sS, i64_w, i32_w]
  rfl
 refine pure_ (i := 17) (N := some 4) (v := ?_) (a' := ?_) #[true, true, true, true, true, true, true, true, true, true, true, true, true, true, true, true, true, true] rfl rfl (by kernel_rfl) (fun _ _ _ h => h) (Or.inl ⟨by rfl, ?_⟩) ?_ ?_
 rotate_left
 ·intro w'
  go_simp
  with_reducible rfl
 rotate_left
 ·simp only [Act.put, sI, sZ, sS, i64_w, i32_w]
  rfl
 refine done_ (by kernel_rfl) ?_
 try clear hHeld
 go_wp2
 go_ret
 exact HF.out _ _ _ HTW.out HTB.out HTOP.out
set_option maxHeartbeats 4000000 in
set_option maxRecDepth 100000 in
theorem do6_any (m rt : Bool) (p pl pr pll plr prl prr pa pb : Option Addr) {nx : S34} {qx : Int} {lx rx : Tr} {nl : S34} {ql : Int} {ll rl : Tr} {nr : S34} {qr : Int} {lr rr : Tr} {nrl : S34} {qrl : Int} {lrl rrl : Tr} {X : Tr} {L : Tr} {R : Tr} {RL : Tr} {RR : Tr} (w : World) (hS : ∀ k, w.heap.size ≤ k → S k) (ex : X = .node nx qx lx rx) (el : L = .node nl ql ll rl) (er : R = .node nr qr lr rr) (erl : RL = .node nrl qrl lrl rrl) (Hx : Aside0 (Rep S w (.pointer p) X)) (Hl : Aside0 (Rep S w (.pointer pl) L)) (Hr : Aside0 (Rep S w (.pointer pr) R)) (Hrl : Aside0 (Rep S w (.pointer prl) RL)) (Hrr : Aside0 (Rep S w (.pointer prr) RR)) :
  Calls Try.prog 65 #[.agg #[.bool m, .pointer p, .pointer pl, .pointer pr, .pointer pll, .pointer plr, .pointer prl, .pointer prr, .pointer pa, .pointer pb, .bool rt], .int .i64 6] w fun e w' => DoPost S w (putT m (keyT R) (wt X) (putT m (keyT X) 1 (lessT L) (asT 0 RL)) RR) e w' := by
 have hu111 := Try.underlying111
 have Ex := Am ex
 clear ex
 have El := Am el
 clear el
 have Er := Am er
 clear er
 have Erl := Am erl
 clear erl
 have HSS := Am hS
 clear hS
 have hfin := do_fin (S := S) w (putT m (keyT R) (wt X) (putT m (keyT X) 1 (lessT L) (asT 0 RL)) RR)
 have HF := Am hfin
 clear hfin
 go_enter Try.func65, Try.ntmps65
 go_wp2_with (fail)
 refine (weight_any _ _ _ (Hx.out.below ((Below.refl _ _).alloc (Nat.le_refl _) _))).mono ?_
 rintro e w' ⟨rfl, rfl⟩
 go_wp2
 have HB0 : Aside0 (Below w.heap.size w (w.alloc (.cells #[.bool m, .pointer p, .pointer pl, .pointer pr, .pointer pll, .pointer plr, .pointer prl, .pointer prr, .pointer pa, .pointer pb, .bool rt] 111))) := ⟨(Below.refl _ _).alloc (Nat.le_refl _) _⟩
 have HV0 : Aside0 ((w.alloc (.cells #[.bool m, .pointer p, .pointer pl, .pointer pr, .pointer pll, .pointer plr, .pointer prl, .pointer prr, .pointer pa, .pointer pb, .bool rt] 111)).heap[w.heap.size]? = some (.cells #[.bool m, .pointer p, .pointer pl, .pointer pr, .pointer pll, .pointer plr, .pointer prl, .pointer prr, .pointer pa, .pointer pb, .bool rt] 111 (0, 0))) := ⟨heap_alloc_new w _⟩
 generalize w.alloc (.cells #[.bool m, .pointer p, .pointer pl, .pointer pr, .pointer pll, .pointer plr, .pointer prl, .pointer prr, .pointer pa, .pointer pb, .bool rt] 111) = w1 at HB0 HV0 ⊢
 obtain ⟨g, hg⟩ : ∃ g, g = w.heap.size := ⟨_, rfl⟩
 rw [← hg] at HV0 ⊢
 clear hg
 have HB0_ := Am (bd HB0.out)
 have HV0_ : Aside0 (w1.drew.heap[g]? = some (.cells #[.bool m, .pointer p, .pointer pl, .pointer pr, .pointer pll, .pointer plr, .pointer prl, .pointer prr, .pointer pa, .pointer pb, .bool rt] 111 (0, 0))) := ⟨HV0.out⟩
 clear HB0 HV0 
 have HB0 := HB0_
 have HV0 := HV0_
 clear HB0_ HV0_
 refine start_ (n := 18) (S := fun w' => w'.cell? ⟨g, 0, none⟩ = some (.bool m) ∧ w'.cell? ⟨g, 1, none⟩ = some (.pointer p) ∧ w'.cell? ⟨g, 2, none⟩ = some (.pointer pl) ∧ w'.cell? ⟨g, 3, none⟩ = some (.pointer pr) ∧ w'.cell? ⟨g, 4, none⟩ = some (.pointer pll) ∧ w'.cell? ⟨g, 5, none⟩ = some (.pointer plr) ∧ w'.cell? ⟨g, 6, none⟩ = some (.pointer prl) ∧ w'.cell? ⟨g, 7, none⟩ = some (.pointer prr) ∧ w'.cell? ⟨g, 8, none⟩ = some (.pointer pa) ∧ w'.cell? ⟨g, 9, none⟩ = some (.pointer pb) ∧ w'.cell? ⟨g, 10, none⟩ = some (.bool rt)) (ds := []) #[false, false, false, false, false, false, false, false, false, false, false, false, false, false, false, false, false, false] (by kernel_rfl) rfl rfl ⟨(cell_of HV0.out 0).trans rfl, (cell_of HV0.out 1).trans rfl, (cell_of HV0.out 2).trans rfl, (cell_of HV0.out 3).trans rfl, (cell_of HV0.out 4).trans rfl, (cell_of HV0.out 5).trans rfl, (cell_of HV0.out 6).trans rfl, (cell_of HV0.out 7).trans rfl, (cell_of HV0.out 8).trans rfl, (cell_of HV0.out 9).trans rfl, (cell_of HV0.out 10).trans rfl⟩ (fun hHeld => ?_)
 refine pure_ (i := 1) (N := some 163) (v := ?_) (a' := ?_) #[false, true, false, false, false, false, false, false, false, false, false, false, false, false, false, false, false, false] rfl rfl (by kernel_rfl) (fun _ _ _ h => h) (Or.inl ⟨by rfl, ?_⟩) ?_ ?_
 rotate_left
 ·intro w'
  go_simp
  with_reducible rfl
 rotate_left
 ·simp only [Act.put, sI, sZ, sS, i64_w, i32_w]
  rfl
 refine pure_ (i := 3) (N := some 165) (v := ?_) (a' := ?_) #[false, true, false, true, false, false, false, false, false, false, false, false, false, false, false, false, false, false] rfl rfl (by kernel_rfl) (fun _ _ _ h => h) (Or.inl ⟨by rfl, ?_⟩) ?_ ?_
 rotate_left
 ·intro w'
  go_simp
  with_reducible rfl
 rotate_left
 ·simp only [Act.put, sI, sZ, sS, i64_w, i32_w]
  rfl
 refine pure_ (i := 5) (N := some 167) (v := ?_) (a' := ?_) #[false, true, false, true, false, true, false, false, false, false, false, false, false, false, false, false, false, false] rfl rfl (by kernel_rfl) (fun _ _ _ h => h) (Or.inl ⟨by rfl, ?_⟩) ?_ ?_
 rotate_left
 ·intro w'
  go_simp
  with_reducible rfl
 rotate_left
 ·simp only [Act.put, sI, sZ, sS, i64_w, i32_w]
  rfl
 refine pure_ (i := 7) (N := some 169) (v := ?_) (a' := ?_) #[false, true, false, true, false, true, false, true, false, false, false, false, false, false, false, false, false, false] rfl rfl (by kernel_rfl) (fun _ _ _ h => h) (Or.inl ⟨by rfl, ?_⟩) ?_ ?_
 rotate_left
 ·intro w'
  go_simp
  with_reducible rfl
 rotate_left
 ·simp only [Act.put, sI, sZ, sS, i64_w, i32_w]
  rfl
 refine pure_ (i := 10) (N := some 172) (v := ?_) (a' := ?_) #[false, true, false, true, false, true, false, true, false, false, true, false, false, false, false, false, false, false] rfl rfl (by kernel_rfl) (fun _ _ _ h => h) (Or.inl ⟨by rfl, ?_⟩) ?_ ?_
 rotate_left
 ·intro w'
  go_simp
  with_reducible rfl
 rotate_left
 ·simp only [Act.put, sI, sZ, sS, i64_w, i32_w]
  rfl
 refine pure_ (i := 14) (N := some 176) (v := ?_) (a' := ?_) #[false, true, false, true, false, true, false, true, false, false, true, false, false, false, true, false, false, false] rfl rfl (by kernel_rfl) (fun _ _ _ h => h) (Or.inl ⟨by rfl, ?_⟩) ?_ ?_
 rotate_left
 ·intro w'
  go_simp
  with_reducible rfl
 rotate_left
 ·simp only [Act.put, sI, sZ, sS, i64_w, i32_w]
  rfl
 refine take_ (i := 0) (N := some 162) (v := ?_) (a' := ?_) #[true, true, false, true, false, true, false, true, false, false, true, false, false, false, true, false, false, false] rfl rfl (by kernel_rfl) (fun _ _ _ h => h) (Or.inl ⟨by rfl, ?_⟩) hHeld ?_ ?_
 rotate_left
 ·rintro w' ⟨s0, s1, s2, s3, s4, s5, s6, s7, s8, s9, s10⟩
  go_simp
  with_reducible rfl
 rotate_left
 ·simp only [Act.put, sI, sZ, sS, i64_w, i32_w]
  rfl
 refine take_ (i := 2) (N := some 164) (v := ?_) (a' := ?_) #[true, true, true, true, false, true, false, true, false, false, true, false, false, false, true, false, false, false] rfl rfl (by kernel_rfl) (fun _ _ _ h => h) (Or.inl ⟨by rfl, ?_⟩) hHeld ?_ ?_
 rotate_left
 ·rintro w' ⟨s0, s1, s2, s3, s4, s5, s6, s7, s8, s9, s10⟩
  go_simp
  with_reducible rfl
 rotate_left
 ·simp only [Act.put, sI, sZ, sS, i64_w, i32_w]
  rfl
 refine take_ (i := 4) (N := some 166) (v := ?_) (a' := ?_) #[true, true, true, true, true, true, false, true, false, false, true, false, false, false, true, false, false, false] rfl rfl (by kernel_rfl) (fun _ _ _ h => h) (Or.inl ⟨by rfl, ?_⟩) hHeld ?_ ?_
 rotate_left
 ·rintro w' ⟨s0, s1, s2, s3, s4, s5, s6, s7, s8, s9, s10⟩
  go_simp
  with_reducible rfl
 rotate_left
 ·simp only [Act.put, sI, sZ, sS, i64_w, i32_w]
  rfl
 refine take_ (i := 6) (N := some 168) (v := ?_) (a' := ?_) #[true, true, true, true, true, true, true, true, false, false, true, false, false, false, true, false, false, false] rfl rfl (by kernel_rfl) (fun _ _ _ h => h) (Or.inl ⟨by rfl, ?_⟩) hHeld ?_ ?_
 rotate_left
 ·rintro w' ⟨s0, s1, s2, s3, s4, s5, s6, s7, s8, s9, s10⟩
  go_simp
  with_reducible rfl
 rotate_left
 ·simp only [Act.put, sI, sZ, sS, i64_w, i32_w]
  rfl
 refine take_ (i := 8) (N := some 170) (v := ?_) (a' := ?_) #[true, true, true, true, true, true, true, true, true, false, true, false, false, false, true, false, false, false] rfl rfl (by kernel_rfl) (fun _ _ _ h => h) (Or.inl ⟨by rfl, ?_⟩) hHeld ?_ ?_
 rotate_left
 ·rintro w' ⟨s0, s1, s2, s3, s4, s5, s6, s7, s8, s9, s10⟩
  go_simp
  with_reducible rfl
 rotate_left
 ·simp only [Act.put, sI, sZ, sS, i64_w, i32_w]
  rfl
 refine take_ (i := 11) (N := some 173) (v := ?_) (a' := ?_) #[true, true, true, true, true, true, true, true, true, false, true, true, false, false, true, false, false, false] rfl rfl (by kernel_rfl) (fun _ _ _ h => h) (Or.inl ⟨by rfl, ?_⟩) hHeld ?_ ?_
 rotate_left
 ·rintro w' ⟨s0, s1, s2, s3, s4, s5, s6, s7, s8, s9, s10⟩
  go_simp
  with_reducible rfl
 rotate_left
 ·simp only [Act.put, sI, sZ, sS, i64_w, i32_w]
  rfl
 refine take_ (i := 15) (N := some 177) (v := ?_) (a' := ?_) #[true, true, true, true, true, true, true, true, true, false, true, true, false, false, true, true, false, false] rfl rfl (by kernel_rfl) (fun _ _ _ h => h) (Or.inl ⟨by rfl, ?_⟩) hHeld ?_ ?_
 rotate_left
 ·rintro w' ⟨s0, s1, s2, s3, s4, s5, s6, s7, s8, s9, s10⟩
  go_simp
  with_reducible rfl
 rotate_left
 ·simp only [Act.put, sI, sZ, sS, i64_w, i32_w]
  rfl
 refine one_ (i := 9) (N := some 171) #[true, true, true, true, true, true, true, true, true, true, true, true, false, false, true, true, false, false] rfl rfl (by kernel_rfl) (by decide) (fun K hK => ?_)
 refine goes_ Try.func95 (by kernel_rfl) rfl #[.pointer pl] (by rfl) rfl rfl (by (try simp only [List.map_toArray, List.map_cons, List.map_nil]); first | done | rfl) ?_
 with_reducible refine (less_any _ _ _ _ _ _ (fun k hk => HSS.out k (Nat.le_trans HB0.out.size hk)) (by rw [← El.out]; exact (Hl.out.below HB0.out))).mono ?_
 rw [← El.out]
 rintro e w1_ ⟨v', rfl, h1, h2⟩
 obtain ⟨q1, rfl⟩ := h1.ptr
 have HB1 := Am (HB0.out.trans (h2.mono HB0.out.size))
 have HNq1 := Am (TopRep.rep h1 h2)
 have HV1 := Am ((h2.block _ (Array.getElem?_eq_some_iff.1 HV0.out).1).trans HV0.out)
 clear h1 h2 HB0 HV0
 refine ⟨_, rfl, ?_⟩
 refine hK.out _ _ ⟨(cell_of HV1.out 0).trans rfl, (cell_of HV1.out 1).trans rfl, (cell_of HV1.out 2).trans rfl, (cell_of HV1.out 3).trans rfl, (cell_of HV1.out 4).trans rfl, (cell_of HV1.out 5).trans rfl, (cell_of HV1.out 6).trans rfl, (cell_of HV1.out 7).trans rfl, (cell_of HV1.out 8).trans rfl, (cell_of HV1.out 9).trans rfl, (cell_of HV1.out 10).trans rfl⟩ (fun hHeld => ?_)
 clear hK K
 refine norm_ (a' := ?_) ?_ ?_
 rotate_left
 ·show Act.put _ (some 171) _ = _
  simp only [Act.put, sI, sZ, sS, i64_w, i32_w]
  rfl
 refine one_ (i := 12) (N := some 174) #[true, true, true, true, true, true, true, true, true, true, true, true, true, false, true, true, false, false] rfl rfl (by kernel_rfl) (by decide) (fun K hK => ?_)
 refine goes_ Try.func94 (by kernel_rfl) rfl #[.pointer prl, .int .i64 0] (by rfl) rfl rfl (by (try simp only [List.map_toArray, List.map_cons, List.map_nil]); first | done | rfl) ?_
 with_reducible refine (as_any _ _ _ _ _ _ _ (fun k hk => HSS.out k (Nat.le_trans HB1.out.size hk)) (by rw [← Erl.out]; exact (Hrl.out.below HB1.out))).mono ?_
 rw [← Erl.out]
 rintro e w2_ ⟨v', rfl, h1, h2⟩
 obtain ⟨q2, rfl⟩ := h1.ptr
 have HB2 := Am (HB1.out.trans (h2.mono HB1.out.size))
 have HNq2 := Am (TopRep.rep h1 h2)
 have HV2 := Am ((h2.block _ (Array.getElem?_eq_some_iff.1 HV1.out).1).trans HV1.out)
 have HNq1_ := Am (Rep.below HNq1.out h2)
 clear HNq1
 have HNq1 := HNq1_
 clear HNq1_
 clear h1 h2 HB1 HV1
 refine ⟨_, rfl, ?_⟩
 refine hK.out _ _ ⟨(cell_of HV2.out 0).trans rfl, (cell_of HV2.out 1).trans rfl, (cell_of HV2.out 2).trans rfl, (cell_of HV2.out 3).trans rfl, (cell_of HV2.out 4).trans rfl, (cell_of HV2.out 5).trans rfl, (cell_of HV2.out 6).trans rfl, (cell_of HV2.out 7).trans rfl, (cell_of HV2.out 8).trans rfl, (cell_of HV2.out 9).trans rfl, (cell_of HV2.out 10).trans rfl⟩ (fun hHeld => ?_)
 clear hK K
 refine norm_ (a' := ?_) ?_ ?_
 rotate_left
 ·show Act.put _ (some 174) _ = _
  simp only [Act.put, sI, sZ, sS, i64_w, i32_w]
  rfl
 refine one_ (i := 13) (N := some 175) #[true, true, true, true, true, true, true, true, true, true, true, true, true, true, true, true, false, false] rfl rfl (by kernel_rfl) (by decide) (fun K hK => ?_)
 refine goes_ Try.func93 (by kernel_rfl) rfl #[.agg #[.bool m, .pointer p, .pointer pl, .pointer pr, .pointer pll, .pointer plr, .pointer prl, .pointer prr, .pointer pa, .pointer pb, .bool rt], .pointer p, .int .i64 1, .pointer q1, .pointer q2] (by rfl) rfl rfl (by (try simp only [List.map_toArray, List.map_cons, List.map_nil]); first | done | rfl) ?_
 with_reducible refine (put_any _ _ _ _ _ _ _ _ _ _ _ _ _ _ _ _ _ _ _ _ _ _ (fun k hk => HSS.out k (Nat.le_trans HB2.out.size hk)) (by rw [← Ex.out]; exact (Hx.out.below HB2.out)) HNq1.out HNq2.out).mono ?_
 rw [show nx.f0 = keyT X from by rw [Ex.out]; rfl]
 rintro e w3_ ⟨v', rfl, h1, h2⟩
 obtain ⟨q3, rfl⟩ := h1.ptr
 have HB3 := Am (HB2.out.trans (h2.mono HB2.out.size))
 have HNq3 := Am (TopRep.rep h1 h2)
 have HV3 := Am ((h2.block _ (Array.getElem?_eq_some_iff.1 HV2.out).1).trans HV2.out)
 have HNq1_ := Am (Rep.below HNq1.out h2)
 clear HNq1
 have HNq1 := HNq1_
 clear HNq1_
 have HNq2_ := Am (Rep.below HNq2.out h2)
 clear HNq2
 have HNq2 := HNq2_
 clear HNq2_
 clear h1 h2 HB2 HV2
 refine ⟨_, rfl, ?_⟩
 refine hK.out _ _ ⟨(cell_of HV3.out 0).trans rfl, (cell_of HV3.out 1).trans rfl, (cell_of HV3.out 2).trans rfl, (cell_of HV3.out 3).trans rfl, (cell_of HV3.out 4).trans rfl, (cell_of HV3.out 5).trans rfl, (cell_of HV3.out 6).trans rfl, (cell_of HV3.out 7).trans rfl, (cell_of HV3.out 8).trans rfl, (cell_of HV3.out 9).trans rfl, (cell_of HV3.out 10).trans rfl⟩ (fun hHeld => ?_)
 clear hK K
 refine norm_ (a' := ?_) ?_ ?_
 rotate_left
 ·show Act.put _ (some 175) _ = _
  simp only [Act.put, sI, sZ, sS, i64_w, i32_w]
  rfl
 refine one_ (i := 16) (N := some 178) #[true, true, true, true, true, true, true, true, true, true, true, true, true, true, true, true, true, false] rfl rfl (by kernel_rfl) (by decide) (fun K hK => ?_)
 refine goes_ Try.func93 (by kernel_rfl) rfl #[.agg #[.bool m, .pointer p, .pointer pl, .pointer pr, .pointer pll, .pointer plr, .pointer prl, .pointer prr, .pointer pa, .pointer pb, .bool rt], .pointer pr, .int .i64 (wt X), .pointer q3, .pointer prr] (by rfl) rfl rfl (by (try simp only [List.map_toArray, List.map_cons, List.map_nil]); first | done | rfl) ?_
 with_reducible refine (put_any _ _ _ _ _ _ _ _ _ _ _ _ _ _ _ _ _ _ _ _ _ _ (fun k hk => HSS.out k (Nat.le_trans HB3.out.size hk)) (by rw [← Er.out]; exact (Hr.out.below HB3.out)) HNq3.out (Hrr.out.below HB3.out)).mono ?_
 rw [show nr.f0 = keyT R from by rw [Er.out]; rfl]
 rintro e w4_ ⟨v', rfl, h1, h2⟩
 obtain ⟨q4, rfl⟩ := h1.ptr
 have HB4 := Am (HB3.out.trans (h2.mono HB3.out.size))
 have HNq4 := Am (TopRep.rep h1 h2)
 have HTOP := Am h1
 have HTB := Am h2
 have HTW := HB3
 have HV4 := Am ((h2.block _ (Array.getElem?_eq_some_iff.1 HV3.out).1).trans HV3.out)
 have HNq1_ := Am (Rep.below HNq1.out h2)
 clear HNq1
 have HNq1 := HNq1_
 clear HNq1_
 have HNq2_ := Am (Rep.below HNq2.out h2)
 clear HNq2
 have HNq2 := HNq2_
 clear HNq2_
 have HNq3_ := Am (Rep.below HNq3.out h2)
 clear HNq3
 have HNq3 := HNq3_
 clear HNq3_
 clear h1 h2 HB3 HV3
 refine ⟨_, rfl, ?_⟩
 refine hK.out _ _ ⟨(cell_of HV4.out 0).trans rfl, (cell_of HV4.out 1).trans rfl, (cell_of HV4.out 2).trans rfl, (cell_of HV4.out 3).trans rfl, (cell_of HV4.out 4).trans rfl, (cell_of HV4.out 5).trans rfl, (cell_of HV4.out 6).trans rfl, (cell_of HV4.out 7).trans rfl, (cell_of HV4.out 8).trans rfl, (cell_of HV4.out 9).trans rfl, (cell_of HV4.out 10).trans rfl⟩ (fun hHeld => ?_)
 clear hK K
 refine norm_ (a' := ?_) ?_ ?_
 rotate_left
 ·show Act.put _ (some 178) _ = _
  simp only [Act.put, sI, sZ, sS, i64_w, i32_w]
  rfl
 refine pure_ (i := 17) (N := some 4) (v := ?_) (a' := ?_) #[true, true, true, true, true, true, true, true, true, true, true, true, true, true, true, true, true, true] rfl rfl (by kernel_rfl) (fun _ _ _ h => h) (Or.inl ⟨by rfl, ?_⟩) ?_ ?_
 rotate_left
 ·intro w'
  go_simp
  with_reducible rfl
 rotate_left
 ·simp only [Act.put, sI, sZ, sS, i64_w, i32_w]
  rfl
 refine done_ (by kernel_rfl) ?_
 try clear hHeld
 go_wp2
 go_ret
 exact HF.out _ _ _ HTW.out HTB.out HTOP.out
end Go.Proofs.Ytgleaefhflamnaa.T
