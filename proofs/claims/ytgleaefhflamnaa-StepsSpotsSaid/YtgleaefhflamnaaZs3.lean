/- A part of the proof: see YtgleaefhflamnaaLawStepsSpots. -/
import Derived.LaidEqlPtr
import Derived.IntWalk
import Derived.Test.YtgleaefhflamnaaZs2
set_option linter.unusedVariables false
set_option linter.unusedSimpArgs false
namespace Go.Proofs.Ytgleaefhflamnaa.T
open Go.RowKit Go.Proofs.YtgleaefhflamnaaW.PrintWords Go.Proofs.YtgleaefhflamnaaW.PrintLast Go.Proofs.YtgleaefhflamnaaW.PrintMore
variable {S : Nat → Prop}
set_option maxHeartbeats 4000000 in
set_option maxRecDepth 100000 in
theorem do5_any (m rt : Bool) (p pl pr pll plr prl prr pa pb : Option Addr) {nx : S34} {qx : Int} {lx rx : Tr} {nl : S34} {ql : Int} {ll rl : Tr} {nr : S34} {qr : Int} {lr rr : Tr} {nrl : S34} {qrl : Int} {lrl rrl : Tr} {X : Tr} {L : Tr} {R : Tr} {RL : Tr} {RR : Tr} (w : World) (hS : ∀ k, w.heap.size ≤ k → S k) (ex : X = .node nx qx lx rx) (el : L = .node nl ql ll rl) (er : R = .node nr qr lr rr) (erl : RL = .node nrl qrl lrl rrl) (Hx : Aside0 (Rep S w (.pointer p) X)) (Hl : Aside0 (Rep S w (.pointer pl) L)) (Hr : Aside0 (Rep S w (.pointer pr) R)) (Hrl : Aside0 (Rep S w (.pointer prl) RL)) (Hrr : Aside0 (Rep S w (.pointer prr) RR)) :
  Calls Try.prog 65 #[.agg #[.bool m, .pointer p, .pointer pl, .pointer pr, .pointer pll, .pointer plr, .pointer prl, .pointer prr, .pointer pa, .pointer pb, .bool rt], .int .i64 5] w fun e w' => DoPost S w (putT m (keyT R) (wt X) (putT m (keyT X) 1 (lessT L) (lessT RL)) RR) e w' := by
 have hu111 := Try.underlying111
 have Ex := Am ex
 clear ex
 have El := Am el
 clear el
 have Er := Am er
 clear er
 have Erl := Am erl
 clear erl
 have HSS := Am hS
 clear hS
 have hfin := do_fin (S := S) w (putT m (keyT R) (wt X) (putT m (keyT X) 1 (lessT L) (lessT RL)) RR)
 have HF := Am hfin
 clear hfin
 go_enter Try.func65, Try.ntmps65
 go_wp2_with (fail)
 refine (weight_any _ _ _ (Hx.out.below ((Below.refl _ _).alloc (Nat.le_refl _) _))).mono ?_
 rintro e w' ⟨rfl, rfl⟩
 go_wp2
 have HB0 : Aside0 (Below w.heap.size w (w.alloc (.cells #[.bool m, .pointer p, .pointer pl, .pointer pr, .pointer pll, .pointer plr, .pointer prl, .pointer prr, .pointer pa, .pointer pb, .bool rt] 111))) := ⟨(Below.refl _ _).alloc (Nat.le_refl _) _⟩
 have HV0 : Aside0 ((w.alloc (.cells #[.bool m, .pointer p, .pointer pl, .pointer pr, .pointer pll, .pointer plr, .pointer prl, .pointer prr, .pointer pa, .pointer pb, .bool rt] 111)).heap[w.heap.size]? = some (.cells #[.bool m, .pointer p, .pointer pl, .pointer pr, .pointer pll, .pointer plr, .pointer prl, .pointer prr, .pointer pa, .pointer pb, .bool rt] 111 (0, 0))) := ⟨heap_alloc_new w _⟩
 generalize w.alloc (.cells #[.bool m, .pointer p, .pointer pl, .pointer pr, .pointer pll, .pointer plr, .pointer prl, .pointer prr, .pointer pa, .pointer pb, .bool rt] 111) = w1 at HB0 HV0 ⊢
 obtain ⟨g, hg⟩ : ∃ g, g = w.heap.size := ⟨_, rfl⟩
 rw [← hg] at HV0 ⊢
 clear hg
 have HB0_ := Am (bd HB0.out)
 have HV0_ : Aside0 (w1.drew.heap[g]? = some (.cells #[.bool m, .pointer p, .pointer pl, .pointer pr, .pointer pll, .pointer plr, .pointer prl, .pointer prr, .pointer pa, .pointer pb, .bool rt] 111 (0, 0))) := ⟨HV0.out⟩
 clear HB0 HV0 
 have HB0 := HB0_
 have HV0 := HV0_
 clear HB0_ HV0_
 refine start_ (n := 18) (S := fun w' => w'.cell? ⟨g, 0, none⟩ = some (.bool m) ∧ w'.cell? ⟨g, 1, none⟩ = some (.pointer p) ∧ w'.cell? ⟨g, 2, none⟩ = some (.pointer pl) ∧ w'.cell? ⟨g, 3, none⟩ = some (.pointer pr) ∧ w'.cell? ⟨g, 4, none⟩ = some (.pointer pll) ∧ w'.cell? ⟨g, 5, none⟩ = some (.pointer plr) ∧ w'.cell? ⟨g, 6, none⟩ = some (.pointer prl) ∧ w'.cell? ⟨g, 7, none⟩ = some (.pointer prr) ∧ w'.cell? ⟨g, 8, none⟩ = some (.pointer pa) ∧ w'.cell? ⟨g, 9, none⟩ = some (.pointer pb) ∧ w'.cell? ⟨g, 10, none⟩ = some (.bool rt)) (ds := []) #[false, false, false, false, false, false, false, false, false, false, false, false, false, false, false, false, false, false] (by kernel_rfl) rfl rfl ⟨(cell_of HV0.out 0).trans rfl, (cell_of HV0.out 1).trans rfl, (cell_of HV0.out 2).trans rfl, (cell_of HV0.out 3).trans rfl, (cell_of HV0.out 4).trans rfl, (cell_of HV0.out 5).trans rfl, (cell_of HV0.out 6).trans rfl, (cell_of HV0.out 7).trans rfl, (cell_of HV0.out 8).trans rfl, (cell_of HV0.out 9).trans rfl, (cell_of HV0.out 10).trans rfl⟩ (fun hHeld => ?_)
 refine pu 1 144 ?_
 refine pu 3 146 ?_
 refine pu 5 148 ?_
 refine pu 7 150 ?_
 refine pu 10 153 ?_
 refine pu 14 157 ?_
 refine ta 0 143 hHeld ?_
 refine ta 2 145 hHeld ?_
 refine ta 4 147 hHeld ?_
 refine ta 6 149 hHeld ?_
 refine ta 8 151 hHeld ?_
 refine ta 11 154 hHeld ?_
 refine ta 15 158 hHeld ?_
 refine one_ (i := 9) (N := some 152) #[true, true, true, true, true, true, true, true, true, true, true, true, false, false, true, true, false, false] rfl rfl (by kernel_rfl) (by decide) (fun K hK => ?_)
 refine goes_ Try.func95 (by kernel_rfl) rfl #[.pointer pl] (by rfl) rfl rfl (by (try simp only [List.map_toArray, List.map_cons, List.map_nil]); first | done | rfl) ?_
 with_reducible refine (less_any _ _ _ _ _ _ (fun k hk => HSS.out k (Nat.le_trans HB0.out.size hk)) (by rw [← El.out]; exact (Hl.out.below HB0.out))).mono ?_
 rw [← El.out]
 rintro e w1_ ⟨v', rfl, h1, h2⟩
 obtain ⟨q1, rfl⟩ := h1.ptr
 have HB1 := Am (HB0.out.trans (h2.mono HB0.out.size))
 have HNq1 := Am (TopRep.rep h1 h2)
 have HV1 := Am ((h2.block _ (Array.getElem?_eq_some_iff.1 HV0.out).1).trans HV0.out)
 clear h1 h2 HB0 HV0
 refine ⟨_, rfl, ?_⟩
 refine hK.out _ _ ⟨(cell_of HV1.out 0).trans rfl, (cell_of HV1.out 1).trans rfl, (cell_of HV1.out 2).trans rfl, (cell_of HV1.out 3).trans rfl, (cell_of HV1.out 4).trans rfl, (cell_of HV1.out 5).trans rfl, (cell_of HV1.out 6).trans rfl, (cell_of HV1.out 7).trans rfl, (cell_of HV1.out 8).trans rfl, (cell_of HV1.out 9).trans rfl, (cell_of HV1.out 10).trans rfl⟩ (fun hHeld => ?_)
 clear hK K
 refine norm_ (a' := ?_) ?_ ?_
 rotate_left
 ·show Act.put _ (some 152) _ = _
  simp only [Act.put, sI, sZ, sS, i64_w, i32_w]
  rfl
 refine one_ (i := 12) (N := some 155) #[true, true, true, true, true, true, true, true, true, true, true, true, true, false, true, true, false, false] rfl rfl (by kernel_rfl) (by decide) (fun K hK => ?_)
 refine goes_ Try.func95 (by kernel_rfl) rfl #[.pointer prl] (by rfl) rfl rfl (by (try simp only [List.map_toArray, List.map_cons, List.map_nil]); first | done | rfl) ?_
 with_reducible refine (less_any _ _ _ _ _ _ (fun k hk => HSS.out k (Nat.le_trans HB1.out.size hk)) (by rw [← Erl.out]; exact (Hrl.out.below HB1.out))).mono ?_
 rw [← Erl.out]
 rintro e w2_ ⟨v', rfl, h1, h2⟩
 obtain ⟨q2, rfl⟩ := h1.ptr
 have HB2 := Am (HB1.out.trans (h2.mono HB1.out.size))
 have HNq2 := Am (TopRep.rep h1 h2)
 have HV2 := Am ((h2.block _ (Array.getElem?_eq_some_iff.1 HV1.out).1).trans HV1.out)
 have HNq1_ := Am (Rep.below HNq1.out h2)
 clear HNq1
 have HNq1 := HNq1_
 clear HNq1_
 clear h1 h2 HB1 HV1
 refine ⟨_, rfl, ?_⟩
 refine hK.out _ _ ⟨(cell_of HV2.out 0).trans rfl, (cell_of HV2.out 1).trans rfl, (cell_of HV2.out 2).trans rfl, (cell_of HV2.out 3).trans rfl, (cell_of HV2.out 4).trans rfl, (cell_of HV2.out 5).trans rfl, (cell_of HV2.out 6).trans rfl, (cell_of HV2.out 7).trans rfl, (cell_of HV2.out 8).trans rfl, (cell_of HV2.out 9).trans rfl, (cell_of HV2.out 10).trans rfl⟩ (fun hHeld => ?_)
 clear hK K
 refine norm_ (a' := ?_) ?_ ?_
 rotate_left
 ·show Act.put _ (some 155) _ = _
  simp only [Act.put, sI, sZ, sS, i64_w, i32_w]
  rfl
 refine one_ (i := 13) (N := some 156) #[true, true, true, true, true, true, true, true, true, true, true, true, true, true, true, true, false, false] rfl rfl (by kernel_rfl) (by decide) (fun K hK => ?_)
 refine goes_ Try.func93 (by kernel_rfl) rfl #[.agg #[.bool m, .pointer p, .pointer pl, .pointer pr, .pointer pll, .pointer plr, .pointer prl, .pointer prr, .pointer pa, .pointer pb, .bool rt], .pointer p, .int .i64 1, .pointer q1, .pointer q2] (by rfl) rfl rfl (by (try simp only [List.map_toArray, List.map_cons, List.map_nil]); first | done | rfl) ?_
 with_reducible refine (put_any _ _ _ _ _ _ _ _ _ _ _ _ _ _ _ _ _ _ _ _ _ _ (fun k hk => HSS.out k (Nat.le_trans HB2.out.size hk)) (by rw [← Ex.out]; exact (Hx.out.below HB2.out)) HNq1.out HNq2.out).mono ?_
 rw [show nx.f0 = keyT X from by rw [Ex.out]; rfl]
 rintro e w3_ ⟨v', rfl, h1, h2⟩
 obtain ⟨q3, rfl⟩ := h1.ptr
 have HB3 := Am (HB2.out.trans (h2.mono HB2.out.size))
 have HNq3 := Am (TopRep.rep h1 h2)
 have HV3 := Am ((h2.block _ (Array.getElem?_eq_some_iff.1 HV2.out).1).trans HV2.out)
 have HNq1_ := Am (Rep.below HNq1.out h2)
 clear HNq1
 have HNq1 := HNq1_
 clear HNq1_
 have HNq2_ := Am (Rep.below HNq2.out h2)
 clear HNq2
 have HNq2 := HNq2_
 clear HNq2_
 clear h1 h2 HB2 HV2
 refine ⟨_, rfl, ?_⟩
 refine hK.out _ _ ⟨(cell_of HV3.out 0).trans rfl, (cell_of HV3.out 1).trans rfl, (cell_of HV3.out 2).trans rfl, (cell_of HV3.out 3).trans rfl, (cell_of HV3.out 4).trans rfl, (cell_of HV3.out 5).trans rfl, (cell_of HV3.out 6).trans rfl, (cell_of HV3.out 7).trans rfl, (cell_of HV3.out 8).trans rfl, (cell_of HV3.out 9).trans rfl, (cell_of HV3.out 10).trans rfl⟩ (fun hHeld => ?_)
 clear hK K
 refine norm_ (a' := ?_) ?_ ?_
 rotate_left
 ·show Act.put _ (some 156) _ = _
  simp only [Act.put, sI, sZ, sS, i64_w, i32_w]
  rfl
 refine one_ (i := 16) (N := some 159) #[true, true, true, true, true, true, true, true, true, true, true, true, true, true, true, true, true, false] rfl rfl (by kernel_rfl) (by decide) (fun K hK => ?_)
 refine goes_ Try.func93 (by kernel_rfl) rfl #[.agg #[.bool m, .pointer p, .pointer pl, .pointer pr, .pointer pll, .pointer plr, .pointer prl, .pointer prr, .pointer pa, .pointer pb, .bool rt], .pointer pr, .int .i64 (wt X), .pointer q3, .pointer prr] (by rfl) rfl rfl (by (try simp only [List.map_toArray, List.map_cons, List.map_nil]); first | done | rfl) ?_
 with_reducible refine (put_any _ _ _ _ _ _ _ _ _ _ _ _ _ _ _ _ _ _ _ _ _ _ (fun k hk => HSS.out k (Nat.le_trans HB3.out.size hk)) (by rw [← Er.out]; exact (Hr.out.below HB3.out)) HNq3.out (Hrr.out.below HB3.out)).mono ?_
 rw [show nr.f0 = keyT R from by rw [Er.out]; rfl]
 rintro e w4_ ⟨v', rfl, h1, h2⟩
 obtain ⟨q4, rfl⟩ := h1.ptr
 have HB4 := Am (HB3.out.trans (h2.mono HB3.out.size))
 have HNq4 := Am (TopRep.rep h1 h2)
 have HTOP := Am h1
 have HTB := Am h2
 have HTW := HB3
 have HV4 := Am ((h2.block _ (Array.getElem?_eq_some_iff.1 HV3.out).1).trans HV3.out)
 have HNq1_ := Am (Rep.below HNq1.out h2)
 clear HNq1
 have HNq1 := HNq1_
 clear HNq1_
 have HNq2_ := Am (Rep.below HNq2.out h2)
 clear HNq2
 have HNq2 := HNq2_
 clear HNq2_
 have HNq3_ := Am (Rep.below HNq3.out h2)
 clear HNq3
 have HNq3 := HNq3_
 clear HNq3_
 clear h1 h2 HB3 HV3
 refine ⟨_, rfl, ?_⟩
 refine hK.out _ _ ⟨(cell_of HV4.out 0).trans rfl, (cell_of HV4.out 1).trans rfl, (cell_of HV4.out 2).trans rfl, (cell_of HV4.out 3).trans rfl, (cell_of HV4.out 4).trans rfl, (cell_of HV4.out 5).trans rfl, (cell_of HV4.out 6).trans rfl, (cell_of HV4.out 7).trans rfl, (cell_of HV4.out 8).trans rfl, (cell_of HV4.out 9).trans rfl, (cell_of HV4.out 10).trans rfl⟩ (fun hHeld => ?_)
 clear hK K
 refine norm_ (a' := ?_) ?_ ?_
 rotate_left
 ·show Act.put _ (some 159) _ = _
  simp only [Act.put, sI, sZ, sS, i64_w, i32_w]
  rfl
 refine pu 17 4 ?_
 refine done_ (by kernel_rfl) ?_
 try clear hHeld
 go_wp2
 go_ret
 exact HF.out _ _ _ HTW.out HTB.out HTOP.out
set_option maxHeartbeats 4000000 in
set_option maxRecDepth 100000 in
theorem do6_any (m rt : Bool) (p pl pr pll plr prl prr pa pb : Option Addr) {nx : S34} {qx : Int} {lx rx : Tr} {nl : S34} {ql : Int} {ll rl : Tr} {nr : S34} {qr : Int} {lr rr : Tr} {nrl : S34} {qrl : Int} {lrl rrl : Tr} {X : Tr} {L : Tr} {R : Tr} {RL : Tr} {RR : Tr} (w : World) (hS : ∀ k, w.heap.size ≤ k → S k) (ex : X = .node nx qx lx rx) (el : L = .node nl ql ll rl) (er : R = .node nr qr lr rr) (erl : RL = .node nrl qrl lrl rrl) (Hx : Aside0 (Rep S w (.pointer p) X)) (Hl : Aside0 (Rep S w (.pointer pl) L)) (Hr : Aside0 (Rep S w (.pointer pr) R)) (Hrl : Aside0 (Rep S w (.pointer prl) RL)) (Hrr : Aside0 (Rep S w (.pointer prr) RR)) :
  Calls Try.prog 65 #[.agg #[.bool m, .pointer p, .pointer pl, .pointer pr, .pointer pll, .pointer plr, .pointer prl, .pointer prr, .pointer pa, .pointer pb, .bool rt], .int .i64 6] w fun e w' => DoPost S w (putT m (keyT R) (wt X) (putT m (keyT X) 1 (lessT L) (asT 0 RL)) RR) e w' := by
 have hu111 := Try.underlying111
 have Ex := Am ex
 clear ex
 have El := Am el
 clear el
 have Er := Am er
 clear er
 have Erl := Am erl
 clear erl
 have HSS := Am hS
 clear hS
 have hfin := do_fin (S := S) w (putT m (keyT R) (wt X) (putT m (keyT X) 1 (lessT L) (asT 0 RL)) RR)
 have HF := Am hfin
 clear hfin
 go_enter Try.func65, Try.ntmps65
 go_wp2_with (fail)
 refine (weight_any _ _ _ (Hx.out.below ((Below.refl _ _).alloc (Nat.le_refl _) _))).mono ?_
 rintro e w' ⟨rfl, rfl⟩
 go_wp2
 have HB0 : Aside0 (Below w.heap.size w (w.alloc (.cells #[.bool m, .pointer p, .pointer pl, .pointer pr, .pointer pll, .pointer plr, .pointer prl, .pointer prr, .pointer pa, .pointer pb, .bool rt] 111))) := ⟨(Below.refl _ _).alloc (Nat.le_refl _) _⟩
 have HV0 : Aside0 ((w.alloc (.cells #[.bool m, .pointer p, .pointer pl, .pointer pr, .pointer pll, .pointer plr, .pointer prl, .pointer prr, .pointer pa, .pointer pb, .bool rt] 111)).heap[w.heap.size]? = some (.cells #[.bool m, .pointer p, .pointer pl, .pointer pr, .pointer pll, .pointer plr, .pointer prl, .pointer prr, .pointer pa, .pointer pb, .bool rt] 111 (0, 0))) := ⟨heap_alloc_new w _⟩
 generalize w.alloc (.cells #[.bool m, .pointer p, .pointer pl, .pointer pr, .pointer pll, .pointer plr, .pointer prl, .pointer prr, .pointer pa, .pointer pb, .bool rt] 111) = w1 at HB0 HV0 ⊢
 obtain ⟨g, hg⟩ : ∃ g, g = w.heap.size := ⟨_, rfl⟩
 rw [← hg] at HV0 ⊢
 clear hg
 have HB0_ := Am (bd HB0.out)
 have HV0_ : Aside0 (w1.drew.heap[g]? = some (.cells #[.bool m, .pointer p, .pointer pl, .pointer pr, .pointer pll, .pointer plr, .pointer prl, .pointer prr, .pointer pa, .pointer pb, .bool rt] 111 (0, 0))) := ⟨HV0.out⟩
 clear HB0 HV0 
 have HB0 := HB0_
 have HV0 := HV0_
 clear HB0_ HV0_
 refine start_ (n := 18) (S := fun w' => w'.cell? ⟨g, 0, none⟩ = some (.bool m) ∧ w'.cell? ⟨g, 1, none⟩ = some (.pointer p) ∧ w'.cell? ⟨g, 2, none⟩ = some (.pointer pl) ∧ w'.cell? ⟨g, 3, none⟩ = some (.pointer pr) ∧ w'.cell? ⟨g, 4, none⟩ = some (.pointer pll) ∧ w'.cell? ⟨g, 5, none⟩ = some (.pointer plr) ∧ w'.cell? ⟨g, 6, none⟩ = some (.pointer prl) ∧ w'.cell? ⟨g, 7, none⟩ = some (.pointer prr) ∧ w'.cell? ⟨g, 8, none⟩ = some (.pointer pa) ∧ w'.cell? ⟨g, 9, none⟩ = some (.pointer pb) ∧ w'.cell? ⟨g, 10, none⟩ = some (.bool rt)) (ds := []) #[false, false, false, false, false, false, false, false, false, false, false, false, false, false, false, false, false, false] (by kernel_rfl) rfl rfl ⟨(cell_of HV0.out 0).trans rfl, (cell_of HV0.out 1).trans rfl, (cell_of HV0.out 2).trans rfl, (cell_of HV0.out 3).trans rfl, (cell_of HV0.out 4).trans rfl, (cell_of HV0.out 5).trans rfl, (cell_of HV0.out 6).trans rfl, (cell_of HV0.out 7).trans rfl, (cell_of HV0.out 8).trans rfl, (cell_of HV0.out 9).trans rfl, (cell_of HV0.out 10).trans rfl⟩ (fun hHeld => ?_)
 refine pu 1 163 ?_
 refine pu 3 165 ?_
 refine pu 5 167 ?_
 refine pu 7 169 ?_
 refine pu 10 172 ?_
 refine pu 14 176 ?_
 refine ta 0 162 hHeld ?_
 refine ta 2 164 hHeld ?_
 refine ta 4 166 hHeld ?_
 refine ta 6 168 hHeld ?_
 refine ta 8 170 hHeld ?_
 refine ta 11 173 hHeld ?_
 refine ta 15 177 hHeld ?_
 refine one_ (i := 9) (N := some 171) #[true, true, true, true, true, true, true, true, true, true, true, true, false, false, true, true, false, false] rfl rfl (by kernel_rfl) (by decide) (fun K hK => ?_)
 refine goes_ Try.func95 (by kernel_rfl) rfl #[.pointer pl] (by rfl) rfl rfl (by (try simp only [List.map_toArray, List.map_cons, List.map_nil]); first | done | rfl) ?_
 with_reducible refine (less_any _ _ _ _ _ _ (fun k hk => HSS.out k (Nat.le_trans HB0.out.size hk)) (by rw [← El.out]; exact (Hl.out.below HB0.out))).mono ?_
 rw [← El.out]
 rintro e w1_ ⟨v', rfl, h1, h2⟩
 obtain ⟨q1, rfl⟩ := h1.ptr
 have HB1 := Am (HB0.out.trans (h2.mono HB0.out.size))
 have HNq1 := Am (TopRep.rep h1 h2)
 have HV1 := Am ((h2.block _ (Array.getElem?_eq_some_iff.1 HV0.out).1).trans HV0.out)
 clear h1 h2 HB0 HV0
 refine ⟨_, rfl, ?_⟩
 refine hK.out _ _ ⟨(cell_of HV1.out 0).trans rfl, (cell_of HV1.out 1).trans rfl, (cell_of HV1.out 2).trans rfl, (cell_of HV1.out 3).trans rfl, (cell_of HV1.out 4).trans rfl, (cell_of HV1.out 5).trans rfl, (cell_of HV1.out 6).trans rfl, (cell_of HV1.out 7).trans rfl, (cell_of HV1.out 8).trans rfl, (cell_of HV1.out 9).trans rfl, (cell_of HV1.out 10).trans rfl⟩ (fun hHeld => ?_)
 clear hK K
 refine norm_ (a' := ?_) ?_ ?_
 rotate_left
 ·show Act.put _ (some 171) _ = _
  simp only [Act.put, sI, sZ, sS, i64_w, i32_w]
  rfl
 refine one_ (i := 12) (N := some 174) #[true, true, true, true, true, true, true, true, true, true, true, true, true, false, true, true, false, false] rfl rfl (by kernel_rfl) (by decide) (fun K hK => ?_)
 refine goes_ Try.func94 (by kernel_rfl) rfl #[.pointer prl, .int .i64 0] (by rfl) rfl rfl (by (try simp only [List.map_toArray, List.map_cons, List.map_nil]); first | done | rfl) ?_
 with_reducible refine (as_any _ _ _ _ _ _ _ (fun k hk => HSS.out k (Nat.le_trans HB1.out.size hk)) (by rw [← Erl.out]; exact (Hrl.out.below HB1.out))).mono ?_
 rw [← Erl.out]
 rintro e w2_ ⟨v', rfl, h1, h2⟩
 obtain ⟨q2, rfl⟩ := h1.ptr
 have HB2 := Am (HB1.out.trans (h2.mono HB1.out.size))
 have HNq2 := Am (TopRep.rep h1 h2)
 have HV2 := Am ((h2.block _ (Array.getElem?_eq_some_iff.1 HV1.out).1).trans HV1.out)
 have HNq1_ := Am (Rep.below HNq1.out h2)
 clear HNq1
 have HNq1 := HNq1_
 clear HNq1_
 clear h1 h2 HB1 HV1
 refine ⟨_, rfl, ?_⟩
 refine hK.out _ _ ⟨(cell_of HV2.out 0).trans rfl, (cell_of HV2.out 1).trans rfl, (cell_of HV2.out 2).trans rfl, (cell_of HV2.out 3).trans rfl, (cell_of HV2.out 4).trans rfl, (cell_of HV2.out 5).trans rfl, (cell_of HV2.out 6).trans rfl, (cell_of HV2.out 7).trans rfl, (cell_of HV2.out 8).trans rfl, (cell_of HV2.out 9).trans rfl, (cell_of HV2.out 10).trans rfl⟩ (fun hHeld => ?_)
 clear hK K
 refine norm_ (a' := ?_) ?_ ?_
 rotate_left
 ·show Act.put _ (some 174) _ = _
  simp only [Act.put, sI, sZ, sS, i64_w, i32_w]
  rfl
 refine one_ (i := 13) (N := some 175) #[true, true, true, true, true, true, true, true, true, true, true, true, true, true, true, true, false, false] rfl rfl (by kernel_rfl) (by decide) (fun K hK => ?_)
 refine goes_ Try.func93 (by kernel_rfl) rfl #[.agg #[.bool m, .pointer p, .pointer pl, .pointer pr, .pointer pll, .pointer plr, .pointer prl, .pointer prr, .pointer pa, .pointer pb, .bool rt], .pointer p, .int .i64 1, .pointer q1, .pointer q2] (by rfl) rfl rfl (by (try simp only [List.map_toArray, List.map_cons, List.map_nil]); first | done | rfl) ?_
 with_reducible refine (put_any _ _ _ _ _ _ _ _ _ _ _ _ _ _ _ _ _ _ _ _ _ _ (fun k hk => HSS.out k (Nat.le_trans HB2.out.size hk)) (by rw [← Ex.out]; exact (Hx.out.below HB2.out)) HNq1.out HNq2.out).mono ?_
 rw [show nx.f0 = keyT X from by rw [Ex.out]; rfl]
 rintro e w3_ ⟨v', rfl, h1, h2⟩
 obtain ⟨q3, rfl⟩ := h1.ptr
 have HB3 := Am (HB2.out.trans (h2.mono HB2.out.size))
 have HNq3 := Am (TopRep.rep h1 h2)
 have HV3 := Am ((h2.block _ (Array.getElem?_eq_some_iff.1 HV2.out).1).trans HV2.out)
 have HNq1_ := Am (Rep.below HNq1.out h2)
 clear HNq1
 have HNq1 := HNq1_
 clear HNq1_
 have HNq2_ := Am (Rep.below HNq2.out h2)
 clear HNq2
 have HNq2 := HNq2_
 clear HNq2_
 clear h1 h2 HB2 HV2
 refine ⟨_, rfl, ?_⟩
 refine hK.out _ _ ⟨(cell_of HV3.out 0).trans rfl, (cell_of HV3.out 1).trans rfl, (cell_of HV3.out 2).trans rfl, (cell_of HV3.out 3).trans rfl, (cell_of HV3.out 4).trans rfl, (cell_of HV3.out 5).trans rfl, (cell_of HV3.out 6).trans rfl, (cell_of HV3.out 7).trans rfl, (cell_of HV3.out 8).trans rfl, (cell_of HV3.out 9).trans rfl, (cell_of HV3.out 10).trans rfl⟩ (fun hHeld => ?_)
 clear hK K
 refine norm_ (a' := ?_) ?_ ?_
 rotate_left
 ·show Act.put _ (some 175) _ = _
  simp only [Act.put, sI, sZ, sS, i64_w, i32_w]
  rfl
 refine one_ (i := 16) (N := some 178) #[true, true, true, true, true, true, true, true, true, true, true, true, true, true, true, true, true, false] rfl rfl (by kernel_rfl) (by decide) (fun K hK => ?_)
 refine goes_ Try.func93 (by kernel_rfl) rfl #[.agg #[.bool m, .pointer p, .pointer pl, .pointer pr, .pointer pll, .pointer plr, .pointer prl, .pointer prr, .pointer pa, .pointer pb, .bool rt], .pointer pr, .int .i64 (wt X), .pointer q3, .pointer prr] (by rfl) rfl rfl (by (try simp only [List.map_toArray, List.map_cons, List.map_nil]); first | done | rfl) ?_
 with_reducible refine (put_any _ _ _ _ _ _ _ _ _ _ _ _ _ _ _ _ _ _ _ _ _ _ (fun k hk => HSS.out k (Nat.le_trans HB3.out.size hk)) (by rw [← Er.out]; exact (Hr.out.below HB3.out)) HNq3.out (Hrr.out.below HB3.out)).mono ?_
 rw [show nr.f0 = keyT R from by rw [Er.out]; rfl]
 rintro e w4_ ⟨v', rfl, h1, h2⟩
 obtain ⟨q4, rfl⟩ := h1.ptr
 have HB4 := Am (HB3.out.trans (h2.mono HB3.out.size))
 have HNq4 := Am (TopRep.rep h1 h2)
 have HTOP := Am h1
 have HTB := Am h2
 have HTW := HB3
 have HV4 := Am ((h2.block _ (Array.getElem?_eq_some_iff.1 HV3.out).1).trans HV3.out)
 have HNq1_ := Am (Rep.below HNq1.out h2)
 clear HNq1
 have HNq1 := HNq1_
 clear HNq1_
 have HNq2_ := Am (Rep.below HNq2.out h2)
 clear HNq2
 have HNq2 := HNq2_
 clear HNq2_
 have HNq3_ := Am (Rep.below HNq3.out h2)
 clear HNq3
 have HNq3 := HNq3_
 clear HNq3_
 clear h1 h2 HB3 HV3
 refine ⟨_, rfl, ?_⟩
 refine hK.out _ _ ⟨(cell_of HV4.out 0).trans rfl, (cell_of HV4.out 1).trans rfl, (cell_of HV4.out 2).trans rfl, (cell_of HV4.out 3).trans rfl, (cell_of HV4.out 4).trans rfl, (cell_of HV4.out 5).trans rfl, (cell_of HV4.out 6).trans rfl, (cell_of HV4.out 7).trans rfl, (cell_of HV4.out 8).trans rfl, (cell_of HV4.out 9).trans rfl, (cell_of HV4.out 10).trans rfl⟩ (fun hHeld => ?_)
 clear hK K
 refine norm_ (a' := ?_) ?_ ?_
 rotate_left
 ·show Act.put _ (some 178) _ = _
  simp only [Act.put, sI, sZ, sS, i64_w, i32_w]
  rfl
 refine pu 17 4 ?_
 refine done_ (by kernel_rfl) ?_
 try clear hHeld
 go_wp2
 go_ret
 exact HF.out _ _ _ HTW.out HTB.out HTOP.out
end Go.Proofs.Ytgleaefhflamnaa.T
namespace Go.Proofs.Ytgleaefhflamnaa.T
open Go.RowKit Go.Proofs.YtgleaefhflamnaaW.PrintWords Go.Proofs.YtgleaefhflamnaaW.PrintLast Go.Proofs.YtgleaefhflamnaaW.PrintMore
variable {S : Nat → Prop}
set_option maxHeartbeats 4000000 in
set_option maxRecDepth 100000 in
theorem do7_any (m rt : Bool) (p pl pr pll plr prl prr pa pb : Option Addr) {nx : S34} {qx : Int} {lx rx : Tr} {nl : S34} {ql : Int} {ll rl : Tr} {nr : S34} {qr : Int} {lr rr : Tr} {nrl : S34} {qrl : Int} {lrl rrl : Tr} {na : S34} {qa : Int} {la ra : Tr} {X : Tr} {L : Tr} {R : Tr} {RL : Tr} {RR : Tr} {A : Tr} {B : Tr} (w : World) (hS : ∀ k, w.heap.size ≤ k → S k) (ex : X = .node nx qx lx rx) (el : L = .node nl ql ll rl) (er : R = .node nr qr lr rr) (erl : RL = .node nrl qrl lrl rrl) (ea : A = .node na qa la ra) (Hx : Aside0 (Rep S w (.pointer p) X)) (Hl : Aside0 (Rep S w (.pointer pl) L)) (Hr : Aside0 (Rep S w (.pointer pr) R)) (Hrl : Aside0 (Rep S w (.pointer prl) RL)) (Hrr : Aside0 (Rep S w (.pointer prr) RR)) (Ha : Aside0 (Rep S w (.pointer pa) A)) (Hb : Aside0 (Rep S w (.pointer pb) B)) :
  Calls Try.prog 65 #[.agg #[.bool m, .pointer p, .pointer pl, .pointer pr, .pointer pll, .pointer plr, .pointer prl, .pointer prr, .pointer pa, .pointer pb, .bool rt], .int .i64 7] w fun e w' => DoPost S w (putT m (keyT R) (wt X) (putT m (keyT A) 0 (putT m (keyT X) 1 (lessT L) (lT m A)) (putT m (keyT RL) 1 (rT m A) B)) RR) e w' := by
 have hu111 := Try.underlying111
 have Ex := Am ex
 clear ex
 have El := Am el
 clear el
 have Er := Am er
 clear er
 have Erl := Am erl
 clear erl
 have Ea := Am ea
 clear ea
 have HSS := Am hS
 clear hS
 have hfin := do_fin (S := S) w (putT m (keyT R) (wt X) (putT m (keyT A) 0 (putT m (keyT X) 1 (lessT L) (lT m A)) (putT m (keyT RL) 1 (rT m A) B)) RR)
 have HF := Am hfin
 clear hfin
 go_enter Try.func65, Try.ntmps65
 go_wp2_with (fail)
 refine (weight_any _ _ _ (Hx.out.below ((Below.refl _ _).alloc (Nat.le_refl _) _))).mono ?_
 rintro e w' ⟨rfl, rfl⟩
 go_wp2
 have HB0 : Aside0 (Below w.heap.size w (w.alloc (.cells #[.bool m, .pointer p, .pointer pl, .pointer pr, .pointer pll, .pointer plr, .pointer prl, .pointer prr, .pointer pa, .pointer pb, .bool rt] 111))) := ⟨(Below.refl _ _).alloc (Nat.le_refl _) _⟩
 have HV0 : Aside0 ((w.alloc (.cells #[.bool m, .pointer p, .pointer pl, .pointer pr, .pointer pll, .pointer plr, .pointer prl, .pointer prr, .pointer pa, .pointer pb, .bool rt] 111)).heap[w.heap.size]? = some (.cells #[.bool m, .pointer p, .pointer pl, .pointer pr, .pointer pll, .pointer plr, .pointer prl, .pointer prr, .pointer pa, .pointer pb, .bool rt] 111 (0, 0))) := ⟨heap_alloc_new w _⟩
 generalize w.alloc (.cells #[.bool m, .pointer p, .pointer pl, .pointer pr, .pointer pll, .pointer plr, .pointer prl, .pointer prr, .pointer pa, .pointer pb, .bool rt] 111) = w1 at HB0 HV0 ⊢
 obtain ⟨g, hg⟩ : ∃ g, g = w.heap.size := ⟨_, rfl⟩
 rw [← hg] at HV0 ⊢
 clear hg
 have HB0_ := Am (bd HB0.out)
 have HV0_ : Aside0 (w1.drew.heap[g]? = some (.cells #[.bool m, .pointer p, .pointer pl, .pointer pr, .pointer pll, .pointer plr, .pointer prl, .pointer prr, .pointer pa, .pointer pb, .bool rt] 111 (0, 0))) := ⟨HV0.out⟩
 clear HB0 HV0 
 have HB0 := HB0_
 have HV0 := HV0_
 clear HB0_ HV0_
 refine start_ (n := 12) (S := fun w' => w'.cell? ⟨g, 0, none⟩ = some (.bool m) ∧ w'.cell? ⟨g, 1, none⟩ = some (.pointer p) ∧ w'.cell? ⟨g, 2, none⟩ = some (.pointer pl) ∧ w'.cell? ⟨g, 3, none⟩ = some (.pointer pr) ∧ w'.cell? ⟨g, 4, none⟩ = some (.pointer pll) ∧ w'.cell? ⟨g, 5, none⟩ = some (.pointer plr) ∧ w'.cell? ⟨g, 6, none⟩ = some (.pointer prl) ∧ w'.cell? ⟨g, 7, none⟩ = some (.pointer prr) ∧ w'.cell? ⟨g, 8, none⟩ = some (.pointer pa) ∧ w'.cell? ⟨g, 9, none⟩ = some (.pointer pb) ∧ w'.cell? ⟨g, 10, none⟩ = some (.bool rt)) (ds := []) #[false, false, false, false, false, false, false, false, false, false, false, false] (by kernel_rfl) rfl rfl ⟨(cell_of HV0.out 0).trans rfl, (cell_of HV0.out 1).trans rfl, (cell_of HV0.out 2).trans rfl, (cell_of HV0.out 3).trans rfl, (cell_of HV0.out 4).trans rfl, (cell_of HV0.out 5).trans rfl, (cell_of HV0.out 6).trans rfl, (cell_of HV0.out 7).trans rfl, (cell_of HV0.out 8).trans rfl, (cell_of HV0.out 9).trans rfl, (cell_of HV0.out 10).trans rfl⟩ (fun hHeld => ?_)
 refine pu 1 182 ?_
 refine pu 3 184 ?_
 refine pu 7 188 ?_
 refine ta 0 181 hHeld ?_
 refine ta 2 183 hHeld ?_
 refine ta 4 185 hHeld ?_
 refine ta 6 187 hHeld ?_
 refine ta 8 189 hHeld ?_
 refine one_ (i := 5) (N := some 186) #[true, true, true, true, true, true, true, true, true, false, false, false] rfl rfl (by kernel_rfl) (by decide) (fun K hK => ?_)
 refine goes_ Try.func95 (by kernel_rfl) rfl #[.pointer pl] (by rfl) rfl rfl (by (try simp only [List.map_toArray, List.map_cons, List.map_nil]); first | done | rfl) ?_
 with_reducible refine (less_any _ _ _ _ _ _ (fun k hk => HSS.out k (Nat.le_trans HB0.out.size hk)) (by rw [← El.out]; exact (Hl.out.below HB0.out))).mono ?_
 rw [← El.out]
 rintro e w1_ ⟨v', rfl, h1, h2⟩
 obtain ⟨q1, rfl⟩ := h1.ptr
 have HB1 := Am (HB0.out.trans (h2.mono HB0.out.size))
 have HNq1 := Am (TopRep.rep h1 h2)
 have HV1 := Am ((h2.block _ (Array.getElem?_eq_some_iff.1 HV0.out).1).trans HV0.out)
 clear h1 h2 HB0 HV0
 refine ⟨_, rfl, ?_⟩
 refine hK.out _ _ ⟨(cell_of HV1.out 0).trans rfl, (cell_of HV1.out 1).trans rfl, (cell_of HV1.out 2).trans rfl, (cell_of HV1.out 3).trans rfl, (cell_of HV1.out 4).trans rfl, (cell_of HV1.out 5).trans rfl, (cell_of HV1.out 6).trans rfl, (cell_of HV1.out 7).trans rfl, (cell_of HV1.out 8).trans rfl, (cell_of HV1.out 9).trans rfl, (cell_of HV1.out 10).trans rfl⟩ (fun hHeld => ?_)
 clear hK K
 refine norm_ (a' := ?_) ?_ ?_
 rotate_left
 ·show Act.put _ (some 186) _ = _
  simp only [Act.put, sI, sZ, sS, i64_w, i32_w]
  rfl
 refine one_ (i := 9) (N := some 190) #[true, true, true, true, true, true, true, true, true, true, false, false] rfl rfl (by kernel_rfl) (by decide) (fun K hK => ?_)
 refine goes_ Try.func85 (by kernel_rfl) rfl #[.agg #[.bool m, .pointer p, .pointer pl, .pointer pr, .pointer pll, .pointer plr, .pointer prl, .pointer prr, .pointer pa, .pointer pb, .bool rt], .pointer pa] (by rfl) rfl rfl (by (try simp only [List.map_toArray, List.map_cons, List.map_nil]); first | done | rfl) ?_
 with_reducible refine (left_any _ _ _ _ _ _ _ _ _ _ _ _ _ w _ Ha.out HB1.out).mono ?_
 rintro e w2_ ⟨v', rfl, h1, h2⟩
 obtain ⟨q2, rfl⟩ := h1.ptr
 have HB2 := Am (HB1.out.trans (h2.mono HB1.out.size))
 have HNq2 := Am (Rep.below h1 HB2.out)
 have HV2 := Am ((h2.block _ (Array.getElem?_eq_some_iff.1 HV1.out).1).trans HV1.out)
 have HNq1_ := Am (Rep.below HNq1.out h2)
 clear HNq1
 have HNq1 := HNq1_
 clear HNq1_
 clear h1 h2 HB1 HV1
 refine ⟨_, rfl, ?_⟩
 refine hK.out _ _ ⟨(cell_of HV2.out 0).trans rfl, (cell_of HV2.out 1).trans rfl, (cell_of HV2.out 2).trans rfl, (cell_of HV2.out 3).trans rfl, (cell_of HV2.out 4).trans rfl, (cell_of HV2.out 5).trans rfl, (cell_of HV2.out 6).trans rfl, (cell_of HV2.out 7).trans rfl, (cell_of HV2.out 8).trans rfl, (cell_of HV2.out 9).trans rfl, (cell_of HV2.out 10).trans rfl⟩ (fun hHeld => ?_)
 clear hK K
 refine norm_ (a' := ?_) ?_ ?_
 rotate_left
 ·show Act.put _ (some 190) _ = _
  simp only [Act.put, sI, sZ, sS, i64_w, i32_w]
  rfl
 refine one_ (i := 10) (N := some 191) #[true, true, true, true, true, true, true, true, true, true, true, false] rfl rfl (by kernel_rfl) (by decide) (fun K hK => ?_)
 refine goes_ Try.func93 (by kernel_rfl) rfl #[.agg #[.bool m, .pointer p, .pointer pl, .pointer pr, .pointer pll, .pointer plr, .pointer prl, .pointer prr, .pointer pa, .pointer pb, .bool rt], .pointer p, .int .i64 1, .pointer q1, .pointer q2] (by rfl) rfl rfl (by (try simp only [List.map_toArray, List.map_cons, List.map_nil]); first | done | rfl) ?_
 with_reducible refine (put_any _ _ _ _ _ _ _ _ _ _ _ _ _ _ _ _ _ _ _ _ _ _ (fun k hk => HSS.out k (Nat.le_trans HB2.out.size hk)) (by rw [← Ex.out]; exact (Hx.out.below HB2.out)) HNq1.out HNq2.out).mono ?_
 rw [show nx.f0 = keyT X from by rw [Ex.out]; rfl]
 rintro e w3_ ⟨v', rfl, h1, h2⟩
 obtain ⟨q3, rfl⟩ := h1.ptr
 have HB3 := Am (HB2.out.trans (h2.mono HB2.out.size))
 have HNq3 := Am (TopRep.rep h1 h2)
 have HV3 := Am ((h2.block _ (Array.getElem?_eq_some_iff.1 HV2.out).1).trans HV2.out)
 have HNq1_ := Am (Rep.below HNq1.out h2)
 clear HNq1
 have HNq1 := HNq1_
 clear HNq1_
 have HNq2_ := Am (Rep.below HNq2.out h2)
 clear HNq2
 have HNq2 := HNq2_
 clear HNq2_
 clear h1 h2 HB2 HV2
 refine ⟨_, rfl, ?_⟩
 refine hK.out _ _ ⟨(cell_of HV3.out 0).trans rfl, (cell_of HV3.out 1).trans rfl, (cell_of HV3.out 2).trans rfl, (cell_of HV3.out 3).trans rfl, (cell_of HV3.out 4).trans rfl, (cell_of HV3.out 5).trans rfl, (cell_of HV3.out 6).trans rfl, (cell_of HV3.out 7).trans rfl, (cell_of HV3.out 8).trans rfl, (cell_of HV3.out 9).trans rfl, (cell_of HV3.out 10).trans rfl⟩ (fun hHeld => ?_)
 clear hK K
 refine norm_ (a' := ?_) ?_ ?_
 rotate_left
 ·show Act.put _ (some 191) _ = _
  simp only [Act.put, sI, sZ, sS, i64_w, i32_w]
  rfl
 refine pu 11 6 ?_
 refine done_ (by kernel_rfl) ?_
 try clear hHeld
 go_wp2
 have HB3_ := Am (bd HB3.out)
 have HV3_ : Aside0 (w3_.drew.heap[g]? = some (.cells #[.bool m, .pointer p, .pointer pl, .pointer pr, .pointer pll, .pointer plr, .pointer prl, .pointer prr, .pointer pa, .pointer pb, .bool rt] 111 (0, 0))) := ⟨HV3.out⟩
 have HNq1_ : Aside0 (Rep S w3_.drew (.pointer q1) (lessT L)) := ⟨Rep.kept (w := w3_) (w' := w3_.drew) (fun _ _ => rfl) HNq1.out⟩
 have HNq2_ : Aside0 (Rep S w3_.drew (.pointer q2) (lT m A)) := ⟨Rep.kept (w := w3_) (w' := w3_.drew) (fun _ _ => rfl) HNq2.out⟩
 have HNq3_ : Aside0 (Rep S w3_.drew (.pointer q3) (putT m (keyT X) 1 (lessT L) (lT m A))) := ⟨Rep.kept (w := w3_) (w' := w3_.drew) (fun _ _ => rfl) HNq3.out⟩
 clear HB3 HV3 HNq1 HNq2 HNq3
 have HB3 := HB3_
 have HV3 := HV3_
 clear HB3_ HV3_
 have HNq1 := HNq1_
 clear HNq1_
 have HNq2 := HNq2_
 clear HNq2_
 have HNq3 := HNq3_
 clear HNq3_
 refine start_ (n := 11) (S := fun w' => w'.cell? ⟨g, 0, none⟩ = some (.bool m) ∧ w'.cell? ⟨g, 1, none⟩ = some (.pointer p) ∧ w'.cell? ⟨g, 2, none⟩ = some (.pointer pl) ∧ w'.cell? ⟨g, 3, none⟩ = some (.pointer pr) ∧ w'.cell? ⟨g, 4, none⟩ = some (.pointer pll) ∧ w'.cell? ⟨g, 5, none⟩ = some (.pointer plr) ∧ w'.cell? ⟨g, 6, none⟩ = some (.pointer prl) ∧ w'.cell? ⟨g, 7, none⟩ = some (.pointer prr) ∧ w'.cell? ⟨g, 8, none⟩ = some (.pointer pa) ∧ w'.cell? ⟨g, 9, none⟩ = some (.pointer pb) ∧ w'.cell? ⟨g, 10, none⟩ = some (.bool rt)) (ds := []) #[false, false, false, false, false, false, false, false, false, false, false] (by kernel_rfl) rfl rfl ⟨(cell_of HV3.out 0).trans rfl, (cell_of HV3.out 1).trans rfl, (cell_of HV3.out 2).trans rfl, (cell_of HV3.out 3).trans rfl, (cell_of HV3.out 4).trans rfl, (cell_of HV3.out 5).trans rfl, (cell_of HV3.out 6).trans rfl, (cell_of HV3.out 7).trans rfl, (cell_of HV3.out 8).trans rfl, (cell_of HV3.out 9).trans rfl, (cell_of HV3.out 10).trans rfl⟩ (fun hHeld => ?_)
 refine pu 1 193 ?_
 refine pu 4 196 ?_
 refine pu 7 199 ?_
 refine ta 0 192 hHeld ?_
 refine ta 2 194 hHeld ?_
 refine ta 3 195 hHeld ?_
 refine ta 5 197 hHeld ?_
 refine ta 8 200 hHeld ?_
 refine one_ (i := 6) (N := some 198) #[true, true, true, true, true, true, true, true, true, false, false] rfl rfl (by kernel_rfl) (by decide) (fun K hK => ?_)
 refine goes_ Try.func86 (by kernel_rfl) rfl #[.agg #[.bool m, .pointer p, .pointer pl, .pointer pr, .pointer pll, .pointer plr, .pointer prl, .pointer prr, .pointer pa, .pointer pb, .bool rt], .pointer pa] (by rfl) rfl rfl (by (try simp only [List.map_toArray, List.map_cons, List.map_nil]); first | done | rfl) ?_
 with_reducible refine (right_any _ _ _ _ _ _ _ _ _ _ _ _ _ w _ Ha.out HB3.out).mono ?_
 rintro e w4_ ⟨v', rfl, h1, h2⟩
 obtain ⟨q4, rfl⟩ := h1.ptr
 have HB4 := Am (HB3.out.trans (h2.mono HB3.out.size))
 have HNq4 := Am (Rep.below h1 HB4.out)
 have HV4 := Am ((h2.block _ (Array.getElem?_eq_some_iff.1 HV3.out).1).trans HV3.out)
 have HNq1_ := Am (Rep.below HNq1.out h2)
 clear HNq1
 have HNq1 := HNq1_
 clear HNq1_
 have HNq2_ := Am (Rep.below HNq2.out h2)
 clear HNq2
 have HNq2 := HNq2_
 clear HNq2_
 have HNq3_ := Am (Rep.below HNq3.out h2)
 clear HNq3
 have HNq3 := HNq3_
 clear HNq3_
 clear h1 h2 HB3 HV3
 refine ⟨_, rfl, ?_⟩
 refine hK.out _ _ ⟨(cell_of HV4.out 0).trans rfl, (cell_of HV4.out 1).trans rfl, (cell_of HV4.out 2).trans rfl, (cell_of HV4.out 3).trans rfl, (cell_of HV4.out 4).trans rfl, (cell_of HV4.out 5).trans rfl, (cell_of HV4.out 6).trans rfl, (cell_of HV4.out 7).trans rfl, (cell_of HV4.out 8).trans rfl, (cell_of HV4.out 9).trans rfl, (cell_of HV4.out 10).trans rfl⟩ (fun hHeld => ?_)
 clear hK K
 refine norm_ (a' := ?_) ?_ ?_
 rotate_left
 ·show Act.put _ (some 198) _ = _
  simp only [Act.put, sI, sZ, sS, i64_w, i32_w]
  rfl
 refine one_ (i := 9) (N := some 201) #[true, true, true, true, true, true, true, true, true, true, false] rfl rfl (by kernel_rfl) (by decide) (fun K hK => ?_)
 refine goes_ Try.func93 (by kernel_rfl) rfl #[.agg #[.bool m, .pointer p, .pointer pl, .pointer pr, .pointer pll, .pointer plr, .pointer prl, .pointer prr, .pointer pa, .pointer pb, .bool rt], .pointer prl, .int .i64 1, .pointer q4, .pointer pb] (by rfl) rfl rfl (by (try simp only [List.map_toArray, List.map_cons, List.map_nil]); first | done | rfl) ?_
 with_reducible refine (put_any _ _ _ _ _ _ _ _ _ _ _ _ _ _ _ _ _ _ _ _ _ _ (fun k hk => HSS.out k (Nat.le_trans HB4.out.size hk)) (by rw [← Erl.out]; exact (Hrl.out.below HB4.out)) HNq4.out (Hb.out.below HB4.out)).mono ?_
 rw [show nrl.f0 = keyT RL from by rw [Erl.out]; rfl]
 rintro e w5_ ⟨v', rfl, h1, h2⟩
 obtain ⟨q5, rfl⟩ := h1.ptr
 have HB5 := Am (HB4.out.trans (h2.mono HB4.out.size))
 have HNq5 := Am (TopRep.rep h1 h2)
 have HV5 := Am ((h2.block _ (Array.getElem?_eq_some_iff.1 HV4.out).1).trans HV4.out)
 have HNq1_ := Am (Rep.below HNq1.out h2)
 clear HNq1
 have HNq1 := HNq1_
 clear HNq1_
 have HNq2_ := Am (Rep.below HNq2.out h2)
 clear HNq2
 have HNq2 := HNq2_
 clear HNq2_
 have HNq3_ := Am (Rep.below HNq3.out h2)
 clear HNq3
 have HNq3 := HNq3_
 clear HNq3_
 have HNq4_ := Am (Rep.below HNq4.out h2)
 clear HNq4
 have HNq4 := HNq4_
 clear HNq4_
 clear h1 h2 HB4 HV4
 refine ⟨_, rfl, ?_⟩
 refine hK.out _ _ ⟨(cell_of HV5.out 0).trans rfl, (cell_of HV5.out 1).trans rfl, (cell_of HV5.out 2).trans rfl, (cell_of HV5.out 3).trans rfl, (cell_of HV5.out 4).trans rfl, (cell_of HV5.out 5).trans rfl, (cell_of HV5.out 6).trans rfl, (cell_of HV5.out 7).trans rfl, (cell_of HV5.out 8).trans rfl, (cell_of HV5.out 9).trans rfl, (cell_of HV5.out 10).trans rfl⟩ (fun hHeld => ?_)
 clear hK K
 refine norm_ (a' := ?_) ?_ ?_
 rotate_left
 ·show Act.put _ (some 201) _ = _
  simp only [Act.put, sI, sZ, sS, i64_w, i32_w]
  rfl
 refine pu 10 7 ?_
 refine done_ (by kernel_rfl) ?_
 try clear hHeld
 go_wp2
 have HB5_ := Am (bd HB5.out)
 have HV5_ : Aside0 (w5_.drew.heap[g]? = some (.cells #[.bool m, .pointer p, .pointer pl, .pointer pr, .pointer pll, .pointer plr, .pointer prl, .pointer prr, .pointer pa, .pointer pb, .bool rt] 111 (0, 0))) := ⟨HV5.out⟩
 have HNq1_ : Aside0 (Rep S w5_.drew (.pointer q1) (lessT L)) := ⟨Rep.kept (w := w5_) (w' := w5_.drew) (fun _ _ => rfl) HNq1.out⟩
 have HNq2_ : Aside0 (Rep S w5_.drew (.pointer q2) (lT m A)) := ⟨Rep.kept (w := w5_) (w' := w5_.drew) (fun _ _ => rfl) HNq2.out⟩
 have HNq3_ : Aside0 (Rep S w5_.drew (.pointer q3) (putT m (keyT X) 1 (lessT L) (lT m A))) := ⟨Rep.kept (w := w5_) (w' := w5_.drew) (fun _ _ => rfl) HNq3.out⟩
 have HNq4_ : Aside0 (Rep S w5_.drew (.pointer q4) (rT m A)) := ⟨Rep.kept (w := w5_) (w' := w5_.drew) (fun _ _ => rfl) HNq4.out⟩
 have HNq5_ : Aside0 (Rep S w5_.drew (.pointer q5) (putT m (keyT RL) 1 (rT m A) B)) := ⟨Rep.kept (w := w5_) (w' := w5_.drew) (fun _ _ => rfl) HNq5.out⟩
 clear HB5 HV5 HNq1 HNq2 HNq3 HNq4 HNq5
 have HB5 := HB5_
 have HV5 := HV5_
 clear HB5_ HV5_
 have HNq1 := HNq1_
 clear HNq1_
 have HNq2 := HNq2_
 clear HNq2_
 have HNq3 := HNq3_
 clear HNq3_
 have HNq4 := HNq4_
 clear HNq4_
 have HNq5 := HNq5_
 clear HNq5_
 refine start_ (n := 14) (S := fun w' => w'.cell? ⟨g, 0, none⟩ = some (.bool m) ∧ w'.cell? ⟨g, 1, none⟩ = some (.pointer p) ∧ w'.cell? ⟨g, 2, none⟩ = some (.pointer pl) ∧ w'.cell? ⟨g, 3, none⟩ = some (.pointer pr) ∧ w'.cell? ⟨g, 4, none⟩ = some (.pointer pll) ∧ w'.cell? ⟨g, 5, none⟩ = some (.pointer plr) ∧ w'.cell? ⟨g, 6, none⟩ = some (.pointer prl) ∧ w'.cell? ⟨g, 7, none⟩ = some (.pointer prr) ∧ w'.cell? ⟨g, 8, none⟩ = some (.pointer pa) ∧ w'.cell? ⟨g, 9, none⟩ = some (.pointer pb) ∧ w'.cell? ⟨g, 10, none⟩ = some (.bool rt)) (ds := []) #[false, false, false, false, false, false, false, false, false, false, false, false, false, false] (by kernel_rfl) rfl rfl ⟨(cell_of HV5.out 0).trans rfl, (cell_of HV5.out 1).trans rfl, (cell_of HV5.out 2).trans rfl, (cell_of HV5.out 3).trans rfl, (cell_of HV5.out 4).trans rfl, (cell_of HV5.out 5).trans rfl, (cell_of HV5.out 6).trans rfl, (cell_of HV5.out 7).trans rfl, (cell_of HV5.out 8).trans rfl, (cell_of HV5.out 9).trans rfl, (cell_of HV5.out 10).trans rfl⟩ (fun hHeld => ?_)
 refine pu 1 203 ?_
 refine pu 3 205 ?_
 refine pu 5 207 ?_
 refine pu 7 209 ?_
 refine pu 8 210 ?_
 refine pu 10 212 ?_
 refine ta 0 202 hHeld ?_
 refine ta 2 204 hHeld ?_
 refine ta 4 206 hHeld ?_
 refine ta 6 208 hHeld ?_
 refine ta 11 213 hHeld ?_
 refine one_ (i := 9) (N := some 211) #[true, true, true, true, true, true, true, true, true, true, true, true, false, false] rfl rfl (by kernel_rfl) (by decide) (fun K hK => ?_)
 refine goes_ Try.func93 (by kernel_rfl) rfl #[.agg #[.bool m, .pointer p, .pointer pl, .pointer pr, .pointer pll, .pointer plr, .pointer prl, .pointer prr, .pointer pa, .pointer pb, .bool rt], .pointer pa, .int .i64 0, .pointer q3, .pointer q5] (by rfl) rfl rfl (by (try simp only [List.map_toArray, List.map_cons, List.map_nil]); first | done | rfl) ?_
 with_reducible refine (put_any _ _ _ _ _ _ _ _ _ _ _ _ _ _ _ _ _ _ _ _ _ _ (fun k hk => HSS.out k (Nat.le_trans HB5.out.size hk)) (by rw [← Ea.out]; exact (Ha.out.below HB5.out)) HNq3.out HNq5.out).mono ?_
 rw [show na.f0 = keyT A from by rw [Ea.out]; rfl]
 rintro e w6_ ⟨v', rfl, h1, h2⟩
 obtain ⟨q6, rfl⟩ := h1.ptr
 have HB6 := Am (HB5.out.trans (h2.mono HB5.out.size))
 have HNq6 := Am (TopRep.rep h1 h2)
 have HV6 := Am ((h2.block _ (Array.getElem?_eq_some_iff.1 HV5.out).1).trans HV5.out)
 have HNq1_ := Am (Rep.below HNq1.out h2)
 clear HNq1
 have HNq1 := HNq1_
 clear HNq1_
 have HNq2_ := Am (Rep.below HNq2.out h2)
 clear HNq2
 have HNq2 := HNq2_
 clear HNq2_
 have HNq3_ := Am (Rep.below HNq3.out h2)
 clear HNq3
 have HNq3 := HNq3_
 clear HNq3_
 have HNq4_ := Am (Rep.below HNq4.out h2)
 clear HNq4
 have HNq4 := HNq4_
 clear HNq4_
 have HNq5_ := Am (Rep.below HNq5.out h2)
 clear HNq5
 have HNq5 := HNq5_
 clear HNq5_
 clear h1 h2 HB5 HV5
 refine ⟨_, rfl, ?_⟩
 refine hK.out _ _ ⟨(cell_of HV6.out 0).trans rfl, (cell_of HV6.out 1).trans rfl, (cell_of HV6.out 2).trans rfl, (cell_of HV6.out 3).trans rfl, (cell_of HV6.out 4).trans rfl, (cell_of HV6.out 5).trans rfl, (cell_of HV6.out 6).trans rfl, (cell_of HV6.out 7).trans rfl, (cell_of HV6.out 8).trans rfl, (cell_of HV6.out 9).trans rfl, (cell_of HV6.out 10).trans rfl⟩ (fun hHeld => ?_)
 clear hK K
 refine norm_ (a' := ?_) ?_ ?_
 rotate_left
 ·show Act.put _ (some 211) _ = _
  simp only [Act.put, sI, sZ, sS, i64_w, i32_w]
  rfl
 refine one_ (i := 12) (N := some 214) #[true, true, true, true, true, true, true, true, true, true, true, true, true, false] rfl rfl (by kernel_rfl) (by decide) (fun K hK => ?_)
 refine goes_ Try.func93 (by kernel_rfl) rfl #[.agg #[.bool m, .pointer p, .pointer pl, .pointer pr, .pointer pll, .pointer plr, .pointer prl, .pointer prr, .pointer pa, .pointer pb, .bool rt], .pointer pr, .int .i64 (wt X), .pointer q6, .pointer prr] (by rfl) rfl rfl (by (try simp only [List.map_toArray, List.map_cons, List.map_nil]); first | done | rfl) ?_
 with_reducible refine (put_any _ _ _ _ _ _ _ _ _ _ _ _ _ _ _ _ _ _ _ _ _ _ (fun k hk => HSS.out k (Nat.le_trans HB6.out.size hk)) (by rw [← Er.out]; exact (Hr.out.below HB6.out)) HNq6.out (Hrr.out.below HB6.out)).mono ?_
 rw [show nr.f0 = keyT R from by rw [Er.out]; rfl]
 rintro e w7_ ⟨v', rfl, h1, h2⟩
 obtain ⟨q7, rfl⟩ := h1.ptr
 have HB7 := Am (HB6.out.trans (h2.mono HB6.out.size))
 have HNq7 := Am (TopRep.rep h1 h2)
 have HTOP := Am h1
 have HTB := Am h2
 have HTW := HB6
 have HV7 := Am ((h2.block _ (Array.getElem?_eq_some_iff.1 HV6.out).1).trans HV6.out)
 have HNq1_ := Am (Rep.below HNq1.out h2)
 clear HNq1
 have HNq1 := HNq1_
 clear HNq1_
 have HNq2_ := Am (Rep.below HNq2.out h2)
 clear HNq2
 have HNq2 := HNq2_
 clear HNq2_
 have HNq3_ := Am (Rep.below HNq3.out h2)
 clear HNq3
 have HNq3 := HNq3_
 clear HNq3_
 have HNq4_ := Am (Rep.below HNq4.out h2)
 clear HNq4
 have HNq4 := HNq4_
 clear HNq4_
 have HNq5_ := Am (Rep.below HNq5.out h2)
 clear HNq5
 have HNq5 := HNq5_
 clear HNq5_
 have HNq6_ := Am (Rep.below HNq6.out h2)
 clear HNq6
 have HNq6 := HNq6_
 clear HNq6_
 clear h1 h2 HB6 HV6
 refine ⟨_, rfl, ?_⟩
 refine hK.out _ _ ⟨(cell_of HV7.out 0).trans rfl, (cell_of HV7.out 1).trans rfl, (cell_of HV7.out 2).trans rfl, (cell_of HV7.out 3).trans rfl, (cell_of HV7.out 4).trans rfl, (cell_of HV7.out 5).trans rfl, (cell_of HV7.out 6).trans rfl, (cell_of HV7.out 7).trans rfl, (cell_of HV7.out 8).trans rfl, (cell_of HV7.out 9).trans rfl, (cell_of HV7.out 10).trans rfl⟩ (fun hHeld => ?_)
 clear hK K
 refine norm_ (a' := ?_) ?_ ?_
 rotate_left
 ·show Act.put _ (some 214) _ = _
  simp only [Act.put, sI, sZ, sS, i64_w, i32_w]
  rfl
 refine pu 13 4 ?_
 refine done_ (by kernel_rfl) ?_
 try clear hHeld
 go_wp2
 go_ret
 exact HF.out _ _ _ HTW.out HTB.out HTOP.out
end Go.Proofs.Ytgleaefhflamnaa.T
namespace Go.Proofs.Ytgleaefhflamnaa.T
open Go.RowKit Go.Proofs.YtgleaefhflamnaaW.PrintWords Go.Proofs.YtgleaefhflamnaaW.PrintLast Go.Proofs.YtgleaefhflamnaaW.PrintMore
variable {S : Nat → Prop}
set_option maxHeartbeats 4000000 in
set_option maxRecDepth 100000 in
theorem do8_any (m rt : Bool) (p pl pr pll plr prl prr pa pb : Option Addr) {nx : S34} {qx : Int} {lx rx : Tr} {nl : S34} {ql : Int} {ll rl : Tr} {nr : S34} {qr : Int} {lr rr : Tr} {nrl : S34} {qrl : Int} {lrl rrl : Tr} {nb : S34} {qb : Int} {lb rb : Tr} {X : Tr} {L : Tr} {R : Tr} {RL : Tr} {RR : Tr} {A : Tr} {B : Tr} (w : World) (hS : ∀ k, w.heap.size ≤ k → S k) (ex : X = .node nx qx lx rx) (el : L = .node nl ql ll rl) (er : R = .node nr qr lr rr) (erl : RL = .node nrl qrl lrl rrl) (eb : B = .node nb qb lb rb) (Hx : Aside0 (Rep S w (.pointer p) X)) (Hl : Aside0 (Rep S w (.pointer pl) L)) (Hr : Aside0 (Rep S w (.pointer pr) R)) (Hrl : Aside0 (Rep S w (.pointer prl) RL)) (Hrr : Aside0 (Rep S w (.pointer prr) RR)) (Ha : Aside0 (Rep S w (.pointer pa) A)) (Hb : Aside0 (Rep S w (.pointer pb) B)) :
  Calls Try.prog 65 #[.agg #[.bool m, .pointer p, .pointer pl, .pointer pr, .pointer pll, .pointer plr, .pointer prl, .pointer prr, .pointer pa, .pointer pb, .bool rt], .int .i64 8] w fun e w' => DoPost S w (putT m (keyT R) (wt X) (putT m (keyT RL) 0 (putT m (keyT X) 1 (lessT L) A) (asT 1 B)) RR) e w' := by
 have hu111 := Try.underlying111
 have Ex := Am ex
 clear ex
 have El := Am el
 clear el
 have Er := Am er
 clear er
 have Erl := Am erl
 clear erl
 have Eb := Am eb
 clear eb
 have HSS := Am hS
 clear hS
 have hfin := do_fin (S := S) w (putT m (keyT R) (wt X) (putT m (keyT RL) 0 (putT m (keyT X) 1 (lessT L) A) (asT 1 B)) RR)
 have HF := Am hfin
 clear hfin
 go_enter Try.func65, Try.ntmps65
 go_wp2_with (fail)
 refine (weight_any _ _ _ (Hx.out.below ((Below.refl _ _).alloc (Nat.le_refl _) _))).mono ?_
 rintro e w' ⟨rfl, rfl⟩
 go_wp2
 have HB0 : Aside0 (Below w.heap.size w (w.alloc (.cells #[.bool m, .pointer p, .pointer pl, .pointer pr, .pointer pll, .pointer plr, .pointer prl, .pointer prr, .pointer pa, .pointer pb, .bool rt] 111))) := ⟨(Below.refl _ _).alloc (Nat.le_refl _) _⟩
 have HV0 : Aside0 ((w.alloc (.cells #[.bool m, .pointer p, .pointer pl, .pointer pr, .pointer pll, .pointer plr, .pointer prl, .pointer prr, .pointer pa, .pointer pb, .bool rt] 111)).heap[w.heap.size]? = some (.cells #[.bool m, .pointer p, .pointer pl, .pointer pr, .pointer pll, .pointer plr, .pointer prl, .pointer prr, .pointer pa, .pointer pb, .bool rt] 111 (0, 0))) := ⟨heap_alloc_new w _⟩
 generalize w.alloc (.cells #[.bool m, .pointer p, .pointer pl, .pointer pr, .pointer pll, .pointer plr, .pointer prl, .pointer prr, .pointer pa, .pointer pb, .bool rt] 111) = w1 at HB0 HV0 ⊢
 obtain ⟨g, hg⟩ : ∃ g, g = w.heap.size := ⟨_, rfl⟩
 rw [← hg] at HV0 ⊢
 clear hg
 have HB0_ := Am (bd HB0.out)
 have HV0_ : Aside0 (w1.drew.heap[g]? = some (.cells #[.bool m, .pointer p, .pointer pl, .pointer pr, .pointer pll, .pointer plr, .pointer prl, .pointer prr, .pointer pa, .pointer pb, .bool rt] 111 (0, 0))) := ⟨HV0.out⟩
 clear HB0 HV0 
 have HB0 := HB0_
 have HV0 := HV0_
 clear HB0_ HV0_
 refine start_ (n := 24) (S := fun w' => w'.cell? ⟨g, 0, none⟩ = some (.bool m) ∧ w'.cell? ⟨g, 1, none⟩ = some (.pointer p) ∧ w'.cell? ⟨g, 2, none⟩ = some (.pointer pl) ∧ w'.cell? ⟨g, 3, none⟩ = some (.pointer pr) ∧ w'.cell? ⟨g, 4, none⟩ = some (.pointer pll) ∧ w'.cell? ⟨g, 5, none⟩ = some (.pointer plr) ∧ w'.cell? ⟨g, 6, none⟩ = some (.pointer prl) ∧ w'.cell? ⟨g, 7, none⟩ = some (.pointer prr) ∧ w'.cell? ⟨g, 8, none⟩ = some (.pointer pa) ∧ w'.cell? ⟨g, 9, none⟩ = some (.pointer pb) ∧ w'.cell? ⟨g, 10, none⟩ = some (.bool rt)) (ds := []) #[false, false, false, false, false, false, false, false, false, false, false, false, false, false, false, false, false, false, false, false, false, false, false, false] (by kernel_rfl) rfl rfl ⟨(cell_of HV0.out 0).trans rfl, (cell_of HV0.out 1).trans rfl, (cell_of HV0.out 2).trans rfl, (cell_of HV0.out 3).trans rfl, (cell_of HV0.out 4).trans rfl, (cell_of HV0.out 5).trans rfl, (cell_of HV0.out 6).trans rfl, (cell_of HV0.out 7).trans rfl, (cell_of HV0.out 8).trans rfl, (cell_of HV0.out 9).trans rfl, (cell_of HV0.out 10).trans rfl⟩ (fun hHeld => ?_)
 refine pu 1 218 ?_
 refine pu 3 220 ?_
 refine pu 5 222 ?_
 refine pu 8 225 ?_
 refine pu 10 227 ?_
 refine pu 13 230 ?_
 refine pu 16 233 ?_
 refine pu 20 237 ?_
 refine ta 0 217 hHeld ?_
 refine ta 2 219 hHeld ?_
 refine ta 4 221 hHeld ?_
 refine ta 6 223 hHeld ?_
 refine ta 7 224 hHeld ?_
 refine ta 9 226 hHeld ?_
 refine ta 11 228 hHeld ?_
 refine ta 14 231 hHeld ?_
 refine ta 17 234 hHeld ?_
 refine ta 21 238 hHeld ?_
 refine one_ (i := 12) (N := some 229) #[true, true, true, true, true, true, true, true, true, true, true, true, true, true, true, false, true, true, false, false, true, true, false, false] rfl rfl (by kernel_rfl) (by decide) (fun K hK => ?_)
 refine goes_ Try.func95 (by kernel_rfl) rfl #[.pointer pl] (by rfl) rfl rfl (by (try simp only [List.map_toArray, List.map_cons, List.map_nil]); first | done | rfl) ?_
 with_reducible refine (less_any _ _ _ _ _ _ (fun k hk => HSS.out k (Nat.le_trans HB0.out.size hk)) (by rw [← El.out]; exact (Hl.out.below HB0.out))).mono ?_
 rw [← El.out]
 rintro e w1_ ⟨v', rfl, h1, h2⟩
 obtain ⟨q1, rfl⟩ := h1.ptr
 have HB1 := Am (HB0.out.trans (h2.mono HB0.out.size))
 have HNq1 := Am (TopRep.rep h1 h2)
 have HV1 := Am ((h2.block _ (Array.getElem?_eq_some_iff.1 HV0.out).1).trans HV0.out)
 clear h1 h2 HB0 HV0
 refine ⟨_, rfl, ?_⟩
 refine hK.out _ _ ⟨(cell_of HV1.out 0).trans rfl, (cell_of HV1.out 1).trans rfl, (cell_of HV1.out 2).trans rfl, (cell_of HV1.out 3).trans rfl, (cell_of HV1.out 4).trans rfl, (cell_of HV1.out 5).trans rfl, (cell_of HV1.out 6).trans rfl, (cell_of HV1.out 7).trans rfl, (cell_of HV1.out 8).trans rfl, (cell_of HV1.out 9).trans rfl, (cell_of HV1.out 10).trans rfl⟩ (fun hHeld => ?_)
 clear hK K
 refine norm_ (a' := ?_) ?_ ?_
 rotate_left
 ·show Act.put _ (some 229) _ = _
  simp only [Act.put, sI, sZ, sS, i64_w, i32_w]
  rfl
 refine one_ (i := 15) (N := some 232) #[true, true, true, true, true, true, true, true, true, true, true, true, true, true, true, true, true, true, false, false, true, true, false, false] rfl rfl (by kernel_rfl) (by decide) (fun K hK => ?_)
 refine goes_ Try.func93 (by kernel_rfl) rfl #[.agg #[.bool m, .pointer p, .pointer pl, .pointer pr, .pointer pll, .pointer plr, .pointer prl, .pointer prr, .pointer pa, .pointer pb, .bool rt], .pointer p, .int .i64 1, .pointer q1, .pointer pa] (by rfl) rfl rfl (by (try simp only [List.map_toArray, List.map_cons, List.map_nil]); first | done | rfl) ?_
 with_reducible refine (put_any _ _ _ _ _ _ _ _ _ _ _ _ _ _ _ _ _ _ _ _ _ _ (fun k hk => HSS.out k (Nat.le_trans HB1.out.size hk)) (by rw [← Ex.out]; exact (Hx.out.below HB1.out)) HNq1.out (Ha.out.below HB1.out)).mono ?_
 rw [show nx.f0 = keyT X from by rw [Ex.out]; rfl]
 rintro e w2_ ⟨v', rfl, h1, h2⟩
 obtain ⟨q2, rfl⟩ := h1.ptr
 have HB2 := Am (HB1.out.trans (h2.mono HB1.out.size))
 have HNq2 := Am (TopRep.rep h1 h2)
 have HV2 := Am ((h2.block _ (Array.getElem?_eq_some_iff.1 HV1.out).1).trans HV1.out)
 have HNq1_ := Am (Rep.below HNq1.out h2)
 clear HNq1
 have HNq1 := HNq1_
 clear HNq1_
 clear h1 h2 HB1 HV1
 refine ⟨_, rfl, ?_⟩
 refine hK.out _ _ ⟨(cell_of HV2.out 0).trans rfl, (cell_of HV2.out 1).trans rfl, (cell_of HV2.out 2).trans rfl, (cell_of HV2.out 3).trans rfl, (cell_of HV2.out 4).trans rfl, (cell_of HV2.out 5).trans rfl, (cell_of HV2.out 6).trans rfl, (cell_of HV2.out 7).trans rfl, (cell_of HV2.out 8).trans rfl, (cell_of HV2.out 9).trans rfl, (cell_of HV2.out 10).trans rfl⟩ (fun hHeld => ?_)
 clear hK K
 refine norm_ (a' := ?_) ?_ ?_
 rotate_left
 ·show Act.put _ (some 232) _ = _
  simp only [Act.put, sI, sZ, sS, i64_w, i32_w]
  rfl
 refine one_ (i := 18) (N := some 235) #[true, true, true, true, true, true, true, true, true, true, true, true, true, true, true, true, true, true, true, false, true, true, false, false] rfl rfl (by kernel_rfl) (by decide) (fun K hK => ?_)
 refine goes_ Try.func94 (by kernel_rfl) rfl #[.pointer pb, .int .i64 1] (by rfl) rfl rfl (by (try simp only [List.map_toArray, List.map_cons, List.map_nil]); first | done | rfl) ?_
 with_reducible refine (as_any _ _ _ _ _ _ _ (fun k hk => HSS.out k (Nat.le_trans HB2.out.size hk)) (by rw [← Eb.out]; exact (Hb.out.below HB2.out))).mono ?_
 rw [← Eb.out]
 rintro e w3_ ⟨v', rfl, h1, h2⟩
 obtain ⟨q3, rfl⟩ := h1.ptr
 have HB3 := Am (HB2.out.trans (h2.mono HB2.out.size))
 have HNq3 := Am (TopRep.rep h1 h2)
 have HV3 := Am ((h2.block _ (Array.getElem?_eq_some_iff.1 HV2.out).1).trans HV2.out)
 have HNq1_ := Am (Rep.below HNq1.out h2)
 clear HNq1
 have HNq1 := HNq1_
 clear HNq1_
 have HNq2_ := Am (Rep.below HNq2.out h2)
 clear HNq2
 have HNq2 := HNq2_
 clear HNq2_
 clear h1 h2 HB2 HV2
 refine ⟨_, rfl, ?_⟩
 refine hK.out _ _ ⟨(cell_of HV3.out 0).trans rfl, (cell_of HV3.out 1).trans rfl, (cell_of HV3.out 2).trans rfl, (cell_of HV3.out 3).trans rfl, (cell_of HV3.out 4).trans rfl, (cell_of HV3.out 5).trans rfl, (cell_of HV3.out 6).trans rfl, (cell_of HV3.out 7).trans rfl, (cell_of HV3.out 8).trans rfl, (cell_of HV3.out 9).trans rfl, (cell_of HV3.out 10).trans rfl⟩ (fun hHeld => ?_)
 clear hK K
 refine norm_ (a' := ?_) ?_ ?_
 rotate_left
 ·show Act.put _ (some 235) _ = _
  simp only [Act.put, sI, sZ, sS, i64_w, i32_w]
  rfl
 refine one_ (i := 19) (N := some 236) #[true, true, true, true, true, true, true, true, true, true, true, true, true, true, true, true, true, true, true, true, true, true, false, false] rfl rfl (by kernel_rfl) (by decide) (fun K hK => ?_)
 refine goes_ Try.func93 (by kernel_rfl) rfl #[.agg #[.bool m, .pointer p, .pointer pl, .pointer pr, .pointer pll, .pointer plr, .pointer prl, .pointer prr, .pointer pa, .pointer pb, .bool rt], .pointer prl, .int .i64 0, .pointer q2, .pointer q3] (by rfl) rfl rfl (by (try simp only [List.map_toArray, List.map_cons, List.map_nil]); first | done | rfl) ?_
 with_reducible refine (put_any _ _ _ _ _ _ _ _ _ _ _ _ _ _ _ _ _ _ _ _ _ _ (fun k hk => HSS.out k (Nat.le_trans HB3.out.size hk)) (by rw [← Erl.out]; exact (Hrl.out.below HB3.out)) HNq2.out HNq3.out).mono ?_
 rw [show nrl.f0 = keyT RL from by rw [Erl.out]; rfl]
 rintro e w4_ ⟨v', rfl, h1, h2⟩
 obtain ⟨q4, rfl⟩ := h1.ptr
 have HB4 := Am (HB3.out.trans (h2.mono HB3.out.size))
 have HNq4 := Am (TopRep.rep h1 h2)
 have HV4 := Am ((h2.block _ (Array.getElem?_eq_some_iff.1 HV3.out).1).trans HV3.out)
 have HNq1_ := Am (Rep.below HNq1.out h2)
 clear HNq1
 have HNq1 := HNq1_
 clear HNq1_
 have HNq2_ := Am (Rep.below HNq2.out h2)
 clear HNq2
 have HNq2 := HNq2_
 clear HNq2_
 have HNq3_ := Am (Rep.below HNq3.out h2)
 clear HNq3
 have HNq3 := HNq3_
 clear HNq3_
 clear h1 h2 HB3 HV3
 refine ⟨_, rfl, ?_⟩
 refine hK.out _ _ ⟨(cell_of HV4.out 0).trans rfl, (cell_of HV4.out 1).trans rfl, (cell_of HV4.out 2).trans rfl, (cell_of HV4.out 3).trans rfl, (cell_of HV4.out 4).trans rfl, (cell_of HV4.out 5).trans rfl, (cell_of HV4.out 6).trans rfl, (cell_of HV4.out 7).trans rfl, (cell_of HV4.out 8).trans rfl, (cell_of HV4.out 9).trans rfl, (cell_of HV4.out 10).trans rfl⟩ (fun hHeld => ?_)
 clear hK K
 refine norm_ (a' := ?_) ?_ ?_
 rotate_left
 ·show Act.put _ (some 236) _ = _
  simp only [Act.put, sI, sZ, sS, i64_w, i32_w]
  rfl
 refine one_ (i := 22) (N := some 239) #[true, true, true, true, true, true, true, true, true, true, true, true, true, true, true, true, true, true, true, true, true, true, true, false] rfl rfl (by kernel_rfl) (by decide) (fun K hK => ?_)
 refine goes_ Try.func93 (by kernel_rfl) rfl #[.agg #[.bool m, .pointer p, .pointer pl, .pointer pr, .pointer pll, .pointer plr, .pointer prl, .pointer prr, .pointer pa, .pointer pb, .bool rt], .pointer pr, .int .i64 (wt X), .pointer q4, .pointer prr] (by rfl) rfl rfl (by (try simp only [List.map_toArray, List.map_cons, List.map_nil]); first | done | rfl) ?_
 with_reducible refine (put_any _ _ _ _ _ _ _ _ _ _ _ _ _ _ _ _ _ _ _ _ _ _ (fun k hk => HSS.out k (Nat.le_trans HB4.out.size hk)) (by rw [← Er.out]; exact (Hr.out.below HB4.out)) HNq4.out (Hrr.out.below HB4.out)).mono ?_
 rw [show nr.f0 = keyT R from by rw [Er.out]; rfl]
 rintro e w5_ ⟨v', rfl, h1, h2⟩
 obtain ⟨q5, rfl⟩ := h1.ptr
 have HB5 := Am (HB4.out.trans (h2.mono HB4.out.size))
 have HNq5 := Am (TopRep.rep h1 h2)
 have HTOP := Am h1
 have HTB := Am h2
 have HTW := HB4
 have HV5 := Am ((h2.block _ (Array.getElem?_eq_some_iff.1 HV4.out).1).trans HV4.out)
 have HNq1_ := Am (Rep.below HNq1.out h2)
 clear HNq1
 have HNq1 := HNq1_
 clear HNq1_
 have HNq2_ := Am (Rep.below HNq2.out h2)
 clear HNq2
 have HNq2 := HNq2_
 clear HNq2_
 have HNq3_ := Am (Rep.below HNq3.out h2)
 clear HNq3
 have HNq3 := HNq3_
 clear HNq3_
 have HNq4_ := Am (Rep.below HNq4.out h2)
 clear HNq4
 have HNq4 := HNq4_
 clear HNq4_
 clear h1 h2 HB4 HV4
 refine ⟨_, rfl, ?_⟩
 refine hK.out _ _ ⟨(cell_of HV5.out 0).trans rfl, (cell_of HV5.out 1).trans rfl, (cell_of HV5.out 2).trans rfl, (cell_of HV5.out 3).trans rfl, (cell_of HV5.out 4).trans rfl, (cell_of HV5.out 5).trans rfl, (cell_of HV5.out 6).trans rfl, (cell_of HV5.out 7).trans rfl, (cell_of HV5.out 8).trans rfl, (cell_of HV5.out 9).trans rfl, (cell_of HV5.out 10).trans rfl⟩ (fun hHeld => ?_)
 clear hK K
 refine norm_ (a' := ?_) ?_ ?_
 rotate_left
 ·show Act.put _ (some 239) _ = _
  simp only [Act.put, sI, sZ, sS, i64_w, i32_w]
  rfl
 refine pu 23 4 ?_
 refine done_ (by kernel_rfl) ?_
 try clear hHeld
 go_wp2
 go_ret
 exact HF.out _ _ _ HTW.out HTB.out HTOP.out
end Go.Proofs.Ytgleaefhflamnaa.T
namespace Go.Proofs.Ytgleaefhflamnaa.T
open Go.RowKit Go.Proofs.YtgleaefhflamnaaW.PrintWords Go.Proofs.YtgleaefhflamnaaW.PrintLast Go.Proofs.YtgleaefhflamnaaW.PrintMore
variable {S : Nat → Prop}
set_option maxHeartbeats 2000000 in
set_option maxRecDepth 100000 in
theorem can12_0 (m : Bool) (p pl pr pll plr prl prr pa pb : Option Addr) (w : World) :
  Calls Try.prog 64 #[.agg #[.bool m, .pointer p, .pointer pl, .pointer pr, .pointer pll, .pointer plr, .pointer prl, .pointer prr, .pointer pa, .pointer pb, .bool false], .int .i64 12] w fun e w' => e = .returned (.bool false) ∧ Below w.heap.size w w' := by
 have hu111 := Try.underlying111
 go_enter Try.func64, Try.ntmps64
 go_wp2
 go_ret
 exact ⟨rfl, (Below.refl _ _).alloc (Nat.le_refl _) _⟩
set_option maxHeartbeats 2000000 in
set_option maxRecDepth 100000 in
theorem can12_1 (m : Bool) (p pl pr pll plr prl prr pa pb : Option Addr) (T : Tr) (w : World) (Hx : Aside0 (Rep S w (.pointer p) T)) (b : Bool) (hb : (wt T != 1) = b) :
  Calls Try.prog 64 #[.agg #[.bool m, .pointer p, .pointer pl, .pointer pr, .pointer pll, .pointer plr, .pointer prl, .pointer prr, .pointer pa, .pointer pb, .bool true], .int .i64 12] w fun e w' => e = .returned (.bool b) ∧ Below w.heap.size w w' := by
 have hu111 := Try.underlying111
 cases b with
 | true =>
  go_enter Try.func64, Try.ntmps64
  go_wp2_with (fail)
  refine (weight_any _ _ _ (Hx.out.below ((Below.refl _ _).alloc (Nat.le_refl _) _))).mono ?_
  rintro e w' ⟨rfl, rfl⟩
  go_wp2
  go_ret
  exact ⟨rfl, (Below.refl _ _).alloc (Nat.le_refl _) _⟩
 | false =>
  go_enter Try.func64, Try.ntmps64
  go_wp2_with (fail)
  refine (weight_any _ _ _ (Hx.out.below ((Below.refl _ _).alloc (Nat.le_refl _) _))).mono ?_
  rintro e w' ⟨rfl, rfl⟩
  go_wp2
  go_ret
  exact ⟨rfl, (Below.refl _ _).alloc (Nat.le_refl _) _⟩
def canT (m rt : Bool) (T : Tr) (kind : Int) : Bool :=
 if kind = 1 then can1 m T else if kind = 2 then can2 m T else if kind = 3 then can3 m T else if kind = 4 then can4 m T else if kind = 5 then can5 m T else if kind = 6 then can6 m T else if kind = 7 then can7 m T else if kind = 8 then can8 m T else if kind = 9 then can9 m T else if kind = 10 then can10 m T else if kind = 11 then can11 m T else (rt && wt T != 1)
theorem can_any (m rt : Bool) (p pl pr pll plr prl prr pa pb : Option Addr) (T : Tr) (w : World) (Hx : Aside0 (Rep S w (.pointer p) T)) (Hl : Aside0 (Rep S w (.pointer pl) (lT m T))) (Hr : Aside0 (Rep S w (.pointer pr) (rT m T))) (Hll : Aside0 (Rep S w (.pointer pll) (lT m (lT m T)))) (Hlr : Aside0 (Rep S w (.pointer plr) (rT m (lT m T)))) (Hrl : Aside0 (Rep S w (.pointer prl) (lT m (rT m T)))) (Hrr : Aside0 (Rep S w (.pointer prr) (rT m (rT m T)))) (Ha : Aside0 (Rep S w (.pointer pa) (lT m (lT m (rT m T))))) (Hb : Aside0 (Rep S w (.pointer pb) (rT m (lT m (rT m T))))) (kind : Int) (hk : 1 ≤ kind ∧ kind ≤ 12) :
  Calls Try.prog 64 #[.agg #[.bool m, .pointer p, .pointer pl, .pointer pr, .pointer pll, .pointer plr, .pointer prl, .pointer prr, .pointer pa, .pointer pb, .bool rt], .int .i64 kind] w fun e w' => e = .returned (.bool (canT m rt T kind)) ∧ Below w.heap.size w w' := by
 have hd : kind = 1 ∨ kind = 2 ∨ kind = 3 ∨ kind = 4 ∨ kind = 5 ∨ kind = 6 ∨ kind = 7 ∨ kind = 8 ∨ kind = 9 ∨ kind = 10 ∨ kind = 11 ∨ kind = 12 := by omega
 rcases hd with rfl | rfl | rfl | rfl | rfl | rfl | rfl | rfl | rfl | rfl | rfl | rfl
 ·exact can1_any m rt p pl pr pll plr prl prr pa pb T w Hl Hll Hlr Hr Hrl Hrr Hx
 ·exact can2_any m rt p pl pr pll plr prl prr pa pb T w Hl Hll Hr Hx
 ·exact can3_any m rt p pl pr pll plr prl prr pa pb T w Hl Hll Hlr Hr Hx
 ·exact can4_any m rt p pl pr pll plr prl prr pa pb T w Hl Hr Hrl Hrr
 ·exact can5_any m rt p pl pr pll plr prl prr pa pb T w Hl Hr Hrl
 ·exact can6_any m rt p pl pr pll plr prl prr pa pb T w Ha Hb Hl Hr Hrl
 ·exact can7_any m rt p pl pr pll plr prl prr pa pb T w Ha Hb Hl Hr Hrl
 ·exact can8_any m rt p pl pr pll plr prl prr pa pb T w Hb Hl Hr Hrl
 ·exact can9_any m rt p pl pr pll plr prl prr pa pb T w Hl Hr Hrr
 ·exact can10_any m rt p pl pr pll plr prl prr pa pb T w Hl Hr Hrl Hrr
 ·exact can11_any m rt p pl pr pll plr prl prr pa pb T w Hl Hr
 ·cases rt with
  | false => exact can12_0 m p pl pr pll plr prl prr pa pb w
  | true => exact can12_1 m p pl pr pll plr prl prr pa pb T w Hx _ rfl
def do1 (m : Bool) (X : Tr) : Tr := (putT m (keyT X) (wrap64 (wt X - 1)) (asT 1 (lT m X)) (asT 1 (rT m X)))
def do2 (m : Bool) (X : Tr) : Tr := (putT m (keyT (lT m X)) (wt X) (lT m (lT m X)) (putT m (keyT X) 0 (rT m (lT m X)) (rT m X)))
def do3 (m : Bool) (X : Tr) : Tr := (putT m (keyT (rT m (lT m X))) (wt X) (putT m (keyT (lT m X)) 0 (lT m (lT m X)) (lT m (rT m (lT m X)))) (putT m (keyT X) 0 (rT m (rT m (lT m X))) (rT m X)))
def do4 (m : Bool) (X : Tr) : Tr := (putT m (keyT X) (wrap64 (wt X + 1)) (lessT (lT m X)) (asT 0 (rT m X)))
def do11 (m : Bool) (X : Tr) : Tr := (putT m (keyT X) (wrap64 (wt X + 1)) (lessT (lT m X)) (lessT (rT m X)))
def do9 (m : Bool) (X : Tr) : Tr := (putT m (keyT (rT m X)) (wt X) (putT m (keyT X) 1 (lessT (lT m X)) (lT m (rT m X))) (asT 1 (rT m (rT m X))))
def do10 (m : Bool) (X : Tr) : Tr := (putT m (keyT (lT m (rT m X))) (wt X) (putT m (keyT X) 1 (lessT (lT m X)) (lT m (lT m (rT m X)))) (putT m (keyT (rT m X)) 1 (rT m (lT m (rT m X))) (rT m (rT m X))))
def do5 (m : Bool) (X : Tr) : Tr := (putT m (keyT (rT m X)) (wt X) (putT m (keyT X) 1 (lessT (lT m X)) (lessT (lT m (rT m X)))) (rT m (rT m X)))
def do6 (m : Bool) (X : Tr) : Tr := (putT m (keyT (rT m X)) (wt X) (putT m (keyT X) 1 (lessT (lT m X)) (asT 0 (lT m (rT m X)))) (rT m (rT m X)))
def do7 (m : Bool) (X : Tr) : Tr := (putT m (keyT (rT m X)) (wt X) (putT m (keyT (lT m (lT m (rT m X)))) 0 (putT m (keyT X) 1 (lessT (lT m X)) (lT m (lT m (lT m (rT m X))))) (putT m (keyT (lT m (rT m X))) 1 (rT m (lT m (lT m (rT m X)))) (rT m (lT m (rT m X))))) (rT m (rT m X)))
def do8 (m : Bool) (X : Tr) : Tr := (putT m (keyT (rT m X)) (wt X) (putT m (keyT (lT m (rT m X))) 0 (putT m (keyT X) 1 (lessT (lT m X)) (lT m (lT m (rT m X)))) (asT 1 (rT m (lT m (rT m X))))) (rT m (rT m X)))
def do12 (X : Tr) : Tr := asT 1 X
def doT (m : Bool) (X : Tr) (kind : Int) : Tr :=
 if kind = 1 then do1 m X else if kind = 2 then do2 m X else if kind = 3 then do3 m X else if kind = 4 then do4 m X else if kind = 5 then do5 m X else if kind = 6 then do6 m X else if kind = 7 then do7 m X else if kind = 8 then do8 m X else if kind = 9 then do9 m X else if kind = 10 then do10 m X else if kind = 11 then do11 m X else do12 X
theorem node_of {T : Tr} (h : T ≠ .nil) : ∃ n q l r, T = .node n q l r := by
 cases T with
 | nil => exact absurd rfl h
 | node n q l r => exact ⟨n, q, l, r, rfl⟩
theorem wt_ne {T : Tr} (h : wt T ≠ -1) : T ≠ .nil := fun e => h (by rw [e]; rfl)
theorem do_any (m rt : Bool) (p pl pr pll plr prl prr pa pb : Option Addr) (T : Tr) (w : World) (hS : ∀ k, w.heap.size ≤ k → S k) (Hx : Aside0 (Rep S w (.pointer p) T)) (Hl : Aside0 (Rep S w (.pointer pl) (lT m T))) (Hr : Aside0 (Rep S w (.pointer pr) (rT m T))) (Hll : Aside0 (Rep S w (.pointer pll) (lT m (lT m T)))) (Hlr : Aside0 (Rep S w (.pointer plr) (rT m (lT m T)))) (Hrl : Aside0 (Rep S w (.pointer prl) (lT m (rT m T)))) (Hrr : Aside0 (Rep S w (.pointer prr) (rT m (rT m T)))) (Ha : Aside0 (Rep S w (.pointer pa) (lT m (lT m (rT m T))))) (Hb : Aside0 (Rep S w (.pointer pb) (rT m (lT m (rT m T))))) (kind : Int) (hk : 1 ≤ kind ∧ kind ≤ 12) (hT : T ≠ .nil) (hc : canT m rt T kind = true) :
  Calls Try.prog 65 #[.agg #[.bool m, .pointer p, .pointer pl, .pointer pr, .pointer pll, .pointer plr, .pointer prl, .pointer prr, .pointer pa, .pointer pb, .bool rt], .int .i64 kind] w fun e w' => DoPost S w (doT m T kind) e w' := by
 have hd : kind = 1 ∨ kind = 2 ∨ kind = 3 ∨ kind = 4 ∨ kind = 5 ∨ kind = 6 ∨ kind = 7 ∨ kind = 8 ∨ kind = 9 ∨ kind = 10 ∨ kind = 11 ∨ kind = 12 := by omega
 obtain ⟨nx, qx, lx, rx, ex⟩ := node_of hT
 rcases hd with rfl | rfl | rfl | rfl | rfl | rfl | rfl | rfl | rfl | rfl | rfl | rfl
 ·replace hc : can1 m T = true := hc
  simp only [can1, Bool.and_eq_true, beq_iff_eq, decide_eq_true_eq] at hc
  obtain ⟨nl, ql, ll, rl, el⟩ := node_of (T := (lT m T)) (wt_ne (by omega))
  obtain ⟨nr, qr, lr, rr, er⟩ := node_of (T := (rT m T)) (wt_ne (by omega))
  exact do1_any m rt p pl pr pll plr prl prr pa pb w hS ex el er Hx Hl Hr
 ·replace hc : can2 m T = true := hc
  simp only [can2, Bool.and_eq_true, beq_iff_eq, decide_eq_true_eq] at hc
  obtain ⟨nl, ql, ll, rl, el⟩ := node_of (T := (lT m T)) (wt_ne (by omega))
  exact do2_any m rt p pl pr pll plr prl prr pa pb w hS ex el Hx Hl Hr Hll Hlr
 ·replace hc : can3 m T = true := hc
  simp only [can3, Bool.and_eq_true, beq_iff_eq, decide_eq_true_eq] at hc
  obtain ⟨nl, ql, ll, rl, el⟩ := node_of (T := (lT m T)) (wt_ne (by omega))
  obtain ⟨nlr, qlr, llr, rlr, elr⟩ := node_of (T := (rT m (lT m T))) (wt_ne (by omega))
  exact do3_any m rt p pl pr pll plr prl prr pa pb w hS ex el elr Hx Hl Hr Hll Hlr
 ·replace hc : can4 m T = true := hc
  simp only [can4, Bool.and_eq_true, beq_iff_eq, decide_eq_true_eq] at hc
  obtain ⟨nl, ql, ll, rl, el⟩ := node_of (T := (lT m T)) (wt_ne (by omega))
  obtain ⟨nr, qr, lr, rr, er⟩ := node_of (T := (rT m T)) (wt_ne (by omega))
  exact do4_any m rt p pl pr pll plr prl prr pa pb w hS ex el er Hx Hl Hr
 ·replace hc : can5 m T = true := hc
  simp only [can5, Bool.and_eq_true, beq_iff_eq, decide_eq_true_eq] at hc
  obtain ⟨nl, ql, ll, rl, el⟩ := node_of (T := (lT m T)) (wt_ne (by omega))
  obtain ⟨nr, qr, lr, rr, er⟩ := node_of (T := (rT m T)) (wt_ne (by omega))
  obtain ⟨nrl, qrl, lrl, rrl, erl⟩ := node_of (T := (lT m (rT m T))) (wt_ne (by omega))
  exact do5_any m rt p pl pr pll plr prl prr pa pb w hS ex el er erl Hx Hl Hr Hrl Hrr
 ·replace hc : can6 m T = true := hc
  simp only [can6, Bool.and_eq_true, beq_iff_eq, decide_eq_true_eq] at hc
  obtain ⟨nl, ql, ll, rl, el⟩ := node_of (T := (lT m T)) (wt_ne (by omega))
  obtain ⟨nr, qr, lr, rr, er⟩ := node_of (T := (rT m T)) (wt_ne (by omega))
  obtain ⟨nrl, qrl, lrl, rrl, erl⟩ := node_of (T := (lT m (rT m T))) (wt_ne (by omega))
  exact do6_any m rt p pl pr pll plr prl prr pa pb w hS ex el er erl Hx Hl Hr Hrl Hrr
 ·replace hc : can7 m T = true := hc
  simp only [can7, Bool.and_eq_true, beq_iff_eq, decide_eq_true_eq] at hc
  obtain ⟨nl, ql, ll, rl, el⟩ := node_of (T := (lT m T)) (wt_ne (by omega))
  obtain ⟨nr, qr, lr, rr, er⟩ := node_of (T := (rT m T)) (wt_ne (by omega))
  obtain ⟨nrl, qrl, lrl, rrl, erl⟩ := node_of (T := (lT m (rT m T))) (wt_ne (by omega))
  obtain ⟨na, qa, la, ra, ea⟩ := node_of (T := (lT m (lT m (rT m T)))) (wt_ne (by omega))
  exact do7_any m rt p pl pr pll plr prl prr pa pb w hS ex el er erl ea Hx Hl Hr Hrl Hrr Ha Hb
 ·replace hc : can8 m T = true := hc
  simp only [can8, Bool.and_eq_true, beq_iff_eq, decide_eq_true_eq] at hc
  obtain ⟨nl, ql, ll, rl, el⟩ := node_of (T := (lT m T)) (wt_ne (by omega))
  obtain ⟨nr, qr, lr, rr, er⟩ := node_of (T := (rT m T)) (wt_ne (by omega))
  obtain ⟨nrl, qrl, lrl, rrl, erl⟩ := node_of (T := (lT m (rT m T))) (wt_ne (by omega))
  obtain ⟨nb, qb, lb, rb, eb⟩ := node_of (T := (rT m (lT m (rT m T)))) (wt_ne (by omega))
  exact do8_any m rt p pl pr pll plr prl prr pa pb w hS ex el er erl eb Hx Hl Hr Hrl Hrr Ha Hb
 ·replace hc : can9 m T = true := hc
  simp only [can9, Bool.and_eq_true, beq_iff_eq, decide_eq_true_eq] at hc
  obtain ⟨nl, ql, ll, rl, el⟩ := node_of (T := (lT m T)) (wt_ne (by omega))
  obtain ⟨nr, qr, lr, rr, er⟩ := node_of (T := (rT m T)) (wt_ne (by omega))
  obtain ⟨nrr, qrr, lrr, rrr, err⟩ := node_of (T := (rT m (rT m T))) (wt_ne (by omega))
  exact do9_any m rt p pl pr pll plr prl prr pa pb w hS ex el er err Hx Hl Hr Hrl Hrr
 ·replace hc : can10 m T = true := hc
  simp only [can10, Bool.and_eq_true, beq_iff_eq, decide_eq_true_eq] at hc
  obtain ⟨nl, ql, ll, rl, el⟩ := node_of (T := (lT m T)) (wt_ne (by omega))
  obtain ⟨nr, qr, lr, rr, er⟩ := node_of (T := (rT m T)) (wt_ne (by omega))
  obtain ⟨nrl, qrl, lrl, rrl, erl⟩ := node_of (T := (lT m (rT m T))) (wt_ne (by omega))
  exact do10_any m rt p pl pr pll plr prl prr pa pb w hS ex el er erl Hx Hl Hr Hrl Hrr Ha Hb
 ·replace hc : can11 m T = true := hc
  simp only [can11, Bool.and_eq_true, beq_iff_eq, decide_eq_true_eq] at hc
  obtain ⟨nl, ql, ll, rl, el⟩ := node_of (T := (lT m T)) (wt_ne (by omega))
  obtain ⟨nr, qr, lr, rr, er⟩ := node_of (T := (rT m T)) (wt_ne (by omega))
  exact do11_any m rt p pl pr pll plr prl prr pa pb w hS ex el er Hx Hl Hr
 ·exact do12_any m rt p pl pr pll plr prl prr pa pb w hS ex Hx
end Go.Proofs.Ytgleaefhflamnaa.T
namespace Go.Proofs.Ytgleaefhflamnaa.T
open Go.RowKit Go.Proofs.YtgleaefhflamnaaW.PrintWords Go.Proofs.YtgleaefhflamnaaW.PrintLast Go.Proofs.YtgleaefhflamnaaW.PrintMore
/-- The tree of a table from a place on; none: it does not end in so many levels. -/
def mkT (t : List S34) : Nat → Nat → Option Tr
 | 0, _ => none
 | k + 1, i => if i < t.length then (if 0 ≤ (t.getD i z34).f4 then (mkT t k (t.getD i z34).f4.toNat).bind fun l => (mkT t k (t.getD i z34).f5.toNat).bind fun r => some (.node (t.getD i z34) i l r) else some (.node (t.getD i z34) i .nil .nil)) else none
/-- The same with another tree in the place of one. -/
def mkR (t : List S34) (c : Nat) (R : Tr) : Nat → Nat → Option Tr
 | 0, _ => none
 | k + 1, i => if i < t.length then (if 0 ≤ (t.getD i z34).f4 then (if (t.getD i z34).f4.toNat = c then some R else mkR t c R k (t.getD i z34).f4.toNat).bind fun l => (if (t.getD i z34).f5.toNat = c then some R else mkR t c R k (t.getD i z34).f5.toNat).bind fun r => some (.node (t.getD i z34) i l r) else some (.node (t.getD i z34) i .nil .nil)) else none
theorem mkT_mono (t : List S34) : ∀ (k i : Nat) (T : Tr), mkT t k i = some T → mkT t (k + 1) i = some T := by
 intro k
 induction k with
 | zero => intro i T h; simp [mkT] at h
 | succ k ih =>
  intro i T h
  rw [mkT] at h ⊢
  split at h
  ·rename_i h1
   rw [if_pos h1]
   split at h
   ·rename_i h2
    rw [if_pos h2]
    obtain ⟨l, hl, h⟩ := Option.bind_eq_some_iff.1 h
    obtain ⟨r, hr, h⟩ := Option.bind_eq_some_iff.1 h
    rw [ih _ _ hl, Option.bind_some, ih _ _ hr, Option.bind_some]
    exact h
   ·rename_i h2
    rw [if_neg h2]
    exact h
  ·exact absurd h (by simp)
theorem mkT_le (t : List S34) {k k' i : Nat} {T : Tr} (hk : k ≤ k') (h : mkT t k i = some T) : mkT t k' i = some T := by
 induction hk with
 | refl => exact h
 | step _ ih => exact mkT_mono t _ _ _ ih
theorem mkT_fun (t : List S34) {k k' i : Nat} {T T' : Tr} (h : mkT t k i = some T) (h' : mkT t k' i = some T') : T = T' := by
 rcases Nat.le_total k k' with hk | hk
 ·have := mkT_le t hk h; rw [this] at h'; exact Option.some.inj h'
 ·have := mkT_le t hk h'; rw [this] at h; exact (Option.some.inj h).symm
def sizeN : Tr → Nat
 | .nil => 0
 | .node _ _ l r => 1 + sizeN l + sizeN r
/-- Is c a child of i? -/
def childOf (t : List S34) (i c : Nat) : Prop := 0 ≤ (t.getD i z34).f4 ∧ ((t.getD i z34).f4.toNat = c ∨ (t.getD i z34).f5.toNat = c)
/-- The blocks of the nodes that are no parent of c. -/
def SetC (B : Nat) (t : List S34) (c : Nat) (b : Nat) : Prop := ∃ j, b = B + 2 + 2 * j ∧ j < t.length ∧ ¬ childOf t j c
theorem forest_rep {wg W : World} {t : List S34} (hf : Forest wg W t t.length t.length) {c K : Nat} {X : Tr} (hX : mkT t K c = some X) :
  ∀ (k i : Nat) (T : Tr), mkT t k i = some T → sizeN T ≤ sizeN X → Rep (SetC wg.heap.size t c) W (.pointer (nb wg.heap.size i)) T := by
 intro k
 induction k with
 | zero => intro i T h; simp [mkT] at h
 | succ k ih =>
  intro i T h hs
  have h0 := h
  rw [mkT] at h
  split at h
  ·rename_i h1
   have hn := hf.nodes i h1
   simp only [if_pos h1] at hn
   split at h
   ·rename_i h2
    obtain ⟨l, hl, h⟩ := Option.bind_eq_some_iff.1 h
    obtain ⟨r, hr, h⟩ := Option.bind_eq_some_iff.1 h
    obtain rfl := Option.some.inj h
    simp only [sizeN] at hs
    refine ⟨_, _, _, rfl, hn, ?_, ?_, i, rfl, h1, ?_⟩
    ·rw [lpV, if_pos h2]; exact ih _ _ hl (by omega)
    ·rw [rpV, if_pos h2]; exact ih _ _ hr (by omega)
    ·rintro ⟨_, hc | hc⟩
     ·rw [hc] at hl; have := mkT_fun t hl hX; subst this; omega
     ·rw [hc] at hr; have := mkT_fun t hr hX; subst this; omega
   ·rename_i h2
    obtain rfl := Option.some.inj h
    refine ⟨_, _, _, rfl, hn, ?_, ?_, i, rfl, h1, fun hc => h2 hc.1⟩
    ·rw [lpV, if_neg h2]; rfl
    ·rw [rpV, if_neg h2]; rfl
  ·exact absurd h (by simp)
/-- The forest behind the loop of Do: so many nodes have been gone by; the pointer q stands in the place of c's. -/
structure Forest2 (w W : World) (t : List S34) (c : Nat) (q : Option Addr) (n2 : Nat) : Prop where
 ptrs : W.rowIs w.heap.size 92 t.length (fun j => .pointer (nb w.heap.size j))
 nodes : ∀ j, j < t.length → W.heap[w.heap.size + 2 + 2 * j]? = some (.cells (ndCells (t.getD j z34) j (.pointer (if j < n2 ∧ 0 ≤ (t.getD j z34).f4 ∧ (t.getD j z34).f4.toNat = c then q else lpV w.heap.size t j)) (.pointer (if j < n2 ∧ 0 ≤ (t.getD j z34).f4 ∧ (t.getD j z34).f5.toNat = c then q else rpV w.heap.size t j))) 116 (0, 0))
 bel : Below w.heap.size w W
theorem forest2_start {w W : World} {t : List S34} (h : Forest w W t t.length t.length) (c : Nat) (q : Option Addr) : Forest2 w W t c q 0 :=
 ⟨rowIs_congr h.ptrs (fun j hj => by simp only [if_pos hj]), fun j hj => by
  have := h.nodes j hj
  simp only [if_pos hj] at this
  rw [this, if_neg (fun h => Nat.not_lt_zero _ h.1), if_neg (fun h => Nat.not_lt_zero _ h.1)], h.bel⟩
theorem rep_repl {w W : World} {t : List S34} {c : Nat} {q : Option Addr} {R : Tr} {S : Nat → Prop} (hf : Forest2 w W t c q t.length) (hR : Rep S W (.pointer q) R) :
  ∀ (k i : Nat) (T : Tr), mkR t c R k i = some T → Rep (fun _ => True) W (.pointer (nb w.heap.size i)) T := by
 intro k
 induction k with
 | zero => intro i T h; simp [mkR] at h
 | succ k ih =>
  intro i T h
  rw [mkR] at h
  split at h
  ·rename_i h1
   have hn := hf.nodes i h1
   split at h
   ·rename_i h2
    obtain ⟨l, hl, h⟩ := Option.bind_eq_some_iff.1 h
    obtain ⟨r, hr, h⟩ := Option.bind_eq_some_iff.1 h
    obtain rfl := Option.some.inj h
    refine ⟨_, _, _, rfl, hn, ?_, ?_, trivial⟩
    ·by_cases e : (t.getD i z34).f4.toNat = c
     ·rw [if_pos e] at hl; obtain rfl := Option.some.inj hl
      rw [if_pos ⟨h1, h2, e⟩]; exact hR.mono (fun _ _ => trivial)
     ·rw [if_neg e] at hl
      rw [if_neg (fun h => e h.2.2), lpV, if_pos h2]; exact ih _ _ hl
    ·by_cases e : (t.getD i z34).f5.toNat = c
     ·rw [if_pos e] at hr; obtain rfl := Option.some.inj hr
      rw [if_pos ⟨h1, h2, e⟩]; exact hR.mono (fun _ _ => trivial)
     ·rw [if_neg e] at hr
      rw [if_neg (fun h => e h.2.2), rpV, if_pos h2]; exact ih _ _ hr
   ·rename_i h2
    obtain rfl := Option.some.inj h
    refine ⟨_, _, _, rfl, hn, ?_, ?_, trivial⟩
    ·rw [if_neg (fun h => h2 h.2.1), lpV, if_neg h2]; rfl
    ·rw [if_neg (fun h => h2 h.2.1), rpV, if_neg h2]; rfl
  ·exact absurd h (by simp)
/-- One round of the loop: nothing to do. -/
theorem forest2_skip {w W : World} {t : List S34} {c : Nat} {q : Option Addr} {i : Nat} (h : Forest2 w W t c q i) (hc : ¬ childOf t i c) : Forest2 w W t c q (i + 1) := by
 refine ⟨h.ptrs, fun j hj => ?_, h.bel⟩
 rw [h.nodes j hj]
 by_cases e : j = i
 ·subst e
  have e1 : ¬ (0 ≤ (t.getD j z34).f4 ∧ (t.getD j z34).f4.toNat = c) := fun h => hc ⟨h.1, .inl h.2⟩
  have e2 : ¬ (0 ≤ (t.getD j z34).f4 ∧ (t.getD j z34).f5.toNat = c) := fun h => hc ⟨h.1, .inr h.2⟩
  simp only [e1, e2, and_false, if_false]
 ·have e3 : j < i + 1 ↔ j < i := by omega
  simp only [e3]
theorem forest2_left {w W : World} {t : List S34} {c : Nat} {q : Option Addr} {i : Nat} (h : Forest2 w W t c q i) (h4 : 0 ≤ (t.getD i z34).f4) (hl : (t.getD i z34).f4.toNat = c) (hr : (t.getD i z34).f5.toNat ≠ c) : Forest2 w (W.setCell ⟨w.heap.size + 2 + 2 * i, 7, none⟩ (.pointer q)) t c q (i + 1) := by
 refine ⟨rowIs_blk h.ptrs (Below.heap_setCell _ _ _ _ (by show _ ≠ _; simp; omega)), fun j hj => ?_, h.bel.setCell (p := ⟨w.heap.size + 2 + 2 * i, 7, none⟩) (by simp; omega) _⟩
 have hn := h.nodes j hj
 by_cases e : j = i
 ·subst e
  rw [put_blk hn 7 _]
  simp only [Nat.lt_irrefl, false_and, if_false, if_pos (show j < j + 1 ∧ 0 ≤ (t.getD j z34).f4 ∧ (t.getD j z34).f4.toNat = c from ⟨by omega, h4, hl⟩), if_neg (show ¬ (j < j + 1 ∧ 0 ≤ (t.getD j z34).f4 ∧ (t.getD j z34).f5.toNat = c) from fun h => hr h.2.2)]
  rfl
 ·rw [Below.heap_setCell _ _ _ _ (by show _ ≠ _; simp; omega), hn]
  have e3 : j < i + 1 ↔ j < i := by omega
  simp only [e3]
theorem forest2_right {w W : World} {t : List S34} {c : Nat} {q : Option Addr} {i : Nat} (h : Forest2 w W t c q i) (h4 : 0 ≤ (t.getD i z34).f4) (hl : (t.getD i z34).f4.toNat ≠ c) (hr : (t.getD i z34).f5.toNat = c) : Forest2 w (W.setCell ⟨w.heap.size + 2 + 2 * i, 8, none⟩ (.pointer q)) t c q (i + 1) := by
 refine ⟨rowIs_blk h.ptrs (Below.heap_setCell _ _ _ _ (by show _ ≠ _; simp; omega)), fun j hj => ?_, h.bel.setCell (p := ⟨w.heap.size + 2 + 2 * i, 8, none⟩) (by simp; omega) _⟩
 have hn := h.nodes j hj
 by_cases e : j = i
 ·subst e
  rw [put_blk hn 8 _]
  simp only [Nat.lt_irrefl, false_and, if_false, if_neg (show ¬ (j < j + 1 ∧ 0 ≤ (t.getD j z34).f4 ∧ (t.getD j z34).f4.toNat = c) from fun h => hl h.2.2), if_pos (show j < j + 1 ∧ 0 ≤ (t.getD j z34).f4 ∧ (t.getD j z34).f5.toNat = c from ⟨by omega, h4, hr⟩)]
  rfl
 ·rw [Below.heap_setCell _ _ _ _ (by show _ ≠ _; simp; omega), hn]
  have e3 : j < i + 1 ↔ j < i := by omega
  simp only [e3]
theorem forest_kept {w W W' : World} {t : List S34} {n1 n2 : Nat} (h : Forest w W t n1 n2) (hb : Below W.heap.size W W') : Forest w W' t n1 n2 :=
 ⟨rowIs_blk h.ptrs (hb.block _ (rowIs_lt h.ptrs)), fun j hj => (hb.block _ (Array.getElem?_eq_some_iff.1 (h.nodes j hj)).1).trans (h.nodes j hj), h.bel.trans (hb.mono h.bel.size)⟩
/-- The same with another weight at the top. -/
def setW : Tr → Int → Tr
 | .nil, _ => .nil
 | .node n p l r, x => .node ⟨n.f0, n.f1, x, n.f3, n.f4, n.f5⟩ p l r
theorem top_set {S : Nat → Prop} {W w' : World} {v : Value} {R : Tr} (h : TopRep S W w' v R) (hb : Below W.heap.size W w') (x : Int) :
  ∃ b, v = .pointer (some ⟨b, 0, none⟩) ∧ W.heap.size ≤ b ∧ (∃ u, w'.cell? ⟨b, 2, none⟩ = some u) ∧ w'.frozen? ⟨b, 2, none⟩ = false ∧ Rep S (w'.setCell ⟨b, 2, none⟩ (.int .i64 x)) v (setW R x) := by
 obtain ⟨b, n, pl, L, R', vl, vr, rfl, rfl, hge, h1, h2, h3, h4⟩ := h
 refine ⟨b, rfl, hge, ⟨_, (cell_of h1 2).trans rfl⟩, frz_of h1 2, b, vl, vr, rfl, put_blk h1 2 _, ?_, ?_, h4⟩
 ·exact ((h2.bound.below hb).keptS (fun k hk _ => Below.heap_setCell _ _ _ _ (by show k ≠ b; have := hk.2; omega))).mono (fun k hk => hk.1)
 ·exact ((h3.bound.below hb).keptS (fun k hk _ => Below.heap_setCell _ _ _ _ (by show k ≠ b; have := hk.2; omega))).mono (fun k hk => hk.1)
end Go.Proofs.Ytgleaefhflamnaa.T
namespace Go.Proofs.Ytgleaefhflamnaa.T
open Go.RowKit Go.Proofs.YtgleaefhflamnaaW.PrintWords Go.Proofs.YtgleaefhflamnaaW.PrintLast Go.Proofs.YtgleaefhflamnaaW.PrintMore
structure OkT (t : List S34) : Prop where
 len : t.length ≤ 100000
 kids : ∀ i, i < t.length → 0 ≤ (t.getD i z34).f4 → (t.getD i z34).f4 < t.length ∧ 0 ≤ (t.getD i z34).f5 ∧ (t.getD i z34).f5 < t.length ∧ (t.getD i z34).f4 ≠ (t.getD i z34).f5
def DoOK (w : World) (xs : List S34) (e : Ending) (w' : World) : Prop := ∃ v0, e = .returned (.tuple #[v0, .int .i64 0]) ∧ Kd.R k34 34 w' w.heap.size (fun _ => True) v0 xs ∧ Below w.heap.size w w'
theorem do_ok_fin (w : World) (T : Tr) : ∀ wg wr v0 w', Below w.heap.size w wg → Below wg.heap.size wg wr → FlatPost wr T (.returned v0) w' → DoOK w (flatT T 0) (.returned (.tuple #[v0, .int .i64 0])) w' := by
 rintro wg wr v0 w' h1 h2 ⟨v1, hv, h3, h4⟩
 injection hv with hv
 subst hv
 have h5 : Below w.heap.size w wr := h1.trans (h2.mono h1.size)
 exact ⟨_, rfl, Kd.R_lower h3 h5.size, h5.trans (h4.mono h5.size)⟩
theorem setc11 {w : World} {g k : Nat} (h : k ≠ g) (v0 v1 v2 v3 v4 v5 v6 v7 v8 v9 v10 : Value) : ((((((((((((w.setCell ⟨g, 0, none⟩ v0).setCell ⟨g, 1, none⟩ v1).setCell ⟨g, 2, none⟩ v2).setCell ⟨g, 3, none⟩ v3).setCell ⟨g, 4, none⟩ v4).setCell ⟨g, 5, none⟩ v5).setCell ⟨g, 6, none⟩ v6).setCell ⟨g, 7, none⟩ v7).setCell ⟨g, 8, none⟩ v8).setCell ⟨g, 9, none⟩ v9).setCell ⟨g, 10, none⟩ v10)).heap[k]? = w.heap[k]? := by
 rw [put_blk_ne h, put_blk_ne h, put_blk_ne h, put_blk_ne h, put_blk_ne h, put_blk_ne h, put_blk_ne h, put_blk_ne h, put_blk_ne h, put_blk_ne h, put_blk_ne h]
theorem size116 : (Try.prog.info? 116).map (fun i => i.size) = some 9 := by kernel_rfl
theorem eqp_same (w : World) (a : Addr) : (binOp .eql 92 (.pointer (some a)) (.pointer (some a))).run Try.prog w = .ok (.bool true) w := by
 obtain ⟨i, hi, _⟩ := Option.map_eq_some_iff.1 size116
 exact run_eql_ptr_same w a Try.underlying92 hi
theorem eqp_other (w : World) {a b : Addr} {ca cb : Array Value} {ta tb : TypeId} (hne : a ≠ b) (ha : w.heap[a.block]? = some (.cells ca ta (0, 0))) (hb : w.heap[b.block]? = some (.cells cb tb (0, 0))) : (binOp .eql 92 (.pointer (some a)) (.pointer (some b))).run Try.prog w = .ok (.bool false) w := by
 obtain ⟨i, hi, hs⟩ := Option.map_eq_some_iff.1 size116
 exact run_eql_ptr_other w Try.underlying92 hi (by rw [hs]; decide) hne ha hb
theorem mkT_nil {t : List S34} {k i : Nat} (h : mkT t k i = some .nil) : False := by
 cases k with
 | zero => simp [mkT] at h
 | succ k =>
  rw [mkT] at h
  split at h
  ·split at h
   ·obtain ⟨l, hl, h⟩ := Option.bind_eq_some_iff.1 h
    obtain ⟨r, hr, h⟩ := Option.bind_eq_some_iff.1 h
    injection h with h
    injection h
   ·injection h with h
    injection h
  ·exact absurd h (by simp)
end Go.Proofs.Ytgleaefhflamnaa.T
namespace Go.Proofs.Ytgleaefhflamnaa.T
open Go.RowKit Go.Proofs.YtgleaefhflamnaaW.PrintWords Go.Proofs.YtgleaefhflamnaaW.PrintLast Go.Proofs.YtgleaefhflamnaaW.PrintMore
set_option maxHeartbeats 8000000 in
set_option maxRecDepth 100000 in
theorem do_nocan (k : Nat) (A0 : Option Addr) (c0 : Nat) (l0 : List S34) (c : Nat) (kind : Int) (mir : Bool) (r1 : Int) (r2 : List Bool) (w : World) (hr0 : Kd.C k34 w A0 l0.length l0) (hc0 : l0.length ≤ c0)
  (h : steps_keys.f k l0 = some (r1, r2, 0)) (hm : steps_Move_is.f kind mir = some true) (hkd : 1 ≤ kind ∧ kind ≤ 12) (hp1 : (c : Int) < l0.length) (hp2 : (c : Int) < r2.length) (hbel : rdOf false r2 c = true) (ht : OkT l0) (K : Nat) (X : Tr) (hX : mkT l0 K c = some X) (rt : Bool) (hrt : ((c : Int) == r1) = rt) (hcan : canT mir rt X kind = false) :
  Calls Try.prog 30 #[.slice A0 l0.length c0, .int .i64 c, .agg #[.int .i64 kind, .bool mir]] w fun e w' => e = .returned (.tuple #[.slice none 0 0, .int .i64 6]) ∧ Below w.heap.size w w' := by
 have HCAN := Am hcan
 clear hcan
 have hu62 := Try.underlying62
 have hu111 := Try.underlying111
 have hu116 := Try.underlying116
 have hu34 := Try.underlying34
 have HR := Am hr0
 have HC := Am hc0
 have H := Am h
 have HM := Am hm
 have HT := Am ht
 have HX := Am hX
 have HKD := Am hkd
 have HBEL := Am hbel
 have hlen : l0.length ≤ 100000 := ht.len
 have hcl : c < l0.length := by omega
 clear hr0 hc0 h hm ht hX hkd hbel
 go_enter Try.func30, Try.ntmps30
 go_wp2_with (fail)
 refine (at_okt k A0 c0 l0 c kind mir r1 r2 _ (Kd.C_below HR.out ((Below.refl _ _).alloc (Nat.le_refl _) _)) HC.out H.out (fun _ => HM.out) (by omega) hp1 hp2 HBEL.out (by omega) (fun i hi h4 => ⟨(HT.out.kids i hi h4).1, (HT.out.kids i hi h4).2.1, (HT.out.kids i hi h4).2.2.1⟩)).mono ?_
 rintro e w2 ⟨wg, rfl, hbg, hfo⟩
 have hbw : Below w.heap.size w wg := ((Below.refl _ _).alloc (Nat.le_refl _) _).trans (hbg.mono (by simp))
 have hg0 : w.heap.size < wg.heap.size := by have h_ := hbg.size; simp at h_; omega
 have hbx0 : wg.cell? ⟨w.heap.size, 0, none⟩ = some (.int .i64 kind) := (hbg.cell (p := ⟨w.heap.size, 0, none⟩) (by simp)).trans (World.cell?_alloc_at _ _ _ _ rfl)
 have hbx1 : wg.cell? ⟨w.heap.size, 1, none⟩ = some (.bool mir) := (hbg.cell (p := ⟨w.heap.size, 1, none⟩) (by simp)).trans (World.cell?_alloc_at _ _ _ _ rfl)
 have HBW := Am hbw
 have HFO := Am hfo
 have HX0 := Am hbx0
 have HX1 := Am hbx1
 have HRX : Aside0 (Rep (fun k_ => SetC wg.heap.size l0 c k_ ∧ k_ < w2.heap.size) w2 (.pointer (some ⟨wg.heap.size + 2 + 2 * c, 0, none⟩)) X) := ⟨(forest_rep hfo HX.out K c X HX.out (Nat.le_refl _)).bound⟩
 have hg2 : wg.heap.size < w2.heap.size := rowIs_lt hfo.ptrs
 have hpc : w2.drew.cell? ⟨wg.heap.size, c, none⟩ = some (.pointer (some ⟨wg.heap.size + 2 + 2 * c, 0, none⟩)) := (rowIs_cell hfo.ptrs c hcl).trans (by rw [if_pos hcl]; rfl)
 have hb0 : w2.drew.cell? ⟨w.heap.size, 0, none⟩ = some (.int .i64 kind) := (hfo.bel.cell (p := ⟨w.heap.size, 0, none⟩) hg0).trans hbx0
 have hb1 : w2.drew.cell? ⟨w.heap.size, 1, none⟩ = some (.bool mir) := (hfo.bel.cell (p := ⟨w.heap.size, 1, none⟩) hg0).trans hbx1
 clear hbg hbw hfo hbx0 hbx1
 go_wp2
 have HPC := Am hpc
 have HB0 := Am hb0
 have HB1 := Am hb1
 refine start_ (n := 11) (S := fun w' => w'.cell? ⟨wg.heap.size, c, none⟩ = some (.pointer (some ⟨wg.heap.size + 2 + 2 * c, 0, none⟩)) ∧ w'.cell? ⟨w.heap.size, 0, none⟩ = some (.int .i64 kind) ∧ w'.cell? ⟨w.heap.size, 1, none⟩ = some (.bool mir)) (ds := [10]) #[false, false, false, false, false, false, false, false, false, false, false] (by kernel_rfl) rfl rfl ⟨hpc, hb0, hb1⟩ (fun hHeld => ?_)
 refine pu 0 26 ?_
 refine pu 1 27 ?_
 refine pu 2 28 ?_
 refine pu 5 31 ?_
 refine pu 6 32 ?_
 refine pu 7 33 ?_
 refine ta 3 29 hHeld ?_
 refine ta 4 30 hHeld ?_
 refine join_ (σ := Nat × Option Addr × Option Addr × Option Addr × Option Addr × Option Addr × Option Addr × Option Addr × Option Addr) 1 #[true, true, true, true, true, true, true, true, true, true, false] (fun s => [(34, .agg #[.bool mir, .pointer (some ⟨wg.heap.size + 2 + 2 * c, 0, none⟩), .pointer s.2.1, .pointer s.2.2.1, .pointer s.2.2.2.1, .pointer s.2.2.2.2.1, .pointer s.2.2.2.2.2.1, .pointer s.2.2.2.2.2.2.1, .pointer s.2.2.2.2.2.2.2.1, .pointer s.2.2.2.2.2.2.2.2, .bool rt]), (11, .pointer (some ⟨s.1, 0, none⟩))]) (fun s w' => Below w2.heap.size w2 w' ∧ w2.heap.size ≤ s.1 ∧ w'.heap[s.1]? = some (.cells #[.bool false, .pointer none, .pointer none, .pointer none, .pointer none, .pointer none, .pointer none, .pointer none, .pointer none, .pointer none, .bool false] 111 (0, 0)) ∧ Rep (fun k_ => SetC wg.heap.size l0 c k_ ∧ k_ < w2.heap.size) w' (.pointer s.2.1) (lT mir X) ∧ Rep (fun k_ => SetC wg.heap.size l0 c k_ ∧ k_ < w2.heap.size) w' (.pointer s.2.2.1) (rT mir X) ∧ Rep (fun k_ => SetC wg.heap.size l0 c k_ ∧ k_ < w2.heap.size) w' (.pointer s.2.2.2.1) (lT mir (lT mir X)) ∧ Rep (fun k_ => SetC wg.heap.size l0 c k_ ∧ k_ < w2.heap.size) w' (.pointer s.2.2.2.2.1) (rT mir (lT mir X)) ∧ Rep (fun k_ => SetC wg.heap.size l0 c k_ ∧ k_ < w2.heap.size) w' (.pointer s.2.2.2.2.2.1) (lT mir (rT mir X)) ∧ Rep (fun k_ => SetC wg.heap.size l0 c k_ ∧ k_ < w2.heap.size) w' (.pointer s.2.2.2.2.2.2.1) (rT mir (rT mir X)) ∧ Rep (fun k_ => SetC wg.heap.size l0 c k_ ∧ k_ < w2.heap.size) w' (.pointer s.2.2.2.2.2.2.2.1) (lT mir (lT mir (rT mir X))) ∧ Rep (fun k_ => SetC wg.heap.size l0 c k_ ∧ k_ < w2.heap.size) w' (.pointer s.2.2.2.2.2.2.2.2) (rT mir (lT mir (rT mir X)))) ?_ ?_
 rotate_left
 ·intro hCont
  refine two_ (i := 8) (j := 9) (Ni := some 34) (Nj := some 11) #[true, true, true, true, true, true, true, true, true, false, false] #[true, true, true, true, true, true, true, true, false, true, false] rfl rfl rfl rfl (by kernel_rfl) (by decide) (by decide) (fun K hK => ?_) (fun K hK => ?_)
  ·skip
   refine goes_ Try.func63 (by kernel_rfl) rfl #[.pointer (some ⟨wg.heap.size + 2 + 2 * c, 0, none⟩), .agg #[.int .i64 kind, .bool mir], .bool rt] (by rfl) rfl rfl (by (try simp only [List.map_toArray, List.map_cons, List.map_nil]); first | done | rfl) ?_
   with_reducible refine (look_any (S := (fun k_ => SetC wg.heap.size l0 c k_ ∧ k_ < w2.heap.size)) _ X _ _ _ _ (by first | exact HRX.out.below ((Below.refl _ _).drew) | exact HRX.out.below HBA.out)).mono ?_
   rintro e wL ⟨pl, pr, pll, plr, prl, prr, pa, pb, rfl, hLb, r1, r2, r3, r4, r5, r6, r7, r8⟩
   refine ⟨_, rfl, ?_⟩
   refine hK.out _ _ ⟨(hLb.cell (blt _ _ hHeld.1)).trans hHeld.1, (hLb.cell (blt _ _ hHeld.2.1)).trans hHeld.2.1, (hLb.cell (blt _ _ hHeld.2.2)).trans hHeld.2.2⟩ (fun hHeld => ?_)
   clear hK K
   refine norm_ (a' := ?_) ?_ ?_
   rotate_left
   ·show Act.put _ (some 34) _ = _
    simp only [Act.put, sI, sZ, sS, i64_w, i32_w]
    rfl
   refine one_ (i := 9) (N := some 11) #[true, true, true, true, true, true, true, true, true, true, false] rfl rfl (by kernel_rfl) (by decide) (fun K hK => ?_)
   refine box_step (by rfl) (N := 11) rfl (cs := #[.bool false, .pointer none, .pointer none, .pointer none, .pointer none, .pointer none, .pointer none, .pointer none, .pointer none, .pointer none, .bool false]) (t := 111) ?hr ?_
   case hr => first | (go_simp; done) | (go_simp; rfl)
   intro g hg wA hbox hbA
   have hgs : w2.heap.size ≤ g := by rw [hg]; exact hLb.size
   refine hK.out _ _ ⟨(hbA.cell (blt _ _ hHeld.1)).trans hHeld.1, (hbA.cell (blt _ _ hHeld.2.1)).trans hHeld.2.1, (hbA.cell (blt _ _ hHeld.2.2)).trans hHeld.2.2⟩ (fun hHeld => ?_)
   clear hK K
   refine norm_ (a' := ?_) ?_ ?_
   rotate_left
   ·show Act.put _ (some 11) _ = _
    simp only [Act.put, sI, sZ, sS, i64_w, i32_w]
    rfl
   exact norm_ (by simp only [putAll, Act.put, sI, sZ, sS]) (hCont (g, pl, pr, pll, plr, prl, prr, pa, pb) _ ⟨((Below.refl w2.heap.size w2).drew.trans (hLb.mono (Nat.le_refl _))).trans (hbA.mono hLb.size), hgs, hbox, (r1.below hLb).below hbA, (r2.below hLb).below hbA, (r3.below hLb).below hbA, (r4.below hLb).below hbA, (r5.below hLb).below hbA, (r6.below hLb).below hbA, (r7.below hLb).below hbA, (r8.below hLb).below hbA⟩)
  ·skip
   refine box_step (by rfl) (N := 11) rfl (cs := #[.bool false, .pointer none, .pointer none, .pointer none, .pointer none, .pointer none, .pointer none, .pointer none, .pointer none, .pointer none, .bool false]) (t := 111) ?hr ?_
   case hr => first | (go_simp; done) | (go_simp; rfl)
   intro g hg wA hbox hbA
   have HBA := Am (((Below.refl w2.heap.size w2).drew).trans (hbA.mono (Nat.le_refl _)))
   have hgs : w2.heap.size ≤ g := by rw [hg]; exact Nat.le_refl _
   refine hK.out _ _ ⟨(hbA.cell (blt _ _ hHeld.1)).trans hHeld.1, (hbA.cell (blt _ _ hHeld.2.1)).trans hHeld.2.1, (hbA.cell (blt _ _ hHeld.2.2)).trans hHeld.2.2⟩ (fun hHeld => ?_)
   clear hK K
   refine norm_ (a' := ?_) ?_ ?_
   rotate_left
   ·show Act.put _ (some 11) _ = _
    simp only [Act.put, sI, sZ, sS, i64_w, i32_w]
    rfl
   refine one_ (i := 8) (N := some 34) #[true, true, true, true, true, true, true, true, true, true, false] rfl rfl (by kernel_rfl) (by decide) (fun K hK => ?_)
   refine goes_ Try.func63 (by kernel_rfl) rfl #[.pointer (some ⟨wg.heap.size + 2 + 2 * c, 0, none⟩), .agg #[.int .i64 kind, .bool mir], .bool rt] (by rfl) rfl rfl (by (try simp only [List.map_toArray, List.map_cons, List.map_nil]); first | done | rfl) ?_
   with_reducible refine (look_any (S := (fun k_ => SetC wg.heap.size l0 c k_ ∧ k_ < w2.heap.size)) _ X _ _ _ _ (by first | exact HRX.out.below ((Below.refl _ _).drew) | exact HRX.out.below HBA.out)).mono ?_
   rintro e wL ⟨pl, pr, pll, plr, prl, prr, pa, pb, rfl, hLb, r1, r2, r3, r4, r5, r6, r7, r8⟩
   refine ⟨_, rfl, ?_⟩
   refine hK.out _ _ ⟨(hLb.cell (blt _ _ hHeld.1)).trans hHeld.1, (hLb.cell (blt _ _ hHeld.2.1)).trans hHeld.2.1, (hLb.cell (blt _ _ hHeld.2.2)).trans hHeld.2.2⟩ (fun hHeld => ?_)
   clear hK K
   refine norm_ (a' := ?_) ?_ ?_
   rotate_left
   ·show Act.put _ (some 34) _ = _
    simp only [Act.put, sI, sZ, sS, i64_w, i32_w]
    rfl
   exact norm_ (by simp only [putAll, Act.put, sI, sZ, sS]) (hCont (g, pl, pr, pll, plr, prl, prr, pa, pb) _ ⟨HBA.out.trans (hLb.mono hbA.size), hgs, (hLb.block _ (Array.getElem?_eq_some_iff.1 hbox).1).trans hbox, r1.below hLb, r2.below hLb, r3.below hLb, r4.below hLb, r5.below hLb, r6.below hLb, r7.below hLb, r8.below hLb⟩)
 rintro ⟨g, pl, pr, pll, plr, prl, prr, pa, pb⟩ w3 ⟨hF1, hF2, hF3, y1, y2, y3, y4, y5, y6, y7, y8⟩
 replace hF2 : w2.heap.size ≤ g := hF2
 replace hF3 : w3.heap[g]? = some (.cells #[.bool false, .pointer none, .pointer none, .pointer none, .pointer none, .pointer none, .pointer none, .pointer none, .pointer none, .pointer none, .bool false] 111 (0, 0)) := hF3
 have HY1 : Aside0 (Rep (fun k_ => SetC wg.heap.size l0 c k_ ∧ k_ < w2.heap.size) w3 (.pointer pl) (lT mir X)) := ⟨y1⟩
 have HY2 : Aside0 (Rep (fun k_ => SetC wg.heap.size l0 c k_ ∧ k_ < w2.heap.size) w3 (.pointer pr) (rT mir X)) := ⟨y2⟩
 have HY3 : Aside0 (Rep (fun k_ => SetC wg.heap.size l0 c k_ ∧ k_ < w2.heap.size) w3 (.pointer pll) (lT mir (lT mir X))) := ⟨y3⟩
 have HY4 : Aside0 (Rep (fun k_ => SetC wg.heap.size l0 c k_ ∧ k_ < w2.heap.size) w3 (.pointer plr) (rT mir (lT mir X))) := ⟨y4⟩
 have HY5 : Aside0 (Rep (fun k_ => SetC wg.heap.size l0 c k_ ∧ k_ < w2.heap.size) w3 (.pointer prl) (lT mir (rT mir X))) := ⟨y5⟩
 have HY6 : Aside0 (Rep (fun k_ => SetC wg.heap.size l0 c k_ ∧ k_ < w2.heap.size) w3 (.pointer prr) (rT mir (rT mir X))) := ⟨y6⟩
 have HY7 : Aside0 (Rep (fun k_ => SetC wg.heap.size l0 c k_ ∧ k_ < w2.heap.size) w3 (.pointer pa) (lT mir (lT mir (rT mir X)))) := ⟨y7⟩
 have HY8 : Aside0 (Rep (fun k_ => SetC wg.heap.size l0 c k_ ∧ k_ < w2.heap.size) w3 (.pointer pb) (rT mir (lT mir (rT mir X)))) := ⟨y8⟩
 have hHeld : w3.cell? ⟨wg.heap.size, c, none⟩ = some (.pointer (some ⟨wg.heap.size + 2 + 2 * c, 0, none⟩)) ∧ w3.cell? ⟨w.heap.size, 0, none⟩ = some (.int .i64 kind) ∧ w3.cell? ⟨w.heap.size, 1, none⟩ = some (.bool mir) := ⟨(hF1.cell (p := ⟨wg.heap.size, c, none⟩) hg2).trans HPC.out, (hF1.cell (p := ⟨w.heap.size, 0, none⟩) (Nat.lt_trans hg0 hg2)).trans HB0.out, (hF1.cell (p := ⟨w.heap.size, 1, none⟩) (Nat.lt_trans hg0 hg2)).trans HB1.out⟩
 have hz0 : w3.cell? ⟨g, 0, none⟩ = some (.bool false) := (cell_of hF3 0).trans rfl
 have hz1 : w3.cell? ⟨g, 1, none⟩ = some (.pointer none) := (cell_of hF3 1).trans rfl
 have hz2 : w3.cell? ⟨g, 2, none⟩ = some (.pointer none) := (cell_of hF3 2).trans rfl
 have hz3 : w3.cell? ⟨g, 3, none⟩ = some (.pointer none) := (cell_of hF3 3).trans rfl
 have hz4 : w3.cell? ⟨g, 4, none⟩ = some (.pointer none) := (cell_of hF3 4).trans rfl
 have hz5 : w3.cell? ⟨g, 5, none⟩ = some (.pointer none) := (cell_of hF3 5).trans rfl
 have hz6 : w3.cell? ⟨g, 6, none⟩ = some (.pointer none) := (cell_of hF3 6).trans rfl
 have hz7 : w3.cell? ⟨g, 7, none⟩ = some (.pointer none) := (cell_of hF3 7).trans rfl
 have hz8 : w3.cell? ⟨g, 8, none⟩ = some (.pointer none) := (cell_of hF3 8).trans rfl
 have hz9 : w3.cell? ⟨g, 9, none⟩ = some (.pointer none) := (cell_of hF3 9).trans rfl
 have hz10 : w3.cell? ⟨g, 10, none⟩ = some (.bool false) := (cell_of hF3 10).trans rfl
 have hfz0 := frz_of hF3 0
 have hfz1 := frz_of hF3 1
 have hfz2 := frz_of hF3 2
 have hfz3 := frz_of hF3 3
 have hfz4 := frz_of hF3 4
 have hfz5 := frz_of hF3 5
 have hfz6 := frz_of hF3 6
 have hfz7 := frz_of hF3 7
 have hfz8 := frz_of hF3 8
 have hfz9 := frz_of hF3 9
 have hfz10 := frz_of hF3 10
 have HF1 := Am hF1
 have HF3 := Am hF3
 clear hF1 hF3 y1 y2 y3 y4 y5 y6 y7 y8
 refine norm_ (a' := ?_) ?_ ?_
 rotate_left
 ·simp only [putAll, Act.put, sI, sZ, sS]
  rfl
 refine last_ (i := 10) (N := none) #[true, true, true, true, true, true, true, true, true, true, true] rfl rfl (by kernel_rfl) (by decide) (fun K hK => ?_)
 refine skip_ (w1 := ?_) (by rfl) rfl ?_ ?_
 rotate_left
 ·go_simp
  rfl
 refine hK.out _ _ ?_
 clear hK K
 refine done_ (by kernel_rfl) ?_
 try clear hHeld
 have hV := put11 HF3.out (.bool mir) (.pointer (some ⟨wg.heap.size + 2 + 2 * c, 0, none⟩)) (.pointer pl) (.pointer pr) (.pointer pll) (.pointer plr) (.pointer prl) (.pointer prr) (.pointer pa) (.pointer pb) (.bool rt)
 have hB := below11 HF1.out hF2 (.bool mir) (.pointer (some ⟨wg.heap.size + 2 + 2 * c, 0, none⟩)) (.pointer pl) (.pointer pr) (.pointer pll) (.pointer plr) (.pointer prl) (.pointer prr) (.pointer pa) (.pointer pb) (.bool rt)
 have hK : ∀ k_, k_ < w2.heap.size → (((((((((((w3.setCell ⟨g, 0, none⟩ (.bool mir)).setCell ⟨g, 1, none⟩ (.pointer (some ⟨wg.heap.size + 2 + 2 * c, 0, none⟩))).setCell ⟨g, 2, none⟩ (.pointer pl)).setCell ⟨g, 3, none⟩ (.pointer pr)).setCell ⟨g, 4, none⟩ (.pointer pll)).setCell ⟨g, 5, none⟩ (.pointer plr)).setCell ⟨g, 6, none⟩ (.pointer prl)).setCell ⟨g, 7, none⟩ (.pointer prr)).setCell ⟨g, 8, none⟩ (.pointer pa)).setCell ⟨g, 9, none⟩ (.pointer pb)).setCell ⟨g, 10, none⟩ (.bool rt)).heap[k_]? = w3.heap[k_]? := fun k_ hk_ => setc11 (by omega) (.bool mir) (.pointer (some ⟨wg.heap.size + 2 + 2 * c, 0, none⟩)) (.pointer pl) (.pointer pr) (.pointer pll) (.pointer plr) (.pointer prl) (.pointer prr) (.pointer pa) (.pointer pb) (.bool rt)
 clear hz0 hfz0 hz1 hfz1 hz2 hfz2 hz3 hfz3 hz4 hfz4 hz5 hfz5 hz6 hfz6 hz7 hfz7 hz8 hfz8 hz9 hfz9 hz10 hfz10 HF3 HF1
 generalize (((((((((((w3.setCell ⟨g, 0, none⟩ (.bool mir)).setCell ⟨g, 1, none⟩ (.pointer (some ⟨wg.heap.size + 2 + 2 * c, 0, none⟩))).setCell ⟨g, 2, none⟩ (.pointer pl)).setCell ⟨g, 3, none⟩ (.pointer pr)).setCell ⟨g, 4, none⟩ (.pointer pll)).setCell ⟨g, 5, none⟩ (.pointer plr)).setCell ⟨g, 6, none⟩ (.pointer prl)).setCell ⟨g, 7, none⟩ (.pointer prr)).setCell ⟨g, 8, none⟩ (.pointer pa)).setCell ⟨g, 9, none⟩ (.pointer pb)).setCell ⟨g, 10, none⟩ (.bool rt)) = w4 at hV hB hK ⊢
 have HRpl := Am (HY1.out.keptS (w' := w4) (fun k_ hk_ _ => hK k_ hk_.2))
 have HRpr := Am (HY2.out.keptS (w' := w4) (fun k_ hk_ _ => hK k_ hk_.2))
 have HRpll := Am (HY3.out.keptS (w' := w4) (fun k_ hk_ _ => hK k_ hk_.2))
 have HRplr := Am (HY4.out.keptS (w' := w4) (fun k_ hk_ _ => hK k_ hk_.2))
 have HRprl := Am (HY5.out.keptS (w' := w4) (fun k_ hk_ _ => hK k_ hk_.2))
 have HRprr := Am (HY6.out.keptS (w' := w4) (fun k_ hk_ _ => hK k_ hk_.2))
 have HRpa := Am (HY7.out.keptS (w' := w4) (fun k_ hk_ _ => hK k_ hk_.2))
 have HRpb := Am (HY8.out.keptS (w' := w4) (fun k_ hk_ _ => hK k_ hk_.2))
 have HRp := Am (HRX.out.below hB)
 have HV := Am hV
 have HB := Am hB
 clear HY1 HY2 HY3 HY4 HY5 HY6 HY7 HY8 hK
 have hk0 : w4.cell? ⟨w.heap.size, 0, none⟩ = some (.int .i64 kind) := (hB.cell (p := ⟨w.heap.size, 0, none⟩) (Nat.lt_trans hg0 hg2)).trans HB0.out
 have HK0 := Am hk0
 have hv0 : w4.cell? ⟨g, 0, none⟩ = some (.bool mir) := (cell_of hV 0).trans rfl
 have hv1 : w4.cell? ⟨g, 1, none⟩ = some (.pointer (some ⟨wg.heap.size + 2 + 2 * c, 0, none⟩)) := (cell_of hV 1).trans rfl
 have hv2 : w4.cell? ⟨g, 2, none⟩ = some (.pointer pl) := (cell_of hV 2).trans rfl
 have hv3 : w4.cell? ⟨g, 3, none⟩ = some (.pointer pr) := (cell_of hV 3).trans rfl
 have hv4 : w4.cell? ⟨g, 4, none⟩ = some (.pointer pll) := (cell_of hV 4).trans rfl
 have hv5 : w4.cell? ⟨g, 5, none⟩ = some (.pointer plr) := (cell_of hV 5).trans rfl
 have hv6 : w4.cell? ⟨g, 6, none⟩ = some (.pointer prl) := (cell_of hV 6).trans rfl
 have hv7 : w4.cell? ⟨g, 7, none⟩ = some (.pointer prr) := (cell_of hV 7).trans rfl
 have hv8 : w4.cell? ⟨g, 8, none⟩ = some (.pointer pa) := (cell_of hV 8).trans rfl
 have hv9 : w4.cell? ⟨g, 9, none⟩ = some (.pointer pb) := (cell_of hV 9).trans rfl
 have hv10 : w4.cell? ⟨g, 10, none⟩ = some (.bool rt) := (cell_of hV 10).trans rfl
 clear hV hB HPC HB0 HB1
 go_wp2_with (fail)
 refine (can_any mir rt (some ⟨wg.heap.size + 2 + 2 * c, 0, none⟩) pl pr pll plr prl prr pa pb X _ HRp HRpl HRpr HRpll HRplr HRprl HRprr HRpa HRpb kind HKD.out).mono ?_
 rw [HCAN.out]
 rintro e w5 ⟨rfl, h5⟩
 have HB5 := Am (HB.out.trans (h5.mono HB.out.size))
 have H5 := Am h5
 have HV5 := Am ((h5.block _ (Array.getElem?_eq_some_iff.1 HV.out).1).trans HV.out)
 have hk5 := (h5.cell (blt _ _ HK0.out)).trans HK0.out
 clear h5 hv0 hv1 hv2 hv3 hv4 hv5 hv6 hv7 hv8 hv9 hv10 hk0 HV
 have hw0 : w5.cell? ⟨g, 0, none⟩ = some (.bool mir) := (cell_of HV5.out 0).trans rfl
 have hw1 : w5.cell? ⟨g, 1, none⟩ = some (.pointer (some ⟨wg.heap.size + 2 + 2 * c, 0, none⟩)) := (cell_of HV5.out 1).trans rfl
 have hw2 : w5.cell? ⟨g, 2, none⟩ = some (.pointer pl) := (cell_of HV5.out 2).trans rfl
 have hw3 : w5.cell? ⟨g, 3, none⟩ = some (.pointer pr) := (cell_of HV5.out 3).trans rfl
 have hw4 : w5.cell? ⟨g, 4, none⟩ = some (.pointer pll) := (cell_of HV5.out 4).trans rfl
 have hw5 : w5.cell? ⟨g, 5, none⟩ = some (.pointer plr) := (cell_of HV5.out 5).trans rfl
 have hw6 : w5.cell? ⟨g, 6, none⟩ = some (.pointer prl) := (cell_of HV5.out 6).trans rfl
 have hw7 : w5.cell? ⟨g, 7, none⟩ = some (.pointer prr) := (cell_of HV5.out 7).trans rfl
 have hw8 : w5.cell? ⟨g, 8, none⟩ = some (.pointer pa) := (cell_of HV5.out 8).trans rfl
 have hw9 : w5.cell? ⟨g, 9, none⟩ = some (.pointer pb) := (cell_of HV5.out 9).trans rfl
 have hw10 : w5.cell? ⟨g, 10, none⟩ = some (.bool rt) := (cell_of HV5.out 10).trans rfl
 go_wp2
 go_ret2
 exact ⟨rfl, HBW.out.trans ((HFO.out.bel.trans (HB5.out.mono HFO.out.bel.size)).mono HBW.out.size)⟩
end Go.Proofs.Ytgleaefhflamnaa.T
namespace Go.Proofs.Ytgleaefhflamnaa.T
open Go.RowKit Go.Proofs.YtgleaefhflamnaaW.PrintWords Go.Proofs.YtgleaefhflamnaaW.PrintLast Go.Proofs.YtgleaefhflamnaaW.PrintMore
set_option maxHeartbeats 8000000 in
set_option maxRecDepth 100000 in
theorem do_big (k : Nat) (A0 : Option Addr) (c0 : Nat) (l0 : List S34) (c : Nat) (kind : Int) (mir : Bool) (r1 : Int) (r2 : List Bool) (w : World) (hr0 : Kd.C k34 w A0 l0.length l0) (hc0 : l0.length ≤ c0)
  (h : steps_keys.f k l0 = some (r1, r2, 0)) (hm : steps_Move_is.f kind mir = some true) (hkd : 1 ≤ kind ∧ kind ≤ 12) (hp1 : (c : Int) < l0.length) (hp2 : (c : Int) < r2.length) (hbel : rdOf false r2 c = true) (ht : OkT l0) (K : Nat) (X : Tr) (hX : mkT l0 K c = some X) (rt : Bool) (hrt : ((c : Int) == r1) = rt) (hrf : rt = false) (hcan : canT mir rt X kind = true) (hbig : 1000000 < wt (doT mir X kind)) :
  Calls Try.prog 30 #[.slice A0 l0.length c0, .int .i64 c, .agg #[.int .i64 kind, .bool mir]] w fun e w' => e = .returned (.tuple #[.slice none 0 0, .int .i64 2]) ∧ Below w.heap.size w w' := by
 have HCAN := Am hcan
 clear hcan
 have hxn : X ≠ .nil := by rintro rfl; exact mkT_nil hX
 have HXN := Am hxn
 clear hxn
 have HRF := Am hrf
 clear hrf
 have hu62 := Try.underlying62
 have hu111 := Try.underlying111
 have hu116 := Try.underlying116
 have hu34 := Try.underlying34
 have HR := Am hr0
 have HC := Am hc0
 have H := Am h
 have HM := Am hm
 have HT := Am ht
 have HX := Am hX
 have HKD := Am hkd
 have HBEL := Am hbel
 have hlen : l0.length ≤ 100000 := ht.len
 have hcl : c < l0.length := by omega
 clear hr0 hc0 h hm ht hX hkd hbel
 go_enter Try.func30, Try.ntmps30
 go_wp2_with (fail)
 refine (at_okt k A0 c0 l0 c kind mir r1 r2 _ (Kd.C_below HR.out ((Below.refl _ _).alloc (Nat.le_refl _) _)) HC.out H.out (fun _ => HM.out) (by omega) hp1 hp2 HBEL.out (by omega) (fun i hi h4 => ⟨(HT.out.kids i hi h4).1, (HT.out.kids i hi h4).2.1, (HT.out.kids i hi h4).2.2.1⟩)).mono ?_
 rintro e w2 ⟨wg, rfl, hbg, hfo⟩
 have hbw : Below w.heap.size w wg := ((Below.refl _ _).alloc (Nat.le_refl _) _).trans (hbg.mono (by simp))
 have hg0 : w.heap.size < wg.heap.size := by have h_ := hbg.size; simp at h_; omega
 have hbx0 : wg.cell? ⟨w.heap.size, 0, none⟩ = some (.int .i64 kind) := (hbg.cell (p := ⟨w.heap.size, 0, none⟩) (by simp)).trans (World.cell?_alloc_at _ _ _ _ rfl)
 have hbx1 : wg.cell? ⟨w.heap.size, 1, none⟩ = some (.bool mir) := (hbg.cell (p := ⟨w.heap.size, 1, none⟩) (by simp)).trans (World.cell?_alloc_at _ _ _ _ rfl)
 have HBW := Am hbw
 have HFO := Am hfo
 have HX0 := Am hbx0
 have HX1 := Am hbx1
 have HRX : Aside0 (Rep (fun k_ => SetC wg.heap.size l0 c k_ ∧ k_ < w2.heap.size) w2 (.pointer (some ⟨wg.heap.size + 2 + 2 * c, 0, none⟩)) X) := ⟨(forest_rep hfo HX.out K c X HX.out (Nat.le_refl _)).bound⟩
 have hg2 : wg.heap.size < w2.heap.size := rowIs_lt hfo.ptrs
 have hpc : w2.drew.cell? ⟨wg.heap.size, c, none⟩ = some (.pointer (some ⟨wg.heap.size + 2 + 2 * c, 0, none⟩)) := (rowIs_cell hfo.ptrs c hcl).trans (by rw [if_pos hcl]; rfl)
 have hb0 : w2.drew.cell? ⟨w.heap.size, 0, none⟩ = some (.int .i64 kind) := (hfo.bel.cell (p := ⟨w.heap.size, 0, none⟩) hg0).trans hbx0
 have hb1 : w2.drew.cell? ⟨w.heap.size, 1, none⟩ = some (.bool mir) := (hfo.bel.cell (p := ⟨w.heap.size, 1, none⟩) hg0).trans hbx1
 clear hbg hbw hfo hbx0 hbx1
 go_wp2
 have HPC := Am hpc
 have HB0 := Am hb0
 have HB1 := Am hb1
 refine start_ (n := 11) (S := fun w' => w'.cell? ⟨wg.heap.size, c, none⟩ = some (.pointer (some ⟨wg.heap.size + 2 + 2 * c, 0, none⟩)) ∧ w'.cell? ⟨w.heap.size, 0, none⟩ = some (.int .i64 kind) ∧ w'.cell? ⟨w.heap.size, 1, none⟩ = some (.bool mir)) (ds := [10]) #[false, false, false, false, false, false, false, false, false, false, false] (by kernel_rfl) rfl rfl ⟨hpc, hb0, hb1⟩ (fun hHeld => ?_)
 refine pu 0 26 ?_
 refine pu 1 27 ?_
 refine pu 2 28 ?_
 refine pu 5 31 ?_
 refine pu 6 32 ?_
 refine pu 7 33 ?_
 refine ta 3 29 hHeld ?_
 refine ta 4 30 hHeld ?_
 refine join_ (σ := Nat × Option Addr × Option Addr × Option Addr × Option Addr × Option Addr × Option Addr × Option Addr × Option Addr) 1 #[true, true, true, true, true, true, true, true, true, true, false] (fun s => [(34, .agg #[.bool mir, .pointer (some ⟨wg.heap.size + 2 + 2 * c, 0, none⟩), .pointer s.2.1, .pointer s.2.2.1, .pointer s.2.2.2.1, .pointer s.2.2.2.2.1, .pointer s.2.2.2.2.2.1, .pointer s.2.2.2.2.2.2.1, .pointer s.2.2.2.2.2.2.2.1, .pointer s.2.2.2.2.2.2.2.2, .bool rt]), (11, .pointer (some ⟨s.1, 0, none⟩))]) (fun s w' => Below w2.heap.size w2 w' ∧ w2.heap.size ≤ s.1 ∧ w'.heap[s.1]? = some (.cells #[.bool false, .pointer none, .pointer none, .pointer none, .pointer none, .pointer none, .pointer none, .pointer none, .pointer none, .pointer none, .bool false] 111 (0, 0)) ∧ Rep (fun k_ => SetC wg.heap.size l0 c k_ ∧ k_ < w2.heap.size) w' (.pointer s.2.1) (lT mir X) ∧ Rep (fun k_ => SetC wg.heap.size l0 c k_ ∧ k_ < w2.heap.size) w' (.pointer s.2.2.1) (rT mir X) ∧ Rep (fun k_ => SetC wg.heap.size l0 c k_ ∧ k_ < w2.heap.size) w' (.pointer s.2.2.2.1) (lT mir (lT mir X)) ∧ Rep (fun k_ => SetC wg.heap.size l0 c k_ ∧ k_ < w2.heap.size) w' (.pointer s.2.2.2.2.1) (rT mir (lT mir X)) ∧ Rep (fun k_ => SetC wg.heap.size l0 c k_ ∧ k_ < w2.heap.size) w' (.pointer s.2.2.2.2.2.1) (lT mir (rT mir X)) ∧ Rep (fun k_ => SetC wg.heap.size l0 c k_ ∧ k_ < w2.heap.size) w' (.pointer s.2.2.2.2.2.2.1) (rT mir (rT mir X)) ∧ Rep (fun k_ => SetC wg.heap.size l0 c k_ ∧ k_ < w2.heap.size) w' (.pointer s.2.2.2.2.2.2.2.1) (lT mir (lT mir (rT mir X))) ∧ Rep (fun k_ => SetC wg.heap.size l0 c k_ ∧ k_ < w2.heap.size) w' (.pointer s.2.2.2.2.2.2.2.2) (rT mir (lT mir (rT mir X)))) ?_ ?_
 rotate_left
 ·intro hCont
  refine two_ (i := 8) (j := 9) (Ni := some 34) (Nj := some 11) #[true, true, true, true, true, true, true, true, true, false, false] #[true, true, true, true, true, true, true, true, false, true, false] rfl rfl rfl rfl (by kernel_rfl) (by decide) (by decide) (fun K hK => ?_) (fun K hK => ?_)
  ·skip
   refine goes_ Try.func63 (by kernel_rfl) rfl #[.pointer (some ⟨wg.heap.size + 2 + 2 * c, 0, none⟩), .agg #[.int .i64 kind, .bool mir], .bool rt] (by rfl) rfl rfl (by (try simp only [List.map_toArray, List.map_cons, List.map_nil]); first | done | rfl) ?_
   with_reducible refine (look_any (S := (fun k_ => SetC wg.heap.size l0 c k_ ∧ k_ < w2.heap.size)) _ X _ _ _ _ (by first | exact HRX.out.below ((Below.refl _ _).drew) | exact HRX.out.below HBA.out)).mono ?_
   rintro e wL ⟨pl, pr, pll, plr, prl, prr, pa, pb, rfl, hLb, r1, r2, r3, r4, r5, r6, r7, r8⟩
   refine ⟨_, rfl, ?_⟩
   refine hK.out _ _ ⟨(hLb.cell (blt _ _ hHeld.1)).trans hHeld.1, (hLb.cell (blt _ _ hHeld.2.1)).trans hHeld.2.1, (hLb.cell (blt _ _ hHeld.2.2)).trans hHeld.2.2⟩ (fun hHeld => ?_)
   clear hK K
   refine norm_ (a' := ?_) ?_ ?_
   rotate_left
   ·show Act.put _ (some 34) _ = _
    simp only [Act.put, sI, sZ, sS, i64_w, i32_w]
    rfl
   refine one_ (i := 9) (N := some 11) #[true, true, true, true, true, true, true, true, true, true, false] rfl rfl (by kernel_rfl) (by decide) (fun K hK => ?_)
   refine box_step (by rfl) (N := 11) rfl (cs := #[.bool false, .pointer none, .pointer none, .pointer none, .pointer none, .pointer none, .pointer none, .pointer none, .pointer none, .pointer none, .bool false]) (t := 111) ?hr ?_
   case hr => first | (go_simp; done) | (go_simp; rfl)
   intro g hg wA hbox hbA
   have hgs : w2.heap.size ≤ g := by rw [hg]; exact hLb.size
   refine hK.out _ _ ⟨(hbA.cell (blt _ _ hHeld.1)).trans hHeld.1, (hbA.cell (blt _ _ hHeld.2.1)).trans hHeld.2.1, (hbA.cell (blt _ _ hHeld.2.2)).trans hHeld.2.2⟩ (fun hHeld => ?_)
   clear hK K
   refine norm_ (a' := ?_) ?_ ?_
   rotate_left
   ·show Act.put _ (some 11) _ = _
    simp only [Act.put, sI, sZ, sS, i64_w, i32_w]
    rfl
   exact norm_ (by simp only [putAll, Act.put, sI, sZ, sS]) (hCont (g, pl, pr, pll, plr, prl, prr, pa, pb) _ ⟨((Below.refl w2.heap.size w2).drew.trans (hLb.mono (Nat.le_refl _))).trans (hbA.mono hLb.size), hgs, hbox, (r1.below hLb).below hbA, (r2.below hLb).below hbA, (r3.below hLb).below hbA, (r4.below hLb).below hbA, (r5.below hLb).below hbA, (r6.below hLb).below hbA, (r7.below hLb).below hbA, (r8.below hLb).below hbA⟩)
  ·skip
   refine box_step (by rfl) (N := 11) rfl (cs := #[.bool false, .pointer none, .pointer none, .pointer none, .pointer none, .pointer none, .pointer none, .pointer none, .pointer none, .pointer none, .bool false]) (t := 111) ?hr ?_
   case hr => first | (go_simp; done) | (go_simp; rfl)
   intro g hg wA hbox hbA
   have HBA := Am (((Below.refl w2.heap.size w2).drew).trans (hbA.mono (Nat.le_refl _)))
   have hgs : w2.heap.size ≤ g := by rw [hg]; exact Nat.le_refl _
   refine hK.out _ _ ⟨(hbA.cell (blt _ _ hHeld.1)).trans hHeld.1, (hbA.cell (blt _ _ hHeld.2.1)).trans hHeld.2.1, (hbA.cell (blt _ _ hHeld.2.2)).trans hHeld.2.2⟩ (fun hHeld => ?_)
   clear hK K
   refine norm_ (a' := ?_) ?_ ?_
   rotate_left
   ·show Act.put _ (some 11) _ = _
    simp only [Act.put, sI, sZ, sS, i64_w, i32_w]
    rfl
   refine one_ (i := 8) (N := some 34) #[true, true, true, true, true, true, true, true, true, true, false] rfl rfl (by kernel_rfl) (by decide) (fun K hK => ?_)
   refine goes_ Try.func63 (by kernel_rfl) rfl #[.pointer (some ⟨wg.heap.size + 2 + 2 * c, 0, none⟩), .agg #[.int .i64 kind, .bool mir], .bool rt] (by rfl) rfl rfl (by (try simp only [List.map_toArray, List.map_cons, List.map_nil]); first | done | rfl) ?_
   with_reducible refine (look_any (S := (fun k_ => SetC wg.heap.size l0 c k_ ∧ k_ < w2.heap.size)) _ X _ _ _ _ (by first | exact HRX.out.below ((Below.refl _ _).drew) | exact HRX.out.below HBA.out)).mono ?_
   rintro e wL ⟨pl, pr, pll, plr, prl, prr, pa, pb, rfl, hLb, r1, r2, r3, r4, r5, r6, r7, r8⟩
   refine ⟨_, rfl, ?_⟩
   refine hK.out _ _ ⟨(hLb.cell (blt _ _ hHeld.1)).trans hHeld.1, (hLb.cell (blt _ _ hHeld.2.1)).trans hHeld.2.1, (hLb.cell (blt _ _ hHeld.2.2)).trans hHeld.2.2⟩ (fun hHeld => ?_)
   clear hK K
   refine norm_ (a' := ?_) ?_ ?_
   rotate_left
   ·show Act.put _ (some 34) _ = _
    simp only [Act.put, sI, sZ, sS, i64_w, i32_w]
    rfl
   exact norm_ (by simp only [putAll, Act.put, sI, sZ, sS]) (hCont (g, pl, pr, pll, plr, prl, prr, pa, pb) _ ⟨HBA.out.trans (hLb.mono hbA.size), hgs, (hLb.block _ (Array.getElem?_eq_some_iff.1 hbox).1).trans hbox, r1.below hLb, r2.below hLb, r3.below hLb, r4.below hLb, r5.below hLb, r6.below hLb, r7.below hLb, r8.below hLb⟩)
 rintro ⟨g, pl, pr, pll, plr, prl, prr, pa, pb⟩ w3 ⟨hF1, hF2, hF3, y1, y2, y3, y4, y5, y6, y7, y8⟩
 replace hF2 : w2.heap.size ≤ g := hF2
 replace hF3 : w3.heap[g]? = some (.cells #[.bool false, .pointer none, .pointer none, .pointer none, .pointer none, .pointer none, .pointer none, .pointer none, .pointer none, .pointer none, .bool false] 111 (0, 0)) := hF3
 have HY1 : Aside0 (Rep (fun k_ => SetC wg.heap.size l0 c k_ ∧ k_ < w2.heap.size) w3 (.pointer pl) (lT mir X)) := ⟨y1⟩
 have HY2 : Aside0 (Rep (fun k_ => SetC wg.heap.size l0 c k_ ∧ k_ < w2.heap.size) w3 (.pointer pr) (rT mir X)) := ⟨y2⟩
 have HY3 : Aside0 (Rep (fun k_ => SetC wg.heap.size l0 c k_ ∧ k_ < w2.heap.size) w3 (.pointer pll) (lT mir (lT mir X))) := ⟨y3⟩
 have HY4 : Aside0 (Rep (fun k_ => SetC wg.heap.size l0 c k_ ∧ k_ < w2.heap.size) w3 (.pointer plr) (rT mir (lT mir X))) := ⟨y4⟩
 have HY5 : Aside0 (Rep (fun k_ => SetC wg.heap.size l0 c k_ ∧ k_ < w2.heap.size) w3 (.pointer prl) (lT mir (rT mir X))) := ⟨y5⟩
 have HY6 : Aside0 (Rep (fun k_ => SetC wg.heap.size l0 c k_ ∧ k_ < w2.heap.size) w3 (.pointer prr) (rT mir (rT mir X))) := ⟨y6⟩
 have HY7 : Aside0 (Rep (fun k_ => SetC wg.heap.size l0 c k_ ∧ k_ < w2.heap.size) w3 (.pointer pa) (lT mir (lT mir (rT mir X)))) := ⟨y7⟩
 have HY8 : Aside0 (Rep (fun k_ => SetC wg.heap.size l0 c k_ ∧ k_ < w2.heap.size) w3 (.pointer pb) (rT mir (lT mir (rT mir X)))) := ⟨y8⟩
 have hHeld : w3.cell? ⟨wg.heap.size, c, none⟩ = some (.pointer (some ⟨wg.heap.size + 2 + 2 * c, 0, none⟩)) ∧ w3.cell? ⟨w.heap.size, 0, none⟩ = some (.int .i64 kind) ∧ w3.cell? ⟨w.heap.size, 1, none⟩ = some (.bool mir) := ⟨(hF1.cell (p := ⟨wg.heap.size, c, none⟩) hg2).trans HPC.out, (hF1.cell (p := ⟨w.heap.size, 0, none⟩) (Nat.lt_trans hg0 hg2)).trans HB0.out, (hF1.cell (p := ⟨w.heap.size, 1, none⟩) (Nat.lt_trans hg0 hg2)).trans HB1.out⟩
 have hz0 : w3.cell? ⟨g, 0, none⟩ = some (.bool false) := (cell_of hF3 0).trans rfl
 have hz1 : w3.cell? ⟨g, 1, none⟩ = some (.pointer none) := (cell_of hF3 1).trans rfl
 have hz2 : w3.cell? ⟨g, 2, none⟩ = some (.pointer none) := (cell_of hF3 2).trans rfl
 have hz3 : w3.cell? ⟨g, 3, none⟩ = some (.pointer none) := (cell_of hF3 3).trans rfl
 have hz4 : w3.cell? ⟨g, 4, none⟩ = some (.pointer none) := (cell_of hF3 4).trans rfl
 have hz5 : w3.cell? ⟨g, 5, none⟩ = some (.pointer none) := (cell_of hF3 5).trans rfl
 have hz6 : w3.cell? ⟨g, 6, none⟩ = some (.pointer none) := (cell_of hF3 6).trans rfl
 have hz7 : w3.cell? ⟨g, 7, none⟩ = some (.pointer none) := (cell_of hF3 7).trans rfl
 have hz8 : w3.cell? ⟨g, 8, none⟩ = some (.pointer none) := (cell_of hF3 8).trans rfl
 have hz9 : w3.cell? ⟨g, 9, none⟩ = some (.pointer none) := (cell_of hF3 9).trans rfl
 have hz10 : w3.cell? ⟨g, 10, none⟩ = some (.bool false) := (cell_of hF3 10).trans rfl
 have hfz0 := frz_of hF3 0
 have hfz1 := frz_of hF3 1
 have hfz2 := frz_of hF3 2
 have hfz3 := frz_of hF3 3
 have hfz4 := frz_of hF3 4
 have hfz5 := frz_of hF3 5
 have hfz6 := frz_of hF3 6
 have hfz7 := frz_of hF3 7
 have hfz8 := frz_of hF3 8
 have hfz9 := frz_of hF3 9
 have hfz10 := frz_of hF3 10
 have HF1 := Am hF1
 have HF3 := Am hF3
 clear hF1 hF3 y1 y2 y3 y4 y5 y6 y7 y8
 refine norm_ (a' := ?_) ?_ ?_
 rotate_left
 ·simp only [putAll, Act.put, sI, sZ, sS]
  rfl
 refine last_ (i := 10) (N := none) #[true, true, true, true, true, true, true, true, true, true, true] rfl rfl (by kernel_rfl) (by decide) (fun K hK => ?_)
 refine skip_ (w1 := ?_) (by rfl) rfl ?_ ?_
 rotate_left
 ·go_simp
  rfl
 refine hK.out _ _ ?_
 clear hK K
 refine done_ (by kernel_rfl) ?_
 try clear hHeld
 have hV := put11 HF3.out (.bool mir) (.pointer (some ⟨wg.heap.size + 2 + 2 * c, 0, none⟩)) (.pointer pl) (.pointer pr) (.pointer pll) (.pointer plr) (.pointer prl) (.pointer prr) (.pointer pa) (.pointer pb) (.bool rt)
 have hB := below11 HF1.out hF2 (.bool mir) (.pointer (some ⟨wg.heap.size + 2 + 2 * c, 0, none⟩)) (.pointer pl) (.pointer pr) (.pointer pll) (.pointer plr) (.pointer prl) (.pointer prr) (.pointer pa) (.pointer pb) (.bool rt)
 have hK : ∀ k_, k_ < w2.heap.size → (((((((((((w3.setCell ⟨g, 0, none⟩ (.bool mir)).setCell ⟨g, 1, none⟩ (.pointer (some ⟨wg.heap.size + 2 + 2 * c, 0, none⟩))).setCell ⟨g, 2, none⟩ (.pointer pl)).setCell ⟨g, 3, none⟩ (.pointer pr)).setCell ⟨g, 4, none⟩ (.pointer pll)).setCell ⟨g, 5, none⟩ (.pointer plr)).setCell ⟨g, 6, none⟩ (.pointer prl)).setCell ⟨g, 7, none⟩ (.pointer prr)).setCell ⟨g, 8, none⟩ (.pointer pa)).setCell ⟨g, 9, none⟩ (.pointer pb)).setCell ⟨g, 10, none⟩ (.bool rt)).heap[k_]? = w3.heap[k_]? := fun k_ hk_ => setc11 (by omega) (.bool mir) (.pointer (some ⟨wg.heap.size + 2 + 2 * c, 0, none⟩)) (.pointer pl) (.pointer pr) (.pointer pll) (.pointer plr) (.pointer prl) (.pointer prr) (.pointer pa) (.pointer pb) (.bool rt)
 clear hz0 hfz0 hz1 hfz1 hz2 hfz2 hz3 hfz3 hz4 hfz4 hz5 hfz5 hz6 hfz6 hz7 hfz7 hz8 hfz8 hz9 hfz9 hz10 hfz10 HF3 HF1
 generalize (((((((((((w3.setCell ⟨g, 0, none⟩ (.bool mir)).setCell ⟨g, 1, none⟩ (.pointer (some ⟨wg.heap.size + 2 + 2 * c, 0, none⟩))).setCell ⟨g, 2, none⟩ (.pointer pl)).setCell ⟨g, 3, none⟩ (.pointer pr)).setCell ⟨g, 4, none⟩ (.pointer pll)).setCell ⟨g, 5, none⟩ (.pointer plr)).setCell ⟨g, 6, none⟩ (.pointer prl)).setCell ⟨g, 7, none⟩ (.pointer prr)).setCell ⟨g, 8, none⟩ (.pointer pa)).setCell ⟨g, 9, none⟩ (.pointer pb)).setCell ⟨g, 10, none⟩ (.bool rt)) = w4 at hV hB hK ⊢
 have HRpl := Am (HY1.out.keptS (w' := w4) (fun k_ hk_ _ => hK k_ hk_.2))
 have HRpr := Am (HY2.out.keptS (w' := w4) (fun k_ hk_ _ => hK k_ hk_.2))
 have HRpll := Am (HY3.out.keptS (w' := w4) (fun k_ hk_ _ => hK k_ hk_.2))
 have HRplr := Am (HY4.out.keptS (w' := w4) (fun k_ hk_ _ => hK k_ hk_.2))
 have HRprl := Am (HY5.out.keptS (w' := w4) (fun k_ hk_ _ => hK k_ hk_.2))
 have HRprr := Am (HY6.out.keptS (w' := w4) (fun k_ hk_ _ => hK k_ hk_.2))
 have HRpa := Am (HY7.out.keptS (w' := w4) (fun k_ hk_ _ => hK k_ hk_.2))
 have HRpb := Am (HY8.out.keptS (w' := w4) (fun k_ hk_ _ => hK k_ hk_.2))
 have HRp := Am (HRX.out.below hB)
 have HV := Am hV
 have HB := Am hB
 clear HY1 HY2 HY3 HY4 HY5 HY6 HY7 HY8 hK
 have hk0 : w4.cell? ⟨w.heap.size, 0, none⟩ = some (.int .i64 kind) := (hB.cell (p := ⟨w.heap.size, 0, none⟩) (Nat.lt_trans hg0 hg2)).trans HB0.out
 have HK0 := Am hk0
 have hv0 : w4.cell? ⟨g, 0, none⟩ = some (.bool mir) := (cell_of hV 0).trans rfl
 have hv1 : w4.cell? ⟨g, 1, none⟩ = some (.pointer (some ⟨wg.heap.size + 2 + 2 * c, 0, none⟩)) := (cell_of hV 1).trans rfl
 have hv2 : w4.cell? ⟨g, 2, none⟩ = some (.pointer pl) := (cell_of hV 2).trans rfl
 have hv3 : w4.cell? ⟨g, 3, none⟩ = some (.pointer pr) := (cell_of hV 3).trans rfl
 have hv4 : w4.cell? ⟨g, 4, none⟩ = some (.pointer pll) := (cell_of hV 4).trans rfl
 have hv5 : w4.cell? ⟨g, 5, none⟩ = some (.pointer plr) := (cell_of hV 5).trans rfl
 have hv6 : w4.cell? ⟨g, 6, none⟩ = some (.pointer prl) := (cell_of hV 6).trans rfl
 have hv7 : w4.cell? ⟨g, 7, none⟩ = some (.pointer prr) := (cell_of hV 7).trans rfl
 have hv8 : w4.cell? ⟨g, 8, none⟩ = some (.pointer pa) := (cell_of hV 8).trans rfl
 have hv9 : w4.cell? ⟨g, 9, none⟩ = some (.pointer pb) := (cell_of hV 9).trans rfl
 have hv10 : w4.cell? ⟨g, 10, none⟩ = some (.bool rt) := (cell_of hV 10).trans rfl
 clear hV hB HPC HB0 HB1
 go_wp2_with (fail)
 refine (can_any mir rt (some ⟨wg.heap.size + 2 + 2 * c, 0, none⟩) pl pr pll plr prl prr pa pb X _ HRp HRpl HRpr HRpll HRplr HRprl HRprr HRpa HRpb kind HKD.out).mono ?_
 rw [HCAN.out]
 rintro e w5 ⟨rfl, h5⟩
 have HB5 := Am (HB.out.trans (h5.mono HB.out.size))
 have H5 := Am h5
 have HV5 := Am ((h5.block _ (Array.getElem?_eq_some_iff.1 HV.out).1).trans HV.out)
 have hk5 := (h5.cell (blt _ _ HK0.out)).trans HK0.out
 clear h5 hv0 hv1 hv2 hv3 hv4 hv5 hv6 hv7 hv8 hv9 hv10 hk0 HV
 have hw0 : w5.cell? ⟨g, 0, none⟩ = some (.bool mir) := (cell_of HV5.out 0).trans rfl
 have hw1 : w5.cell? ⟨g, 1, none⟩ = some (.pointer (some ⟨wg.heap.size + 2 + 2 * c, 0, none⟩)) := (cell_of HV5.out 1).trans rfl
 have hw2 : w5.cell? ⟨g, 2, none⟩ = some (.pointer pl) := (cell_of HV5.out 2).trans rfl
 have hw3 : w5.cell? ⟨g, 3, none⟩ = some (.pointer pr) := (cell_of HV5.out 3).trans rfl
 have hw4 : w5.cell? ⟨g, 4, none⟩ = some (.pointer pll) := (cell_of HV5.out 4).trans rfl
 have hw5 : w5.cell? ⟨g, 5, none⟩ = some (.pointer plr) := (cell_of HV5.out 5).trans rfl
 have hw6 : w5.cell? ⟨g, 6, none⟩ = some (.pointer prl) := (cell_of HV5.out 6).trans rfl
 have hw7 : w5.cell? ⟨g, 7, none⟩ = some (.pointer prr) := (cell_of HV5.out 7).trans rfl
 have hw8 : w5.cell? ⟨g, 8, none⟩ = some (.pointer pa) := (cell_of HV5.out 8).trans rfl
 have hw9 : w5.cell? ⟨g, 9, none⟩ = some (.pointer pb) := (cell_of HV5.out 9).trans rfl
 have hw10 : w5.cell? ⟨g, 10, none⟩ = some (.bool rt) := (cell_of HV5.out 10).trans rfl
 go_wp2_with (fail)
 refine (do_any (S := (fun k_ => (fun k_ => SetC wg.heap.size l0 c k_ ∧ k_ < w2.heap.size) k_ ∨ w5.heap.size ≤ k_)) mir rt (some ⟨wg.heap.size + 2 + 2 * c, 0, none⟩) pl pr pll plr prl prr pa pb X _ (fun _ hk_ => .inr hk_) ⟨(HRp.out.below H5.out).mono (fun _ hk_ => .inl hk_)⟩ ⟨(HRpl.out.below H5.out).mono (fun _ hk_ => .inl hk_)⟩ ⟨(HRpr.out.below H5.out).mono (fun _ hk_ => .inl hk_)⟩ ⟨(HRpll.out.below H5.out).mono (fun _ hk_ => .inl hk_)⟩ ⟨(HRplr.out.below H5.out).mono (fun _ hk_ => .inl hk_)⟩ ⟨(HRprl.out.below H5.out).mono (fun _ hk_ => .inl hk_)⟩ ⟨(HRprr.out.below H5.out).mono (fun _ hk_ => .inl hk_)⟩ ⟨(HRpa.out.below H5.out).mono (fun _ hk_ => .inl hk_)⟩ ⟨(HRpb.out.below H5.out).mono (fun _ hk_ => .inl hk_)⟩ kind HKD.out HXN.out HCAN.out).mono ?_
 rintro e w6 ⟨q, W6, rfl, h6a, h6b, h6c⟩
 have HB6 := Am ((HB5.out.trans (h6a.mono HB5.out.size)).trans (h6b.mono (Nat.le_trans HB5.out.size h6a.size)))
 have hge6 : w5.heap.size ≤ W6.heap.size := h6a.size
 have HTOP := Am h6c
 have HTB := Am h6b
 clear h6a h6b h6c hw0 hw1 hw2 hw3 hw4 hw5 hw6 hw7 hw8 hw9 hw10
 have hrf := HRF.out
 subst hrf
 obtain ⟨b6, n6, q6, L6, R6, vl6, vr6, hq6, hdo6, hge6b, hcl6, _, _, _⟩ := HTOP.out
 injection hq6 with hq6
 subst hq6
 have hcu6 : w6.cell? ⟨b6, 2, none⟩ = some (.int .i64 n6.f2) := (cell_of hcl6 2).trans rfl
 have hwt : wt (doT mir X kind) = n6.f2 := by rw [hdo6]; rfl
 have HREP := Am (HTOP.out.rep HTB.out)
 rw [hwt] at hbig
 clear hdo6 hcl6 hwt
 have HB7 := HB6
 have dbig : decide (1000000 < n6.f2) = true := decide_eq_true hbig
 clear hbig
 go_wp2
 go_ret2
 exact ⟨rfl, HBW.out.trans ((HFO.out.bel.trans (HB6.out.mono HFO.out.bel.size)).mono HBW.out.size)⟩
end Go.Proofs.Ytgleaefhflamnaa.T
namespace Go.Proofs.Ytgleaefhflamnaa.T
open Go.RowKit Go.Proofs.YtgleaefhflamnaaW.PrintWords Go.Proofs.YtgleaefhflamnaaW.PrintLast Go.Proofs.YtgleaefhflamnaaW.PrintMore
set_option maxHeartbeats 8000000 in
set_option maxRecDepth 100000 in
theorem do_ok0 (k : Nat) (A0 : Option Addr) (c0 : Nat) (l0 : List S34) (c : Nat) (kind : Int) (mir : Bool) (r1 : Int) (r2 : List Bool) (w : World) (hr0 : Kd.C k34 w A0 l0.length l0) (hc0 : l0.length ≤ c0)
  (h : steps_keys.f k l0 = some (r1, r2, 0)) (hm : steps_Move_is.f kind mir = some true) (hkd : 1 ≤ kind ∧ kind ≤ 12) (hp1 : (c : Int) < l0.length) (hp2 : (c : Int) < r2.length) (hbel : rdOf false r2 c = true) (ht : OkT l0) (K : Nat) (X : Tr) (hX : mkT l0 K c = some X) (rt : Bool) (hrt : ((c : Int) == r1) = rt) (hrf : rt = false) (hcan : canT mir rt X kind = true) (hbig : ¬ 1000000 < wt (doT mir X kind)) (K1 : Nat) (T1 : Tr) (hT1 : mkR l0 c (doT mir X kind) K1 0 = some T1) (hfull : Full T1) (hsz : sizeT T1 ≤ 1000000) :
  Calls Try.prog 30 #[.slice A0 l0.length c0, .int .i64 c, .agg #[.int .i64 kind, .bool mir]] w fun e w' => DoOK w (flatT T1 0) e w' := by
 have HCAN := Am hcan
 clear hcan
 have HT1 := Am hT1
 have HFULL := Am hfull
 have HSZ := Am hsz
 clear hT1 hfull hsz
 have hxn : X ≠ .nil := by rintro rfl; exact mkT_nil hX
 have HXN := Am hxn
 clear hxn
 have HRF := Am hrf
 clear hrf
 have hu62 := Try.underlying62
 have hu111 := Try.underlying111
 have hu116 := Try.underlying116
 have hu34 := Try.underlying34
 have HR := Am hr0
 have HC := Am hc0
 have H := Am h
 have HM := Am hm
 have HT := Am ht
 have HX := Am hX
 have HKD := Am hkd
 have HBEL := Am hbel
 have hlen : l0.length ≤ 100000 := ht.len
 have hcl : c < l0.length := by omega
 clear hr0 hc0 h hm ht hX hkd hbel
 go_enter Try.func30, Try.ntmps30
 go_wp2_with (fail)
 refine (at_okt k A0 c0 l0 c kind mir r1 r2 _ (Kd.C_below HR.out ((Below.refl _ _).alloc (Nat.le_refl _) _)) HC.out H.out (fun _ => HM.out) (by omega) hp1 hp2 HBEL.out (by omega) (fun i hi h4 => ⟨(HT.out.kids i hi h4).1, (HT.out.kids i hi h4).2.1, (HT.out.kids i hi h4).2.2.1⟩)).mono ?_
 rintro e w2 ⟨wg, rfl, hbg, hfo⟩
 have hbw : Below w.heap.size w wg := ((Below.refl _ _).alloc (Nat.le_refl _) _).trans (hbg.mono (by simp))
 have hg0 : w.heap.size < wg.heap.size := by have h_ := hbg.size; simp at h_; omega
 have hbx0 : wg.cell? ⟨w.heap.size, 0, none⟩ = some (.int .i64 kind) := (hbg.cell (p := ⟨w.heap.size, 0, none⟩) (by simp)).trans (World.cell?_alloc_at _ _ _ _ rfl)
 have hbx1 : wg.cell? ⟨w.heap.size, 1, none⟩ = some (.bool mir) := (hbg.cell (p := ⟨w.heap.size, 1, none⟩) (by simp)).trans (World.cell?_alloc_at _ _ _ _ rfl)
 have HBW := Am hbw
 have HFO := Am hfo
 have HX0 := Am hbx0
 have HX1 := Am hbx1
 have HRX : Aside0 (Rep (fun k_ => SetC wg.heap.size l0 c k_ ∧ k_ < w2.heap.size) w2 (.pointer (some ⟨wg.heap.size + 2 + 2 * c, 0, none⟩)) X) := ⟨(forest_rep hfo HX.out K c X HX.out (Nat.le_refl _)).bound⟩
 have hg2 : wg.heap.size < w2.heap.size := rowIs_lt hfo.ptrs
 have hpc : w2.drew.cell? ⟨wg.heap.size, c, none⟩ = some (.pointer (some ⟨wg.heap.size + 2 + 2 * c, 0, none⟩)) := (rowIs_cell hfo.ptrs c hcl).trans (by rw [if_pos hcl]; rfl)
 have hb0 : w2.drew.cell? ⟨w.heap.size, 0, none⟩ = some (.int .i64 kind) := (hfo.bel.cell (p := ⟨w.heap.size, 0, none⟩) hg0).trans hbx0
 have hb1 : w2.drew.cell? ⟨w.heap.size, 1, none⟩ = some (.bool mir) := (hfo.bel.cell (p := ⟨w.heap.size, 1, none⟩) hg0).trans hbx1
 clear hbg hbw hfo hbx0 hbx1
 go_wp2
 have HPC := Am hpc
 have HB0 := Am hb0
 have HB1 := Am hb1
 refine start_ (n := 11) (S := fun w' => w'.cell? ⟨wg.heap.size, c, none⟩ = some (.pointer (some ⟨wg.heap.size + 2 + 2 * c, 0, none⟩)) ∧ w'.cell? ⟨w.heap.size, 0, none⟩ = some (.int .i64 kind) ∧ w'.cell? ⟨w.heap.size, 1, none⟩ = some (.bool mir)) (ds := [10]) #[false, false, false, false, false, false, false, false, false, false, false] (by kernel_rfl) rfl rfl ⟨hpc, hb0, hb1⟩ (fun hHeld => ?_)
 refine pu 0 26 ?_
 refine pu 1 27 ?_
 refine pu 2 28 ?_
 refine pu 5 31 ?_
 refine pu 6 32 ?_
 refine pu 7 33 ?_
 refine ta 3 29 hHeld ?_
 refine ta 4 30 hHeld ?_
 refine join_ (σ := Nat × Option Addr × Option Addr × Option Addr × Option Addr × Option Addr × Option Addr × Option Addr × Option Addr) 1 #[true, true, true, true, true, true, true, true, true, true, false] (fun s => [(34, .agg #[.bool mir, .pointer (some ⟨wg.heap.size + 2 + 2 * c, 0, none⟩), .pointer s.2.1, .pointer s.2.2.1, .pointer s.2.2.2.1, .pointer s.2.2.2.2.1, .pointer s.2.2.2.2.2.1, .pointer s.2.2.2.2.2.2.1, .pointer s.2.2.2.2.2.2.2.1, .pointer s.2.2.2.2.2.2.2.2, .bool rt]), (11, .pointer (some ⟨s.1, 0, none⟩))]) (fun s w' => Below w2.heap.size w2 w' ∧ w2.heap.size ≤ s.1 ∧ w'.heap[s.1]? = some (.cells #[.bool false, .pointer none, .pointer none, .pointer none, .pointer none, .pointer none, .pointer none, .pointer none, .pointer none, .pointer none, .bool false] 111 (0, 0)) ∧ Rep (fun k_ => SetC wg.heap.size l0 c k_ ∧ k_ < w2.heap.size) w' (.pointer s.2.1) (lT mir X) ∧ Rep (fun k_ => SetC wg.heap.size l0 c k_ ∧ k_ < w2.heap.size) w' (.pointer s.2.2.1) (rT mir X) ∧ Rep (fun k_ => SetC wg.heap.size l0 c k_ ∧ k_ < w2.heap.size) w' (.pointer s.2.2.2.1) (lT mir (lT mir X)) ∧ Rep (fun k_ => SetC wg.heap.size l0 c k_ ∧ k_ < w2.heap.size) w' (.pointer s.2.2.2.2.1) (rT mir (lT mir X)) ∧ Rep (fun k_ => SetC wg.heap.size l0 c k_ ∧ k_ < w2.heap.size) w' (.pointer s.2.2.2.2.2.1) (lT mir (rT mir X)) ∧ Rep (fun k_ => SetC wg.heap.size l0 c k_ ∧ k_ < w2.heap.size) w' (.pointer s.2.2.2.2.2.2.1) (rT mir (rT mir X)) ∧ Rep (fun k_ => SetC wg.heap.size l0 c k_ ∧ k_ < w2.heap.size) w' (.pointer s.2.2.2.2.2.2.2.1) (lT mir (lT mir (rT mir X))) ∧ Rep (fun k_ => SetC wg.heap.size l0 c k_ ∧ k_ < w2.heap.size) w' (.pointer s.2.2.2.2.2.2.2.2) (rT mir (lT mir (rT mir X)))) ?_ ?_
 rotate_left
 ·intro hCont
  refine two_ (i := 8) (j := 9) (Ni := some 34) (Nj := some 11) #[true, true, true, true, true, true, true, true, true, false, false] #[true, true, true, true, true, true, true, true, false, true, false] rfl rfl rfl rfl (by kernel_rfl) (by decide) (by decide) (fun K hK => ?_) (fun K hK => ?_)
  ·skip
   refine goes_ Try.func63 (by kernel_rfl) rfl #[.pointer (some ⟨wg.heap.size + 2 + 2 * c, 0, none⟩), .agg #[.int .i64 kind, .bool mir], .bool rt] (by rfl) rfl rfl (by (try simp only [List.map_toArray, List.map_cons, List.map_nil]); first | done | rfl) ?_
   with_reducible refine (look_any (S := (fun k_ => SetC wg.heap.size l0 c k_ ∧ k_ < w2.heap.size)) _ X _ _ _ _ (by first | exact HRX.out.below ((Below.refl _ _).drew) | exact HRX.out.below HBA.out)).mono ?_
   rintro e wL ⟨pl, pr, pll, plr, prl, prr, pa, pb, rfl, hLb, r1, r2, r3, r4, r5, r6, r7, r8⟩
   refine ⟨_, rfl, ?_⟩
   refine hK.out _ _ ⟨(hLb.cell (blt _ _ hHeld.1)).trans hHeld.1, (hLb.cell (blt _ _ hHeld.2.1)).trans hHeld.2.1, (hLb.cell (blt _ _ hHeld.2.2)).trans hHeld.2.2⟩ (fun hHeld => ?_)
   clear hK K
   refine norm_ (a' := ?_) ?_ ?_
   rotate_left
   ·show Act.put _ (some 34) _ = _
    simp only [Act.put, sI, sZ, sS, i64_w, i32_w]
    rfl
   refine one_ (i := 9) (N := some 11) #[true, true, true, true, true, true, true, true, true, true, false] rfl rfl (by kernel_rfl) (by decide) (fun K hK => ?_)
   refine box_step (by rfl) (N := 11) rfl (cs := #[.bool false, .pointer none, .pointer none, .pointer none, .pointer none, .pointer none, .pointer none, .pointer none, .pointer none, .pointer none, .bool false]) (t := 111) ?hr ?_
   case hr => first | (go_simp; done) | (go_simp; rfl)
   intro g hg wA hbox hbA
   have hgs : w2.heap.size ≤ g := by rw [hg]; exact hLb.size
   refine hK.out _ _ ⟨(hbA.cell (blt _ _ hHeld.1)).trans hHeld.1, (hbA.cell (blt _ _ hHeld.2.1)).trans hHeld.2.1, (hbA.cell (blt _ _ hHeld.2.2)).trans hHeld.2.2⟩ (fun hHeld => ?_)
   clear hK K
   refine norm_ (a' := ?_) ?_ ?_
   rotate_left
   ·show Act.put _ (some 11) _ = _
    simp only [Act.put, sI, sZ, sS, i64_w, i32_w]
    rfl
   exact norm_ (by simp only [putAll, Act.put, sI, sZ, sS]) (hCont (g, pl, pr, pll, plr, prl, prr, pa, pb) _ ⟨((Below.refl w2.heap.size w2).drew.trans (hLb.mono (Nat.le_refl _))).trans (hbA.mono hLb.size), hgs, hbox, (r1.below hLb).below hbA, (r2.below hLb).below hbA, (r3.below hLb).below hbA, (r4.below hLb).below hbA, (r5.below hLb).below hbA, (r6.below hLb).below hbA, (r7.below hLb).below hbA, (r8.below hLb).below hbA⟩)
  ·skip
   refine box_step (by rfl) (N := 11) rfl (cs := #[.bool false, .pointer none, .pointer none, .pointer none, .pointer none, .pointer none, .pointer none, .pointer none, .pointer none, .pointer none, .bool false]) (t := 111) ?hr ?_
   case hr => first | (go_simp; done) | (go_simp; rfl)
   intro g hg wA hbox hbA
   have HBA := Am (((Below.refl w2.heap.size w2).drew).trans (hbA.mono (Nat.le_refl _)))
   have hgs : w2.heap.size ≤ g := by rw [hg]; exact Nat.le_refl _
   refine hK.out _ _ ⟨(hbA.cell (blt _ _ hHeld.1)).trans hHeld.1, (hbA.cell (blt _ _ hHeld.2.1)).trans hHeld.2.1, (hbA.cell (blt _ _ hHeld.2.2)).trans hHeld.2.2⟩ (fun hHeld => ?_)
   clear hK K
   refine norm_ (a' := ?_) ?_ ?_
   rotate_left
   ·show Act.put _ (some 11) _ = _
    simp only [Act.put, sI, sZ, sS, i64_w, i32_w]
    rfl
   refine one_ (i := 8) (N := some 34) #[true, true, true, true, true, true, true, true, true, true, false] rfl rfl (by kernel_rfl) (by decide) (fun K hK => ?_)
   refine goes_ Try.func63 (by kernel_rfl) rfl #[.pointer (some ⟨wg.heap.size + 2 + 2 * c, 0, none⟩), .agg #[.int .i64 kind, .bool mir], .bool rt] (by rfl) rfl rfl (by (try simp only [List.map_toArray, List.map_cons, List.map_nil]); first | done | rfl) ?_
   with_reducible refine (look_any (S := (fun k_ => SetC wg.heap.size l0 c k_ ∧ k_ < w2.heap.size)) _ X _ _ _ _ (by first | exact HRX.out.below ((Below.refl _ _).drew) | exact HRX.out.below HBA.out)).mono ?_
   rintro e wL ⟨pl, pr, pll, plr, prl, prr, pa, pb, rfl, hLb, r1, r2, r3, r4, r5, r6, r7, r8⟩
   refine ⟨_, rfl, ?_⟩
   refine hK.out _ _ ⟨(hLb.cell (blt _ _ hHeld.1)).trans hHeld.1, (hLb.cell (blt _ _ hHeld.2.1)).trans hHeld.2.1, (hLb.cell (blt _ _ hHeld.2.2)).trans hHeld.2.2⟩ (fun hHeld => ?_)
   clear hK K
   refine norm_ (a' := ?_) ?_ ?_
   rotate_left
   ·show Act.put _ (some 34) _ = _
    simp only [Act.put, sI, sZ, sS, i64_w, i32_w]
    rfl
   exact norm_ (by simp only [putAll, Act.put, sI, sZ, sS]) (hCont (g, pl, pr, pll, plr, prl, prr, pa, pb) _ ⟨HBA.out.trans (hLb.mono hbA.size), hgs, (hLb.block _ (Array.getElem?_eq_some_iff.1 hbox).1).trans hbox, r1.below hLb, r2.below hLb, r3.below hLb, r4.below hLb, r5.below hLb, r6.below hLb, r7.below hLb, r8.below hLb⟩)
 rintro ⟨g, pl, pr, pll, plr, prl, prr, pa, pb⟩ w3 ⟨hF1, hF2, hF3, y1, y2, y3, y4, y5, y6, y7, y8⟩
 replace hF2 : w2.heap.size ≤ g := hF2
 replace hF3 : w3.heap[g]? = some (.cells #[.bool false, .pointer none, .pointer none, .pointer none, .pointer none, .pointer none, .pointer none, .pointer none, .pointer none, .pointer none, .bool false] 111 (0, 0)) := hF3
 have HY1 : Aside0 (Rep (fun k_ => SetC wg.heap.size l0 c k_ ∧ k_ < w2.heap.size) w3 (.pointer pl) (lT mir X)) := ⟨y1⟩
 have HY2 : Aside0 (Rep (fun k_ => SetC wg.heap.size l0 c k_ ∧ k_ < w2.heap.size) w3 (.pointer pr) (rT mir X)) := ⟨y2⟩
 have HY3 : Aside0 (Rep (fun k_ => SetC wg.heap.size l0 c k_ ∧ k_ < w2.heap.size) w3 (.pointer pll) (lT mir (lT mir X))) := ⟨y3⟩
 have HY4 : Aside0 (Rep (fun k_ => SetC wg.heap.size l0 c k_ ∧ k_ < w2.heap.size) w3 (.pointer plr) (rT mir (lT mir X))) := ⟨y4⟩
 have HY5 : Aside0 (Rep (fun k_ => SetC wg.heap.size l0 c k_ ∧ k_ < w2.heap.size) w3 (.pointer prl) (lT mir (rT mir X))) := ⟨y5⟩
 have HY6 : Aside0 (Rep (fun k_ => SetC wg.heap.size l0 c k_ ∧ k_ < w2.heap.size) w3 (.pointer prr) (rT mir (rT mir X))) := ⟨y6⟩
 have HY7 : Aside0 (Rep (fun k_ => SetC wg.heap.size l0 c k_ ∧ k_ < w2.heap.size) w3 (.pointer pa) (lT mir (lT mir (rT mir X)))) := ⟨y7⟩
 have HY8 : Aside0 (Rep (fun k_ => SetC wg.heap.size l0 c k_ ∧ k_ < w2.heap.size) w3 (.pointer pb) (rT mir (lT mir (rT mir X)))) := ⟨y8⟩
 have hHeld : w3.cell? ⟨wg.heap.size, c, none⟩ = some (.pointer (some ⟨wg.heap.size + 2 + 2 * c, 0, none⟩)) ∧ w3.cell? ⟨w.heap.size, 0, none⟩ = some (.int .i64 kind) ∧ w3.cell? ⟨w.heap.size, 1, none⟩ = some (.bool mir) := ⟨(hF1.cell (p := ⟨wg.heap.size, c, none⟩) hg2).trans HPC.out, (hF1.cell (p := ⟨w.heap.size, 0, none⟩) (Nat.lt_trans hg0 hg2)).trans HB0.out, (hF1.cell (p := ⟨w.heap.size, 1, none⟩) (Nat.lt_trans hg0 hg2)).trans HB1.out⟩
 have hz0 : w3.cell? ⟨g, 0, none⟩ = some (.bool false) := (cell_of hF3 0).trans rfl
 have hz1 : w3.cell? ⟨g, 1, none⟩ = some (.pointer none) := (cell_of hF3 1).trans rfl
 have hz2 : w3.cell? ⟨g, 2, none⟩ = some (.pointer none) := (cell_of hF3 2).trans rfl
 have hz3 : w3.cell? ⟨g, 3, none⟩ = some (.pointer none) := (cell_of hF3 3).trans rfl
 have hz4 : w3.cell? ⟨g, 4, none⟩ = some (.pointer none) := (cell_of hF3 4).trans rfl
 have hz5 : w3.cell? ⟨g, 5, none⟩ = some (.pointer none) := (cell_of hF3 5).trans rfl
 have hz6 : w3.cell? ⟨g, 6, none⟩ = some (.pointer none) := (cell_of hF3 6).trans rfl
 have hz7 : w3.cell? ⟨g, 7, none⟩ = some (.pointer none) := (cell_of hF3 7).trans rfl
 have hz8 : w3.cell? ⟨g, 8, none⟩ = some (.pointer none) := (cell_of hF3 8).trans rfl
 have hz9 : w3.cell? ⟨g, 9, none⟩ = some (.pointer none) := (cell_of hF3 9).trans rfl
 have hz10 : w3.cell? ⟨g, 10, none⟩ = some (.bool false) := (cell_of hF3 10).trans rfl
 have hfz0 := frz_of hF3 0
 have hfz1 := frz_of hF3 1
 have hfz2 := frz_of hF3 2
 have hfz3 := frz_of hF3 3
 have hfz4 := frz_of hF3 4
 have hfz5 := frz_of hF3 5
 have hfz6 := frz_of hF3 6
 have hfz7 := frz_of hF3 7
 have hfz8 := frz_of hF3 8
 have hfz9 := frz_of hF3 9
 have hfz10 := frz_of hF3 10
 have HF1 := Am hF1
 have HF3 := Am hF3
 clear hF1 hF3 y1 y2 y3 y4 y5 y6 y7 y8
 refine norm_ (a' := ?_) ?_ ?_
 rotate_left
 ·simp only [putAll, Act.put, sI, sZ, sS]
  rfl
 refine last_ (i := 10) (N := none) #[true, true, true, true, true, true, true, true, true, true, true] rfl rfl (by kernel_rfl) (by decide) (fun K hK => ?_)
 refine skip_ (w1 := ?_) (by rfl) rfl ?_ ?_
 rotate_left
 ·go_simp
  rfl
 refine hK.out _ _ ?_
 clear hK K
 refine done_ (by kernel_rfl) ?_
 try clear hHeld
 have hV := put11 HF3.out (.bool mir) (.pointer (some ⟨wg.heap.size + 2 + 2 * c, 0, none⟩)) (.pointer pl) (.pointer pr) (.pointer pll) (.pointer plr) (.pointer prl) (.pointer prr) (.pointer pa) (.pointer pb) (.bool rt)
 have hB := below11 HF1.out hF2 (.bool mir) (.pointer (some ⟨wg.heap.size + 2 + 2 * c, 0, none⟩)) (.pointer pl) (.pointer pr) (.pointer pll) (.pointer plr) (.pointer prl) (.pointer prr) (.pointer pa) (.pointer pb) (.bool rt)
 have hK : ∀ k_, k_ < w2.heap.size → (((((((((((w3.setCell ⟨g, 0, none⟩ (.bool mir)).setCell ⟨g, 1, none⟩ (.pointer (some ⟨wg.heap.size + 2 + 2 * c, 0, none⟩))).setCell ⟨g, 2, none⟩ (.pointer pl)).setCell ⟨g, 3, none⟩ (.pointer pr)).setCell ⟨g, 4, none⟩ (.pointer pll)).setCell ⟨g, 5, none⟩ (.pointer plr)).setCell ⟨g, 6, none⟩ (.pointer prl)).setCell ⟨g, 7, none⟩ (.pointer prr)).setCell ⟨g, 8, none⟩ (.pointer pa)).setCell ⟨g, 9, none⟩ (.pointer pb)).setCell ⟨g, 10, none⟩ (.bool rt)).heap[k_]? = w3.heap[k_]? := fun k_ hk_ => setc11 (by omega) (.bool mir) (.pointer (some ⟨wg.heap.size + 2 + 2 * c, 0, none⟩)) (.pointer pl) (.pointer pr) (.pointer pll) (.pointer plr) (.pointer prl) (.pointer prr) (.pointer pa) (.pointer pb) (.bool rt)
 clear hz0 hfz0 hz1 hfz1 hz2 hfz2 hz3 hfz3 hz4 hfz4 hz5 hfz5 hz6 hfz6 hz7 hfz7 hz8 hfz8 hz9 hfz9 hz10 hfz10 HF3 HF1
 generalize (((((((((((w3.setCell ⟨g, 0, none⟩ (.bool mir)).setCell ⟨g, 1, none⟩ (.pointer (some ⟨wg.heap.size + 2 + 2 * c, 0, none⟩))).setCell ⟨g, 2, none⟩ (.pointer pl)).setCell ⟨g, 3, none⟩ (.pointer pr)).setCell ⟨g, 4, none⟩ (.pointer pll)).setCell ⟨g, 5, none⟩ (.pointer plr)).setCell ⟨g, 6, none⟩ (.pointer prl)).setCell ⟨g, 7, none⟩ (.pointer prr)).setCell ⟨g, 8, none⟩ (.pointer pa)).setCell ⟨g, 9, none⟩ (.pointer pb)).setCell ⟨g, 10, none⟩ (.bool rt)) = w4 at hV hB hK ⊢
 have HRpl := Am (HY1.out.keptS (w' := w4) (fun k_ hk_ _ => hK k_ hk_.2))
 have HRpr := Am (HY2.out.keptS (w' := w4) (fun k_ hk_ _ => hK k_ hk_.2))
 have HRpll := Am (HY3.out.keptS (w' := w4) (fun k_ hk_ _ => hK k_ hk_.2))
 have HRplr := Am (HY4.out.keptS (w' := w4) (fun k_ hk_ _ => hK k_ hk_.2))
 have HRprl := Am (HY5.out.keptS (w' := w4) (fun k_ hk_ _ => hK k_ hk_.2))
 have HRprr := Am (HY6.out.keptS (w' := w4) (fun k_ hk_ _ => hK k_ hk_.2))
 have HRpa := Am (HY7.out.keptS (w' := w4) (fun k_ hk_ _ => hK k_ hk_.2))
 have HRpb := Am (HY8.out.keptS (w' := w4) (fun k_ hk_ _ => hK k_ hk_.2))
 have HRp := Am (HRX.out.below hB)
 have HV := Am hV
 have HB := Am hB
 clear HY1 HY2 HY3 HY4 HY5 HY6 HY7 HY8 hK
 have hk0 : w4.cell? ⟨w.heap.size, 0, none⟩ = some (.int .i64 kind) := (hB.cell (p := ⟨w.heap.size, 0, none⟩) (Nat.lt_trans hg0 hg2)).trans HB0.out
 have HK0 := Am hk0
 have hv0 : w4.cell? ⟨g, 0, none⟩ = some (.bool mir) := (cell_of hV 0).trans rfl
 have hv1 : w4.cell? ⟨g, 1, none⟩ = some (.pointer (some ⟨wg.heap.size + 2 + 2 * c, 0, none⟩)) := (cell_of hV 1).trans rfl
 have hv2 : w4.cell? ⟨g, 2, none⟩ = some (.pointer pl) := (cell_of hV 2).trans rfl
 have hv3 : w4.cell? ⟨g, 3, none⟩ = some (.pointer pr) := (cell_of hV 3).trans rfl
 have hv4 : w4.cell? ⟨g, 4, none⟩ = some (.pointer pll) := (cell_of hV 4).trans rfl
 have hv5 : w4.cell? ⟨g, 5, none⟩ = some (.pointer plr) := (cell_of hV 5).trans rfl
 have hv6 : w4.cell? ⟨g, 6, none⟩ = some (.pointer prl) := (cell_of hV 6).trans rfl
 have hv7 : w4.cell? ⟨g, 7, none⟩ = some (.pointer prr) := (cell_of hV 7).trans rfl
 have hv8 : w4.cell? ⟨g, 8, none⟩ = some (.pointer pa) := (cell_of hV 8).trans rfl
 have hv9 : w4.cell? ⟨g, 9, none⟩ = some (.pointer pb) := (cell_of hV 9).trans rfl
 have hv10 : w4.cell? ⟨g, 10, none⟩ = some (.bool rt) := (cell_of hV 10).trans rfl
 clear hV hB HPC HB0 HB1
 go_wp2_with (fail)
 refine (can_any mir rt (some ⟨wg.heap.size + 2 + 2 * c, 0, none⟩) pl pr pll plr prl prr pa pb X _ HRp HRpl HRpr HRpll HRplr HRprl HRprr HRpa HRpb kind HKD.out).mono ?_
 rw [HCAN.out]
 rintro e w5 ⟨rfl, h5⟩
 have HB5 := Am (HB.out.trans (h5.mono HB.out.size))
 have H5 := Am h5
 have HV5 := Am ((h5.block _ (Array.getElem?_eq_some_iff.1 HV.out).1).trans HV.out)
 have hk5 := (h5.cell (blt _ _ HK0.out)).trans HK0.out
 clear h5 hv0 hv1 hv2 hv3 hv4 hv5 hv6 hv7 hv8 hv9 hv10 hk0 HV
 have hw0 : w5.cell? ⟨g, 0, none⟩ = some (.bool mir) := (cell_of HV5.out 0).trans rfl
 have hw1 : w5.cell? ⟨g, 1, none⟩ = some (.pointer (some ⟨wg.heap.size + 2 + 2 * c, 0, none⟩)) := (cell_of HV5.out 1).trans rfl
 have hw2 : w5.cell? ⟨g, 2, none⟩ = some (.pointer pl) := (cell_of HV5.out 2).trans rfl
 have hw3 : w5.cell? ⟨g, 3, none⟩ = some (.pointer pr) := (cell_of HV5.out 3).trans rfl
 have hw4 : w5.cell? ⟨g, 4, none⟩ = some (.pointer pll) := (cell_of HV5.out 4).trans rfl
 have hw5 : w5.cell? ⟨g, 5, none⟩ = some (.pointer plr) := (cell_of HV5.out 5).trans rfl
 have hw6 : w5.cell? ⟨g, 6, none⟩ = some (.pointer prl) := (cell_of HV5.out 6).trans rfl
 have hw7 : w5.cell? ⟨g, 7, none⟩ = some (.pointer prr) := (cell_of HV5.out 7).trans rfl
 have hw8 : w5.cell? ⟨g, 8, none⟩ = some (.pointer pa) := (cell_of HV5.out 8).trans rfl
 have hw9 : w5.cell? ⟨g, 9, none⟩ = some (.pointer pb) := (cell_of HV5.out 9).trans rfl
 have hw10 : w5.cell? ⟨g, 10, none⟩ = some (.bool rt) := (cell_of HV5.out 10).trans rfl
 go_wp2_with (fail)
 refine (do_any (S := (fun k_ => (fun k_ => SetC wg.heap.size l0 c k_ ∧ k_ < w2.heap.size) k_ ∨ w5.heap.size ≤ k_)) mir rt (some ⟨wg.heap.size + 2 + 2 * c, 0, none⟩) pl pr pll plr prl prr pa pb X _ (fun _ hk_ => .inr hk_) ⟨(HRp.out.below H5.out).mono (fun _ hk_ => .inl hk_)⟩ ⟨(HRpl.out.below H5.out).mono (fun _ hk_ => .inl hk_)⟩ ⟨(HRpr.out.below H5.out).mono (fun _ hk_ => .inl hk_)⟩ ⟨(HRpll.out.below H5.out).mono (fun _ hk_ => .inl hk_)⟩ ⟨(HRplr.out.below H5.out).mono (fun _ hk_ => .inl hk_)⟩ ⟨(HRprl.out.below H5.out).mono (fun _ hk_ => .inl hk_)⟩ ⟨(HRprr.out.below H5.out).mono (fun _ hk_ => .inl hk_)⟩ ⟨(HRpa.out.below H5.out).mono (fun _ hk_ => .inl hk_)⟩ ⟨(HRpb.out.below H5.out).mono (fun _ hk_ => .inl hk_)⟩ kind HKD.out HXN.out HCAN.out).mono ?_
 rintro e w6 ⟨q, W6, rfl, h6a, h6b, h6c⟩
 have HB6 := Am ((HB5.out.trans (h6a.mono HB5.out.size)).trans (h6b.mono (Nat.le_trans HB5.out.size h6a.size)))
 have hge6 : w5.heap.size ≤ W6.heap.size := h6a.size
 have HTOP := Am h6c
 have HTB := Am h6b
 clear h6a h6b h6c hw0 hw1 hw2 hw3 hw4 hw5 hw6 hw7 hw8 hw9 hw10
 have hrf := HRF.out
 subst hrf
 obtain ⟨b6, n6, q6, L6, R6, vl6, vr6, hq6, hdo6, hge6b, hcl6, _, _, _⟩ := HTOP.out
 injection hq6 with hq6
 subst hq6
 have hcu6 : w6.cell? ⟨b6, 2, none⟩ = some (.int .i64 n6.f2) := (cell_of hcl6 2).trans rfl
 have hwt : wt (doT mir X kind) = n6.f2 := by rw [hdo6]; rfl
 have HREP := Am (HTOP.out.rep HTB.out)
 rw [hwt] at hbig
 clear hdo6 hcl6 hwt
 have HB7 := HB6
 have dbig : decide (1000000 < n6.f2) = false := decide_eq_false (by omega)
 clear hbig
 go_wp2
 have hf2 := forest2_start (forest_kept HFO.out HB7.out) c (some ⟨b6, 0, none⟩)
 have HF2 := Am hf2
 clear hf2
 have hfin := do_ok_fin w T1
 have HFIN := Am hfin
 clear hfin
 generalize w6 = w7 at HB7 HF2 HREP ⊢
 go_loopg [59] l0.length (fun gk vi wr => ∃ i : Nat, vi = .int .i64 (i : Int) ∧ i ≤ l0.length ∧ Aside0 (gk + i = l0.length) ∧ Aside0 (Forest2 wg wr l0 c (some ⟨b6, 0, none⟩) i) ∧ Aside0 (Rep (fun k_ => (fun k_ => SetC wg.heap.size l0 c k_ ∧ k_ < w2.heap.size) k_ ∨ w5.heap.size ≤ k_) wr (.pointer (some ⟨b6, 0, none⟩)) (doT mir X kind)))
 case atStart => exact ⟨0, rfl, Nat.zero_le _, ⟨by omega⟩, HF2, HREP⟩
 case round =>
  clear HF2 HREP
  obtain ⟨i, rfl, hil, HK, HF2, HREP⟩ := hrel
  have hpc : wr.cell? ⟨wg.heap.size, c, none⟩ = some (.pointer (some ⟨wg.heap.size + 2 + 2 * c, 0, none⟩)) := rowIs_cell HF2.out.ptrs c hcl
  by_cases hlt : i < l0.length
  ·have dlt : decide (i < l0.length) = true := decide_eq_true hlt
   have hpi : wr.cell? ⟨wg.heap.size, i, none⟩ = some (.pointer (some ⟨wg.heap.size + 2 + 2 * i, 0, none⟩)) := rowIs_cell HF2.out.ptrs i hlt
   have hni := HF2.out.nodes i hlt
   simp only [Nat.lt_irrefl, false_and, if_false] at hni
   have hf7 := frz_of hni 7
   have hf8 := frz_of hni 8
   have hc7 : wr.cell? ⟨wg.heap.size + 2 + 2 * i, 7, none⟩ = some (.pointer (lpV wg.heap.size l0 i)) := (cell_of hni 7).trans rfl
   have hc8 : wr.cell? ⟨wg.heap.size + 2 + 2 * i, 8, none⟩ = some (.pointer (rpV wg.heap.size l0 i)) := (cell_of hni 8).trans rfl
   clear hni
   by_cases h4 : 0 ≤ (l0.getD i z34).f4
   ·rw [lpV, if_pos h4, nb] at hc7
    rw [rpV, if_pos h4, nb] at hc8
    have hk := HT.out.kids i hlt h4
    have hnc := HF2.out.nodes c hcl
    have hnl := HF2.out.nodes (l0.getD i z34).f4.toNat (by omega)
    have hnr := HF2.out.nodes (l0.getD i z34).f5.toNat (by omega)
    have hes := eqp_same wr ⟨wg.heap.size + 2 + 2 * c, 0, none⟩
    by_cases el : (l0.getD i z34).f4.toNat = c
    ·have er : (l0.getD i z34).f5.toNat ≠ c := fun e_ => hk.2.2.2 (by omega)
     have hst := forest2_left HF2.out h4 el er
     have hrp := HREP.out.keptS (w' := wr.setCell ⟨wg.heap.size + 2 + 2 * i, 7, none⟩ (.pointer (some ⟨b6, 0, none⟩))) (fun k_ hk_ _ => Below.heap_setCell _ _ _ _ (by show k_ ≠ wg.heap.size + 2 + 2 * i; rcases hk_ with ⟨⟨j_, hj1, _, hj3⟩, _⟩ | hk_; rintro rfl; exact hj3 (by rw [show j_ = i by omega]; exact ⟨h4, .inl el⟩); have hz_ := (Array.getElem?_eq_some_iff.1 (HFO.out.nodes i hlt)).1; have hz2 := HB5.out.size; omega))
     have HST := Am hst
     have HRP := Am hrp
     rw [el] at hc7
     clear hst hrp hk er el h4 hc8 hnc hnl hnr
     go_wp2
     go_roundg (gk - 1)
     case measure => have := HK.out; omega
     case rel => exact ⟨i + 1, by go_num, by omega, ⟨by have := HK.out; omega⟩, HST, HRP⟩
    ·have hel := eqp_other wr (a := ⟨wg.heap.size + 2 + 2 * c, 0, none⟩) (b := ⟨wg.heap.size + 2 + 2 * (l0.getD i z34).f4.toNat, 0, none⟩) (fun e_ => by injection e_ with e_; omega) hnc hnl
     by_cases er : (l0.getD i z34).f5.toNat = c
     ·have hst := forest2_right HF2.out h4 el er
      have hrp := HREP.out.keptS (w' := wr.setCell ⟨wg.heap.size + 2 + 2 * i, 8, none⟩ (.pointer (some ⟨b6, 0, none⟩))) (fun k_ hk_ _ => Below.heap_setCell _ _ _ _ (by show k_ ≠ wg.heap.size + 2 + 2 * i; rcases hk_ with ⟨⟨j_, hj1, _, hj3⟩, _⟩ | hk_; rintro rfl; exact hj3 (by rw [show j_ = i by omega]; exact ⟨h4, .inr er⟩); have hz_ := (Array.getElem?_eq_some_iff.1 (HFO.out.nodes i hlt)).1; have hz2 := HB5.out.size; omega))
      have HST := Am hst
      have HRP := Am hrp
      rw [er] at hc8
      clear hst hrp hk h4 hnc hnl hnr er el
      generalize (l0.getD i z34).f4.toNat = cl at hc7 hel
      go_wp2
      go_roundg (gk - 1)
      case measure => have := HK.out; omega
      case rel => exact ⟨i + 1, by go_num, by omega, ⟨by have := HK.out; omega⟩, HST, HRP⟩
     ·have her := eqp_other wr (a := ⟨wg.heap.size + 2 + 2 * c, 0, none⟩) (b := ⟨wg.heap.size + 2 + 2 * (l0.getD i z34).f5.toNat, 0, none⟩) (fun e_ => by injection e_ with e_; omega) hnc hnr
      have hst := forest2_skip HF2.out (fun hc_ => by rcases hc_.2 with e_ | e_; exact el e_; exact er e_)
      have HST := Am hst
      clear hst hk h4 el er hnc hnl hnr
      generalize (l0.getD i z34).f4.toNat = cl at hc7 hel
      generalize (l0.getD i z34).f5.toNat = cr at hc8 her
      go_wp2
      go_roundg (gk - 1)
      case measure => have := HK.out; omega
      case rel => exact ⟨i + 1, by go_num, by omega, ⟨by have := HK.out; omega⟩, HST, HREP⟩
   ·rw [lpV, if_neg h4] at hc7
    rw [rpV, if_neg h4] at hc8
    have hst := forest2_skip HF2.out (fun hc_ => h4 hc_.1)
    have HST := Am hst
    clear hst h4
    go_wp2
    go_roundg (gk - 1)
    case measure => have := HK.out; omega
    case rel => exact ⟨i + 1, by go_num, by omega, ⟨by have := HK.out; omega⟩, HST, HREP⟩
  ·obtain rfl : i = l0.length := by omega
   have dlt : decide (l0.length < l0.length) = false := decide_eq_false (Nat.lt_irrefl _)
   have hp0 : wr.cell? ⟨wg.heap.size, 0, none⟩ = some (.pointer (some ⟨wg.heap.size + 2 + 2 * 0, 0, none⟩)) := rowIs_cell HF2.out.ptrs 0 (by omega)
   have h0l : 0 < l0.length := by omega
   clear hlt hpc
   go_wp2_with (fail)
   refine (flat_any _ T1 _ (rep_repl HF2.out HREP.out K1 0 T1 HT1.out) HFULL.out HSZ.out).mono ?_
   rintro e w8 ⟨v8, rfl, h8a, h8b⟩
   have HFP := Am (HFIN.out wg wr v8 w8 HBW.out HF2.out.bel ⟨v8, rfl, h8a, h8b⟩)
   obtain ⟨A8, c8, rfl⟩ := Kd.R_slice h8a
   clear h8a h8b
   go_wp2
   go_ret2
   exact HFP.out
end Go.Proofs.Ytgleaefhflamnaa.T
namespace Go.Proofs.Ytgleaefhflamnaa.T
open Go.RowKit Go.Proofs.YtgleaefhflamnaaW.PrintWords Go.Proofs.YtgleaefhflamnaaW.PrintLast Go.Proofs.YtgleaefhflamnaaW.PrintMore
set_option maxHeartbeats 8000000 in
set_option maxRecDepth 100000 in
theorem do_ok1 (k : Nat) (A0 : Option Addr) (c0 : Nat) (l0 : List S34) (c : Nat) (kind : Int) (mir : Bool) (r1 : Int) (r2 : List Bool) (w : World) (hr0 : Kd.C k34 w A0 l0.length l0) (hc0 : l0.length ≤ c0)
  (h : steps_keys.f k l0 = some (r1, r2, 0)) (hm : steps_Move_is.f kind mir = some true) (hkd : 1 ≤ kind ∧ kind ≤ 12) (hp1 : (c : Int) < l0.length) (hp2 : (c : Int) < r2.length) (hbel : rdOf false r2 c = true) (ht : OkT l0) (K : Nat) (X : Tr) (hX : mkT l0 K c = some X) (rt : Bool) (hrt : ((c : Int) == r1) = rt) (hrf : rt = true) (hcan : canT mir rt X kind = true) (K1 : Nat) (T1 : Tr) (hT1 : mkR l0 c (setW (doT mir X kind) 1) K1 0 = some T1) (hfull : Full T1) (hsz : sizeT T1 ≤ 1000000) :
  Calls Try.prog 30 #[.slice A0 l0.length c0, .int .i64 c, .agg #[.int .i64 kind, .bool mir]] w fun e w' => DoOK w (flatT T1 0) e w' := by
 have HCAN := Am hcan
 clear hcan
 have HT1 := Am hT1
 have HFULL := Am hfull
 have HSZ := Am hsz
 clear hT1 hfull hsz
 have hxn : X ≠ .nil := by rintro rfl; exact mkT_nil hX
 have HXN := Am hxn
 clear hxn
 have HRF := Am hrf
 clear hrf
 have hu62 := Try.underlying62
 have hu111 := Try.underlying111
 have hu116 := Try.underlying116
 have hu34 := Try.underlying34
 have HR := Am hr0
 have HC := Am hc0
 have H := Am h
 have HM := Am hm
 have HT := Am ht
 have HX := Am hX
 have HKD := Am hkd
 have HBEL := Am hbel
 have hlen : l0.length ≤ 100000 := ht.len
 have hcl : c < l0.length := by omega
 clear hr0 hc0 h hm ht hX hkd hbel
 go_enter Try.func30, Try.ntmps30
 go_wp2_with (fail)
 refine (at_okt k A0 c0 l0 c kind mir r1 r2 _ (Kd.C_below HR.out ((Below.refl _ _).alloc (Nat.le_refl _) _)) HC.out H.out (fun _ => HM.out) (by omega) hp1 hp2 HBEL.out (by omega) (fun i hi h4 => ⟨(HT.out.kids i hi h4).1, (HT.out.kids i hi h4).2.1, (HT.out.kids i hi h4).2.2.1⟩)).mono ?_
 rintro e w2 ⟨wg, rfl, hbg, hfo⟩
 have hbw : Below w.heap.size w wg := ((Below.refl _ _).alloc (Nat.le_refl _) _).trans (hbg.mono (by simp))
 have hg0 : w.heap.size < wg.heap.size := by have h_ := hbg.size; simp at h_; omega
 have hbx0 : wg.cell? ⟨w.heap.size, 0, none⟩ = some (.int .i64 kind) := (hbg.cell (p := ⟨w.heap.size, 0, none⟩) (by simp)).trans (World.cell?_alloc_at _ _ _ _ rfl)
 have hbx1 : wg.cell? ⟨w.heap.size, 1, none⟩ = some (.bool mir) := (hbg.cell (p := ⟨w.heap.size, 1, none⟩) (by simp)).trans (World.cell?_alloc_at _ _ _ _ rfl)
 have HBW := Am hbw
 have HFO := Am hfo
 have HX0 := Am hbx0
 have HX1 := Am hbx1
 have HRX : Aside0 (Rep (fun k_ => SetC wg.heap.size l0 c k_ ∧ k_ < w2.heap.size) w2 (.pointer (some ⟨wg.heap.size + 2 + 2 * c, 0, none⟩)) X) := ⟨(forest_rep hfo HX.out K c X HX.out (Nat.le_refl _)).bound⟩
 have hg2 : wg.heap.size < w2.heap.size := rowIs_lt hfo.ptrs
 have hpc : w2.drew.cell? ⟨wg.heap.size, c, none⟩ = some (.pointer (some ⟨wg.heap.size + 2 + 2 * c, 0, none⟩)) := (rowIs_cell hfo.ptrs c hcl).trans (by rw [if_pos hcl]; rfl)
 have hb0 : w2.drew.cell? ⟨w.heap.size, 0, none⟩ = some (.int .i64 kind) := (hfo.bel.cell (p := ⟨w.heap.size, 0, none⟩) hg0).trans hbx0
 have hb1 : w2.drew.cell? ⟨w.heap.size, 1, none⟩ = some (.bool mir) := (hfo.bel.cell (p := ⟨w.heap.size, 1, none⟩) hg0).trans hbx1
 clear hbg hbw hfo hbx0 hbx1
 go_wp2
 have HPC := Am hpc
 have HB0 := Am hb0
 have HB1 := Am hb1
 refine start_ (n := 11) (S := fun w' => w'.cell? ⟨wg.heap.size, c, none⟩ = some (.pointer (some ⟨wg.heap.size + 2 + 2 * c, 0, none⟩)) ∧ w'.cell? ⟨w.heap.size, 0, none⟩ = some (.int .i64 kind) ∧ w'.cell? ⟨w.heap.size, 1, none⟩ = some (.bool mir)) (ds := [10]) #[false, false, false, false, false, false, false, false, false, false, false] (by kernel_rfl) rfl rfl ⟨hpc, hb0, hb1⟩ (fun hHeld => ?_)
 refine pu 0 26 ?_
 refine pu 1 27 ?_
 refine pu 2 28 ?_
 refine pu 5 31 ?_
 refine pu 6 32 ?_
 refine pu 7 33 ?_
 refine ta 3 29 hHeld ?_
 refine ta 4 30 hHeld ?_
 refine join_ (σ := Nat × Option Addr × Option Addr × Option Addr × Option Addr × Option Addr × Option Addr × Option Addr × Option Addr) 1 #[true, true, true, true, true, true, true, true, true, true, false] (fun s => [(34, .agg #[.bool mir, .pointer (some ⟨wg.heap.size + 2 + 2 * c, 0, none⟩), .pointer s.2.1, .pointer s.2.2.1, .pointer s.2.2.2.1, .pointer s.2.2.2.2.1, .pointer s.2.2.2.2.2.1, .pointer s.2.2.2.2.2.2.1, .pointer s.2.2.2.2.2.2.2.1, .pointer s.2.2.2.2.2.2.2.2, .bool rt]), (11, .pointer (some ⟨s.1, 0, none⟩))]) (fun s w' => Below w2.heap.size w2 w' ∧ w2.heap.size ≤ s.1 ∧ w'.heap[s.1]? = some (.cells #[.bool false, .pointer none, .pointer none, .pointer none, .pointer none, .pointer none, .pointer none, .pointer none, .pointer none, .pointer none, .bool false] 111 (0, 0)) ∧ Rep (fun k_ => SetC wg.heap.size l0 c k_ ∧ k_ < w2.heap.size) w' (.pointer s.2.1) (lT mir X) ∧ Rep (fun k_ => SetC wg.heap.size l0 c k_ ∧ k_ < w2.heap.size) w' (.pointer s.2.2.1) (rT mir X) ∧ Rep (fun k_ => SetC wg.heap.size l0 c k_ ∧ k_ < w2.heap.size) w' (.pointer s.2.2.2.1) (lT mir (lT mir X)) ∧ Rep (fun k_ => SetC wg.heap.size l0 c k_ ∧ k_ < w2.heap.size) w' (.pointer s.2.2.2.2.1) (rT mir (lT mir X)) ∧ Rep (fun k_ => SetC wg.heap.size l0 c k_ ∧ k_ < w2.heap.size) w' (.pointer s.2.2.2.2.2.1) (lT mir (rT mir X)) ∧ Rep (fun k_ => SetC wg.heap.size l0 c k_ ∧ k_ < w2.heap.size) w' (.pointer s.2.2.2.2.2.2.1) (rT mir (rT mir X)) ∧ Rep (fun k_ => SetC wg.heap.size l0 c k_ ∧ k_ < w2.heap.size) w' (.pointer s.2.2.2.2.2.2.2.1) (lT mir (lT mir (rT mir X))) ∧ Rep (fun k_ => SetC wg.heap.size l0 c k_ ∧ k_ < w2.heap.size) w' (.pointer s.2.2.2.2.2.2.2.2) (rT mir (lT mir (rT mir X)))) ?_ ?_
 rotate_left
 ·intro hCont
  refine two_ (i := 8) (j := 9) (Ni := some 34) (Nj := some 11) #[true, true, true, true, true, true, true, true, true, false, false] #[true, true, true, true, true, true, true, true, false, true, false] rfl rfl rfl rfl (by kernel_rfl) (by decide) (by decide) (fun K hK => ?_) (fun K hK => ?_)
  ·skip
   refine goes_ Try.func63 (by kernel_rfl) rfl #[.pointer (some ⟨wg.heap.size + 2 + 2 * c, 0, none⟩), .agg #[.int .i64 kind, .bool mir], .bool rt] (by rfl) rfl rfl (by (try simp only [List.map_toArray, List.map_cons, List.map_nil]); first | done | rfl) ?_
   with_reducible refine (look_any (S := (fun k_ => SetC wg.heap.size l0 c k_ ∧ k_ < w2.heap.size)) _ X _ _ _ _ (by first | exact HRX.out.below ((Below.refl _ _).drew) | exact HRX.out.below HBA.out)).mono ?_
   rintro e wL ⟨pl, pr, pll, plr, prl, prr, pa, pb, rfl, hLb, r1, r2, r3, r4, r5, r6, r7, r8⟩
   refine ⟨_, rfl, ?_⟩
   refine hK.out _ _ ⟨(hLb.cell (blt _ _ hHeld.1)).trans hHeld.1, (hLb.cell (blt _ _ hHeld.2.1)).trans hHeld.2.1, (hLb.cell (blt _ _ hHeld.2.2)).trans hHeld.2.2⟩ (fun hHeld => ?_)
   clear hK K
   refine norm_ (a' := ?_) ?_ ?_
   rotate_left
   ·show Act.put _ (some 34) _ = _
    simp only [Act.put, sI, sZ, sS, i64_w, i32_w]
    rfl
   refine one_ (i := 9) (N := some 11) #[true, true, true, true, true, true, true, true, true, true, false] rfl rfl (by kernel_rfl) (by decide) (fun K hK => ?_)
   refine box_step (by rfl) (N := 11) rfl (cs := #[.bool false, .pointer none, .pointer none, .pointer none, .pointer none, .pointer none, .pointer none, .pointer none, .pointer none, .pointer none, .bool false]) (t := 111) ?hr ?_
   case hr => first | (go_simp; done) | (go_simp; rfl)
   intro g hg wA hbox hbA
   have hgs : w2.heap.size ≤ g := by rw [hg]; exact hLb.size
   refine hK.out _ _ ⟨(hbA.cell (blt _ _ hHeld.1)).trans hHeld.1, (hbA.cell (blt _ _ hHeld.2.1)).trans hHeld.2.1, (hbA.cell (blt _ _ hHeld.2.2)).trans hHeld.2.2⟩ (fun hHeld => ?_)
   clear hK K
   refine norm_ (a' := ?_) ?_ ?_
   rotate_left
   ·show Act.put _ (some 11) _ = _
    simp only [Act.put, sI, sZ, sS, i64_w, i32_w]
    rfl
   exact norm_ (by simp only [putAll, Act.put, sI, sZ, sS]) (hCont (g, pl, pr, pll, plr, prl, prr, pa, pb) _ ⟨((Below.refl w2.heap.size w2).drew.trans (hLb.mono (Nat.le_refl _))).trans (hbA.mono hLb.size), hgs, hbox, (r1.below hLb).below hbA, (r2.below hLb).below hbA, (r3.below hLb).below hbA, (r4.below hLb).below hbA, (r5.below hLb).below hbA, (r6.below hLb).below hbA, (r7.below hLb).below hbA, (r8.below hLb).below hbA⟩)
  ·skip
   refine box_step (by rfl) (N := 11) rfl (cs := #[.bool false, .pointer none, .pointer none, .pointer none, .pointer none, .pointer none, .pointer none, .pointer none, .pointer none, .pointer none, .bool false]) (t := 111) ?hr ?_
   case hr => first | (go_simp; done) | (go_simp; rfl)
   intro g hg wA hbox hbA
   have HBA := Am (((Below.refl w2.heap.size w2).drew).trans (hbA.mono (Nat.le_refl _)))
   have hgs : w2.heap.size ≤ g := by rw [hg]; exact Nat.le_refl _
   refine hK.out _ _ ⟨(hbA.cell (blt _ _ hHeld.1)).trans hHeld.1, (hbA.cell (blt _ _ hHeld.2.1)).trans hHeld.2.1, (hbA.cell (blt _ _ hHeld.2.2)).trans hHeld.2.2⟩ (fun hHeld => ?_)
   clear hK K
   refine norm_ (a' := ?_) ?_ ?_
   rotate_left
   ·show Act.put _ (some 11) _ = _
    simp only [Act.put, sI, sZ, sS, i64_w, i32_w]
    rfl
   refine one_ (i := 8) (N := some 34) #[true, true, true, true, true, true, true, true, true, true, false] rfl rfl (by kernel_rfl) (by decide) (fun K hK => ?_)
   refine goes_ Try.func63 (by kernel_rfl) rfl #[.pointer (some ⟨wg.heap.size + 2 + 2 * c, 0, none⟩), .agg #[.int .i64 kind, .bool mir], .bool rt] (by rfl) rfl rfl (by (try simp only [List.map_toArray, List.map_cons, List.map_nil]); first | done | rfl) ?_
   with_reducible refine (look_any (S := (fun k_ => SetC wg.heap.size l0 c k_ ∧ k_ < w2.heap.size)) _ X _ _ _ _ (by first | exact HRX.out.below ((Below.refl _ _).drew) | exact HRX.out.below HBA.out)).mono ?_
   rintro e wL ⟨pl, pr, pll, plr, prl, prr, pa, pb, rfl, hLb, r1, r2, r3, r4, r5, r6, r7, r8⟩
   refine ⟨_, rfl, ?_⟩
   refine hK.out _ _ ⟨(hLb.cell (blt _ _ hHeld.1)).trans hHeld.1, (hLb.cell (blt _ _ hHeld.2.1)).trans hHeld.2.1, (hLb.cell (blt _ _ hHeld.2.2)).trans hHeld.2.2⟩ (fun hHeld => ?_)
   clear hK K
   refine norm_ (a' := ?_) ?_ ?_
   rotate_left
   ·show Act.put _ (some 34) _ = _
    simp only [Act.put, sI, sZ, sS, i64_w, i32_w]
    rfl
   exact norm_ (by simp only [putAll, Act.put, sI, sZ, sS]) (hCont (g, pl, pr, pll, plr, prl, prr, pa, pb) _ ⟨HBA.out.trans (hLb.mono hbA.size), hgs, (hLb.block _ (Array.getElem?_eq_some_iff.1 hbox).1).trans hbox, r1.below hLb, r2.below hLb, r3.below hLb, r4.below hLb, r5.below hLb, r6.below hLb, r7.below hLb, r8.below hLb⟩)
 rintro ⟨g, pl, pr, pll, plr, prl, prr, pa, pb⟩ w3 ⟨hF1, hF2, hF3, y1, y2, y3, y4, y5, y6, y7, y8⟩
 replace hF2 : w2.heap.size ≤ g := hF2
 replace hF3 : w3.heap[g]? = some (.cells #[.bool false, .pointer none, .pointer none, .pointer none, .pointer none, .pointer none, .pointer none, .pointer none, .pointer none, .pointer none, .bool false] 111 (0, 0)) := hF3
 have HY1 : Aside0 (Rep (fun k_ => SetC wg.heap.size l0 c k_ ∧ k_ < w2.heap.size) w3 (.pointer pl) (lT mir X)) := ⟨y1⟩
 have HY2 : Aside0 (Rep (fun k_ => SetC wg.heap.size l0 c k_ ∧ k_ < w2.heap.size) w3 (.pointer pr) (rT mir X)) := ⟨y2⟩
 have HY3 : Aside0 (Rep (fun k_ => SetC wg.heap.size l0 c k_ ∧ k_ < w2.heap.size) w3 (.pointer pll) (lT mir (lT mir X))) := ⟨y3⟩
 have HY4 : Aside0 (Rep (fun k_ => SetC wg.heap.size l0 c k_ ∧ k_ < w2.heap.size) w3 (.pointer plr) (rT mir (lT mir X))) := ⟨y4⟩
 have HY5 : Aside0 (Rep (fun k_ => SetC wg.heap.size l0 c k_ ∧ k_ < w2.heap.size) w3 (.pointer prl) (lT mir (rT mir X))) := ⟨y5⟩
 have HY6 : Aside0 (Rep (fun k_ => SetC wg.heap.size l0 c k_ ∧ k_ < w2.heap.size) w3 (.pointer prr) (rT mir (rT mir X))) := ⟨y6⟩
 have HY7 : Aside0 (Rep (fun k_ => SetC wg.heap.size l0 c k_ ∧ k_ < w2.heap.size) w3 (.pointer pa) (lT mir (lT mir (rT mir X)))) := ⟨y7⟩
 have HY8 : Aside0 (Rep (fun k_ => SetC wg.heap.size l0 c k_ ∧ k_ < w2.heap.size) w3 (.pointer pb) (rT mir (lT mir (rT mir X)))) := ⟨y8⟩
 have hHeld : w3.cell? ⟨wg.heap.size, c, none⟩ = some (.pointer (some ⟨wg.heap.size + 2 + 2 * c, 0, none⟩)) ∧ w3.cell? ⟨w.heap.size, 0, none⟩ = some (.int .i64 kind) ∧ w3.cell? ⟨w.heap.size, 1, none⟩ = some (.bool mir) := ⟨(hF1.cell (p := ⟨wg.heap.size, c, none⟩) hg2).trans HPC.out, (hF1.cell (p := ⟨w.heap.size, 0, none⟩) (Nat.lt_trans hg0 hg2)).trans HB0.out, (hF1.cell (p := ⟨w.heap.size, 1, none⟩) (Nat.lt_trans hg0 hg2)).trans HB1.out⟩
 have hz0 : w3.cell? ⟨g, 0, none⟩ = some (.bool false) := (cell_of hF3 0).trans rfl
 have hz1 : w3.cell? ⟨g, 1, none⟩ = some (.pointer none) := (cell_of hF3 1).trans rfl
 have hz2 : w3.cell? ⟨g, 2, none⟩ = some (.pointer none) := (cell_of hF3 2).trans rfl
 have hz3 : w3.cell? ⟨g, 3, none⟩ = some (.pointer none) := (cell_of hF3 3).trans rfl
 have hz4 : w3.cell? ⟨g, 4, none⟩ = some (.pointer none) := (cell_of hF3 4).trans rfl
 have hz5 : w3.cell? ⟨g, 5, none⟩ = some (.pointer none) := (cell_of hF3 5).trans rfl
 have hz6 : w3.cell? ⟨g, 6, none⟩ = some (.pointer none) := (cell_of hF3 6).trans rfl
 have hz7 : w3.cell? ⟨g, 7, none⟩ = some (.pointer none) := (cell_of hF3 7).trans rfl
 have hz8 : w3.cell? ⟨g, 8, none⟩ = some (.pointer none) := (cell_of hF3 8).trans rfl
 have hz9 : w3.cell? ⟨g, 9, none⟩ = some (.pointer none) := (cell_of hF3 9).trans rfl
 have hz10 : w3.cell? ⟨g, 10, none⟩ = some (.bool false) := (cell_of hF3 10).trans rfl
 have hfz0 := frz_of hF3 0
 have hfz1 := frz_of hF3 1
 have hfz2 := frz_of hF3 2
 have hfz3 := frz_of hF3 3
 have hfz4 := frz_of hF3 4
 have hfz5 := frz_of hF3 5
 have hfz6 := frz_of hF3 6
 have hfz7 := frz_of hF3 7
 have hfz8 := frz_of hF3 8
 have hfz9 := frz_of hF3 9
 have hfz10 := frz_of hF3 10
 have HF1 := Am hF1
 have HF3 := Am hF3
 clear hF1 hF3 y1 y2 y3 y4 y5 y6 y7 y8
 refine norm_ (a' := ?_) ?_ ?_
 rotate_left
 ·simp only [putAll, Act.put, sI, sZ, sS]
  rfl
 refine last_ (i := 10) (N := none) #[true, true, true, true, true, true, true, true, true, true, true] rfl rfl (by kernel_rfl) (by decide) (fun K hK => ?_)
 refine skip_ (w1 := ?_) (by rfl) rfl ?_ ?_
 rotate_left
 ·go_simp
  rfl
 refine hK.out _ _ ?_
 clear hK K
 refine done_ (by kernel_rfl) ?_
 try clear hHeld
 have hV := put11 HF3.out (.bool mir) (.pointer (some ⟨wg.heap.size + 2 + 2 * c, 0, none⟩)) (.pointer pl) (.pointer pr) (.pointer pll) (.pointer plr) (.pointer prl) (.pointer prr) (.pointer pa) (.pointer pb) (.bool rt)
 have hB := below11 HF1.out hF2 (.bool mir) (.pointer (some ⟨wg.heap.size + 2 + 2 * c, 0, none⟩)) (.pointer pl) (.pointer pr) (.pointer pll) (.pointer plr) (.pointer prl) (.pointer prr) (.pointer pa) (.pointer pb) (.bool rt)
 have hK : ∀ k_, k_ < w2.heap.size → (((((((((((w3.setCell ⟨g, 0, none⟩ (.bool mir)).setCell ⟨g, 1, none⟩ (.pointer (some ⟨wg.heap.size + 2 + 2 * c, 0, none⟩))).setCell ⟨g, 2, none⟩ (.pointer pl)).setCell ⟨g, 3, none⟩ (.pointer pr)).setCell ⟨g, 4, none⟩ (.pointer pll)).setCell ⟨g, 5, none⟩ (.pointer plr)).setCell ⟨g, 6, none⟩ (.pointer prl)).setCell ⟨g, 7, none⟩ (.pointer prr)).setCell ⟨g, 8, none⟩ (.pointer pa)).setCell ⟨g, 9, none⟩ (.pointer pb)).setCell ⟨g, 10, none⟩ (.bool rt)).heap[k_]? = w3.heap[k_]? := fun k_ hk_ => setc11 (by omega) (.bool mir) (.pointer (some ⟨wg.heap.size + 2 + 2 * c, 0, none⟩)) (.pointer pl) (.pointer pr) (.pointer pll) (.pointer plr) (.pointer prl) (.pointer prr) (.pointer pa) (.pointer pb) (.bool rt)
 clear hz0 hfz0 hz1 hfz1 hz2 hfz2 hz3 hfz3 hz4 hfz4 hz5 hfz5 hz6 hfz6 hz7 hfz7 hz8 hfz8 hz9 hfz9 hz10 hfz10 HF3 HF1
 generalize (((((((((((w3.setCell ⟨g, 0, none⟩ (.bool mir)).setCell ⟨g, 1, none⟩ (.pointer (some ⟨wg.heap.size + 2 + 2 * c, 0, none⟩))).setCell ⟨g, 2, none⟩ (.pointer pl)).setCell ⟨g, 3, none⟩ (.pointer pr)).setCell ⟨g, 4, none⟩ (.pointer pll)).setCell ⟨g, 5, none⟩ (.pointer plr)).setCell ⟨g, 6, none⟩ (.pointer prl)).setCell ⟨g, 7, none⟩ (.pointer prr)).setCell ⟨g, 8, none⟩ (.pointer pa)).setCell ⟨g, 9, none⟩ (.pointer pb)).setCell ⟨g, 10, none⟩ (.bool rt)) = w4 at hV hB hK ⊢
 have HRpl := Am (HY1.out.keptS (w' := w4) (fun k_ hk_ _ => hK k_ hk_.2))
 have HRpr := Am (HY2.out.keptS (w' := w4) (fun k_ hk_ _ => hK k_ hk_.2))
 have HRpll := Am (HY3.out.keptS (w' := w4) (fun k_ hk_ _ => hK k_ hk_.2))
 have HRplr := Am (HY4.out.keptS (w' := w4) (fun k_ hk_ _ => hK k_ hk_.2))
 have HRprl := Am (HY5.out.keptS (w' := w4) (fun k_ hk_ _ => hK k_ hk_.2))
 have HRprr := Am (HY6.out.keptS (w' := w4) (fun k_ hk_ _ => hK k_ hk_.2))
 have HRpa := Am (HY7.out.keptS (w' := w4) (fun k_ hk_ _ => hK k_ hk_.2))
 have HRpb := Am (HY8.out.keptS (w' := w4) (fun k_ hk_ _ => hK k_ hk_.2))
 have HRp := Am (HRX.out.below hB)
 have HV := Am hV
 have HB := Am hB
 clear HY1 HY2 HY3 HY4 HY5 HY6 HY7 HY8 hK
 have hk0 : w4.cell? ⟨w.heap.size, 0, none⟩ = some (.int .i64 kind) := (hB.cell (p := ⟨w.heap.size, 0, none⟩) (Nat.lt_trans hg0 hg2)).trans HB0.out
 have HK0 := Am hk0
 have hv0 : w4.cell? ⟨g, 0, none⟩ = some (.bool mir) := (cell_of hV 0).trans rfl
 have hv1 : w4.cell? ⟨g, 1, none⟩ = some (.pointer (some ⟨wg.heap.size + 2 + 2 * c, 0, none⟩)) := (cell_of hV 1).trans rfl
 have hv2 : w4.cell? ⟨g, 2, none⟩ = some (.pointer pl) := (cell_of hV 2).trans rfl
 have hv3 : w4.cell? ⟨g, 3, none⟩ = some (.pointer pr) := (cell_of hV 3).trans rfl
 have hv4 : w4.cell? ⟨g, 4, none⟩ = some (.pointer pll) := (cell_of hV 4).trans rfl
 have hv5 : w4.cell? ⟨g, 5, none⟩ = some (.pointer plr) := (cell_of hV 5).trans rfl
 have hv6 : w4.cell? ⟨g, 6, none⟩ = some (.pointer prl) := (cell_of hV 6).trans rfl
 have hv7 : w4.cell? ⟨g, 7, none⟩ = some (.pointer prr) := (cell_of hV 7).trans rfl
 have hv8 : w4.cell? ⟨g, 8, none⟩ = some (.pointer pa) := (cell_of hV 8).trans rfl
 have hv9 : w4.cell? ⟨g, 9, none⟩ = some (.pointer pb) := (cell_of hV 9).trans rfl
 have hv10 : w4.cell? ⟨g, 10, none⟩ = some (.bool rt) := (cell_of hV 10).trans rfl
 clear hV hB HPC HB0 HB1
 go_wp2_with (fail)
 refine (can_any mir rt (some ⟨wg.heap.size + 2 + 2 * c, 0, none⟩) pl pr pll plr prl prr pa pb X _ HRp HRpl HRpr HRpll HRplr HRprl HRprr HRpa HRpb kind HKD.out).mono ?_
 rw [HCAN.out]
 rintro e w5 ⟨rfl, h5⟩
 have HB5 := Am (HB.out.trans (h5.mono HB.out.size))
 have H5 := Am h5
 have HV5 := Am ((h5.block _ (Array.getElem?_eq_some_iff.1 HV.out).1).trans HV.out)
 have hk5 := (h5.cell (blt _ _ HK0.out)).trans HK0.out
 clear h5 hv0 hv1 hv2 hv3 hv4 hv5 hv6 hv7 hv8 hv9 hv10 hk0 HV
 have hw0 : w5.cell? ⟨g, 0, none⟩ = some (.bool mir) := (cell_of HV5.out 0).trans rfl
 have hw1 : w5.cell? ⟨g, 1, none⟩ = some (.pointer (some ⟨wg.heap.size + 2 + 2 * c, 0, none⟩)) := (cell_of HV5.out 1).trans rfl
 have hw2 : w5.cell? ⟨g, 2, none⟩ = some (.pointer pl) := (cell_of HV5.out 2).trans rfl
 have hw3 : w5.cell? ⟨g, 3, none⟩ = some (.pointer pr) := (cell_of HV5.out 3).trans rfl
 have hw4 : w5.cell? ⟨g, 4, none⟩ = some (.pointer pll) := (cell_of HV5.out 4).trans rfl
 have hw5 : w5.cell? ⟨g, 5, none⟩ = some (.pointer plr) := (cell_of HV5.out 5).trans rfl
 have hw6 : w5.cell? ⟨g, 6, none⟩ = some (.pointer prl) := (cell_of HV5.out 6).trans rfl
 have hw7 : w5.cell? ⟨g, 7, none⟩ = some (.pointer prr) := (cell_of HV5.out 7).trans rfl
 have hw8 : w5.cell? ⟨g, 8, none⟩ = some (.pointer pa) := (cell_of HV5.out 8).trans rfl
 have hw9 : w5.cell? ⟨g, 9, none⟩ = some (.pointer pb) := (cell_of HV5.out 9).trans rfl
 have hw10 : w5.cell? ⟨g, 10, none⟩ = some (.bool rt) := (cell_of HV5.out 10).trans rfl
 go_wp2_with (fail)
 refine (do_any (S := (fun k_ => (fun k_ => SetC wg.heap.size l0 c k_ ∧ k_ < w2.heap.size) k_ ∨ w5.heap.size ≤ k_)) mir rt (some ⟨wg.heap.size + 2 + 2 * c, 0, none⟩) pl pr pll plr prl prr pa pb X _ (fun _ hk_ => .inr hk_) ⟨(HRp.out.below H5.out).mono (fun _ hk_ => .inl hk_)⟩ ⟨(HRpl.out.below H5.out).mono (fun _ hk_ => .inl hk_)⟩ ⟨(HRpr.out.below H5.out).mono (fun _ hk_ => .inl hk_)⟩ ⟨(HRpll.out.below H5.out).mono (fun _ hk_ => .inl hk_)⟩ ⟨(HRplr.out.below H5.out).mono (fun _ hk_ => .inl hk_)⟩ ⟨(HRprl.out.below H5.out).mono (fun _ hk_ => .inl hk_)⟩ ⟨(HRprr.out.below H5.out).mono (fun _ hk_ => .inl hk_)⟩ ⟨(HRpa.out.below H5.out).mono (fun _ hk_ => .inl hk_)⟩ ⟨(HRpb.out.below H5.out).mono (fun _ hk_ => .inl hk_)⟩ kind HKD.out HXN.out HCAN.out).mono ?_
 rintro e w6 ⟨q, W6, rfl, h6a, h6b, h6c⟩
 have HB6 := Am ((HB5.out.trans (h6a.mono HB5.out.size)).trans (h6b.mono (Nat.le_trans HB5.out.size h6a.size)))
 have hge6 : w5.heap.size ≤ W6.heap.size := h6a.size
 have HTOP := Am h6c
 have HTB := Am h6b
 clear h6a h6b h6c hw0 hw1 hw2 hw3 hw4 hw5 hw6 hw7 hw8 hw9 hw10
 have hrf := HRF.out
 subst hrf
 obtain ⟨b6, hq6, hb6, ⟨u6, hcu6⟩, hfu6, hrep6⟩ := top_set HTOP.out HTB.out 1
 injection hq6 with hq6
 subst hq6
 have HREP := Am hrep6
 clear hrep6
 have hge : w2.heap.size ≤ b6 := Nat.le_trans (Nat.le_trans HB5.out.size hge6) hb6
 have HB7 := Am (HB6.out.setCell (p := ⟨b6, 2, none⟩) hge (.int .i64 1))
 go_wp2
 have hf2 := forest2_start (forest_kept HFO.out HB7.out) c (some ⟨b6, 0, none⟩)
 have HF2 := Am hf2
 clear hf2
 have hfin := do_ok_fin w T1
 have HFIN := Am hfin
 clear hfin
 generalize (w6.setCell ⟨b6, 2, none⟩ (.int .i64 1)) = w7 at HB7 HF2 HREP ⊢
 go_loopg [59] l0.length (fun gk vi wr => ∃ i : Nat, vi = .int .i64 (i : Int) ∧ i ≤ l0.length ∧ Aside0 (gk + i = l0.length) ∧ Aside0 (Forest2 wg wr l0 c (some ⟨b6, 0, none⟩) i) ∧ Aside0 (Rep (fun k_ => (fun k_ => SetC wg.heap.size l0 c k_ ∧ k_ < w2.heap.size) k_ ∨ w5.heap.size ≤ k_) wr (.pointer (some ⟨b6, 0, none⟩)) (setW (doT mir X kind) 1)))
 case atStart => exact ⟨0, rfl, Nat.zero_le _, ⟨by omega⟩, HF2, HREP⟩
 case round =>
  clear HF2 HREP
  obtain ⟨i, rfl, hil, HK, HF2, HREP⟩ := hrel
  have hpc : wr.cell? ⟨wg.heap.size, c, none⟩ = some (.pointer (some ⟨wg.heap.size + 2 + 2 * c, 0, none⟩)) := rowIs_cell HF2.out.ptrs c hcl
  by_cases hlt : i < l0.length
  ·have dlt : decide (i < l0.length) = true := decide_eq_true hlt
   have hpi : wr.cell? ⟨wg.heap.size, i, none⟩ = some (.pointer (some ⟨wg.heap.size + 2 + 2 * i, 0, none⟩)) := rowIs_cell HF2.out.ptrs i hlt
   have hni := HF2.out.nodes i hlt
   simp only [Nat.lt_irrefl, false_and, if_false] at hni
   have hf7 := frz_of hni 7
   have hf8 := frz_of hni 8
   have hc7 : wr.cell? ⟨wg.heap.size + 2 + 2 * i, 7, none⟩ = some (.pointer (lpV wg.heap.size l0 i)) := (cell_of hni 7).trans rfl
   have hc8 : wr.cell? ⟨wg.heap.size + 2 + 2 * i, 8, none⟩ = some (.pointer (rpV wg.heap.size l0 i)) := (cell_of hni 8).trans rfl
   clear hni
   by_cases h4 : 0 ≤ (l0.getD i z34).f4
   ·rw [lpV, if_pos h4, nb] at hc7
    rw [rpV, if_pos h4, nb] at hc8
    have hk := HT.out.kids i hlt h4
    have hnc := HF2.out.nodes c hcl
    have hnl := HF2.out.nodes (l0.getD i z34).f4.toNat (by omega)
    have hnr := HF2.out.nodes (l0.getD i z34).f5.toNat (by omega)
    have hes := eqp_same wr ⟨wg.heap.size + 2 + 2 * c, 0, none⟩
    by_cases el : (l0.getD i z34).f4.toNat = c
    ·have er : (l0.getD i z34).f5.toNat ≠ c := fun e_ => hk.2.2.2 (by omega)
     have hst := forest2_left HF2.out h4 el er
     have hrp := HREP.out.keptS (w' := wr.setCell ⟨wg.heap.size + 2 + 2 * i, 7, none⟩ (.pointer (some ⟨b6, 0, none⟩))) (fun k_ hk_ _ => Below.heap_setCell _ _ _ _ (by show k_ ≠ wg.heap.size + 2 + 2 * i; rcases hk_ with ⟨⟨j_, hj1, _, hj3⟩, _⟩ | hk_; rintro rfl; exact hj3 (by rw [show j_ = i by omega]; exact ⟨h4, .inl el⟩); have hz_ := (Array.getElem?_eq_some_iff.1 (HFO.out.nodes i hlt)).1; have hz2 := HB5.out.size; omega))
     have HST := Am hst
     have HRP := Am hrp
     rw [el] at hc7
     clear hst hrp hk er el h4 hc8 hnc hnl hnr
     go_wp2
     go_roundg (gk - 1)
     case measure => have := HK.out; omega
     case rel => exact ⟨i + 1, by go_num, by omega, ⟨by have := HK.out; omega⟩, HST, HRP⟩
    ·have hel := eqp_other wr (a := ⟨wg.heap.size + 2 + 2 * c, 0, none⟩) (b := ⟨wg.heap.size + 2 + 2 * (l0.getD i z34).f4.toNat, 0, none⟩) (fun e_ => by injection e_ with e_; omega) hnc hnl
     by_cases er : (l0.getD i z34).f5.toNat = c
     ·have hst := forest2_right HF2.out h4 el er
      have hrp := HREP.out.keptS (w' := wr.setCell ⟨wg.heap.size + 2 + 2 * i, 8, none⟩ (.pointer (some ⟨b6, 0, none⟩))) (fun k_ hk_ _ => Below.heap_setCell _ _ _ _ (by show k_ ≠ wg.heap.size + 2 + 2 * i; rcases hk_ with ⟨⟨j_, hj1, _, hj3⟩, _⟩ | hk_; rintro rfl; exact hj3 (by rw [show j_ = i by omega]; exact ⟨h4, .inr er⟩); have hz_ := (Array.getElem?_eq_some_iff.1 (HFO.out.nodes i hlt)).1; have hz2 := HB5.out.size; omega))
      have HST := Am hst
      have HRP := Am hrp
      rw [er] at hc8
      clear hst hrp hk h4 hnc hnl hnr er el
      generalize (l0.getD i z34).f4.toNat = cl at hc7 hel
      go_wp2
      go_roundg (gk - 1)
      case measure => have := HK.out; omega
      case rel => exact ⟨i + 1, by go_num, by omega, ⟨by have := HK.out; omega⟩, HST, HRP⟩
     ·have her := eqp_other wr (a := ⟨wg.heap.size + 2 + 2 * c, 0, none⟩) (b := ⟨wg.heap.size + 2 + 2 * (l0.getD i z34).f5.toNat, 0, none⟩) (fun e_ => by injection e_ with e_; omega) hnc hnr
      have hst := forest2_skip HF2.out (fun hc_ => by rcases hc_.2 with e_ | e_; exact el e_; exact er e_)
      have HST := Am hst
      clear hst hk h4 el er hnc hnl hnr
      generalize (l0.getD i z34).f4.toNat = cl at hc7 hel
      generalize (l0.getD i z34).f5.toNat = cr at hc8 her
      go_wp2
      go_roundg (gk - 1)
      case measure => have := HK.out; omega
      case rel => exact ⟨i + 1, by go_num, by omega, ⟨by have := HK.out; omega⟩, HST, HREP⟩
   ·rw [lpV, if_neg h4] at hc7
    rw [rpV, if_neg h4] at hc8
    have hst := forest2_skip HF2.out (fun hc_ => h4 hc_.1)
    have HST := Am hst
    clear hst h4
    go_wp2
    go_roundg (gk - 1)
    case measure => have := HK.out; omega
    case rel => exact ⟨i + 1, by go_num, by omega, ⟨by have := HK.out; omega⟩, HST, HREP⟩
  ·obtain rfl : i = l0.length := by omega
   have dlt : decide (l0.length < l0.length) = false := decide_eq_false (Nat.lt_irrefl _)
   have hp0 : wr.cell? ⟨wg.heap.size, 0, none⟩ = some (.pointer (some ⟨wg.heap.size + 2 + 2 * 0, 0, none⟩)) := rowIs_cell HF2.out.ptrs 0 (by omega)
   have h0l : 0 < l0.length := by omega
   clear hlt hpc
   go_wp2_with (fail)
   refine (flat_any _ T1 _ (rep_repl HF2.out HREP.out K1 0 T1 HT1.out) HFULL.out HSZ.out).mono ?_
   rintro e w8 ⟨v8, rfl, h8a, h8b⟩
   have HFP := Am (HFIN.out wg wr v8 w8 HBW.out HF2.out.bel ⟨v8, rfl, h8a, h8b⟩)
   obtain ⟨A8, c8, rfl⟩ := Kd.R_slice h8a
   clear h8a h8b
   go_wp2
   go_ret2
   exact HFP.out
end Go.Proofs.Ytgleaefhflamnaa.T
namespace Go.Proofs.Ytgleaefhflamnaa.T
open Go.RowKit Go.Proofs.YtgleaefhflamnaaW.PrintWords Go.Proofs.YtgleaefhflamnaaW.PrintLast Go.Proofs.YtgleaefhflamnaaW.PrintMore
set_option maxHeartbeats 8000000 in
set_option maxRecDepth 100000 in
theorem do_err1 (k : Nat) (A0 : Option Addr) (c0 : Nat) (l0 : List S34) (a1 kind : Int) (mir : Bool) (r1 : Int) (r2 : List Bool) (r3 : Int) (w : World) (hr0 : Kd.C k34 w A0 l0.length l0) (hc0 : l0.length ≤ c0)
  (h : steps_keys.f k l0 = some (r1, r2, r3)) (h3 : r3 ≠ 0) :
  Calls Try.prog 30 #[.slice A0 l0.length c0, .int .i64 a1, .agg #[.int .i64 kind, .bool mir]] w fun e w' => e = .returned (.tuple #[.slice none 0 0, .int .i64 r3]) ∧ Below w.heap.size w w' := by
 have hu62 := Try.underlying62
 have hu111 := Try.underlying111
 have hu116 := Try.underlying116
 have hu34 := Try.underlying34
 have HR := Am hr0
 have HC := Am hc0
 have d3 : (r3 != 0) = true := bne_iff_ne.mpr h3
 have H_h := Am h
 clear h
 have H_h3 := Am h3
 clear h3
 clear hr0 hc0
 go_enter Try.func30, Try.ntmps30
 go_wp2_with (fail)
 refine (at_err1 k A0 c0 l0 a1 kind mir true r1 r2 r3 _ (Kd.C_below HR.out ((Below.refl _ _).alloc (Nat.le_refl _) _)) HC.out H_h.out H_h3.out).mono ?_
 rintro e w2 ⟨rfl, hbg⟩
 have hbw : Below w.heap.size w w2 := ((Below.refl _ _).alloc (Nat.le_refl _) _).trans (hbg.mono (by simp))
 have HBW := Am hbw
 clear hbg hbw
 go_wp2
 go_ret2
 exact ⟨rfl, HBW.out⟩
set_option maxHeartbeats 8000000 in
set_option maxRecDepth 100000 in
theorem do_err2 (k : Nat) (A0 : Option Addr) (c0 : Nat) (l0 : List S34) (a1 kind : Int) (mir : Bool) (r1 : Int) (r2 : List Bool) (w : World) (hr0 : Kd.C k34 w A0 l0.length l0) (hc0 : l0.length ≤ c0)
  (h : steps_keys.f k l0 = some (r1, r2, 0)) (hm : steps_Move_is.f kind mir = some false) :
  Calls Try.prog 30 #[.slice A0 l0.length c0, .int .i64 a1, .agg #[.int .i64 kind, .bool mir]] w fun e w' => e = .returned (.tuple #[.slice none 0 0, .int .i64 5]) ∧ Below w.heap.size w w' := by
 have hu62 := Try.underlying62
 have hu111 := Try.underlying111
 have hu116 := Try.underlying116
 have hu34 := Try.underlying34
 have HR := Am hr0
 have HC := Am hc0
 have H_h := Am h
 clear h
 have H_hm := Am hm
 clear hm
 clear hr0 hc0
 go_enter Try.func30, Try.ntmps30
 go_wp2_with (fail)
 refine (at_err2 k A0 c0 l0 a1 kind mir r1 r2 _ (Kd.C_below HR.out ((Below.refl _ _).alloc (Nat.le_refl _) _)) HC.out H_h.out H_hm.out).mono ?_
 rintro e w2 ⟨rfl, hbg⟩
 have hbw : Below w.heap.size w w2 := ((Below.refl _ _).alloc (Nat.le_refl _) _).trans (hbg.mono (by simp))
 have HBW := Am hbw
 clear hbg hbw
 go_wp2
 go_ret2
 exact ⟨rfl, HBW.out⟩
set_option maxHeartbeats 8000000 in
set_option maxRecDepth 100000 in
theorem do_err3 (k : Nat) (A0 : Option Addr) (c0 : Nat) (l0 : List S34) (a1 kind : Int) (mir : Bool) (r1 : Int) (r2 : List Bool) (w : World) (hr0 : Kd.C k34 w A0 l0.length l0) (hc0 : l0.length ≤ c0)
  (h : steps_keys.f k l0 = some (r1, r2, 0)) (hm : steps_Move_is.f kind mir = some true) (hp : a1 < 0 ∨ (l0.length : Int) ≤ a1) :
  Calls Try.prog 30 #[.slice A0 l0.length c0, .int .i64 a1, .agg #[.int .i64 kind, .bool mir]] w fun e w' => e = .returned (.tuple #[.slice none 0 0, .int .i64 1]) ∧ Below w.heap.size w w' := by
 have hu62 := Try.underlying62
 have hu111 := Try.underlying111
 have hu116 := Try.underlying116
 have hu34 := Try.underlying34
 have HR := Am hr0
 have HC := Am hc0
 have H_h := Am h
 clear h
 have H_hm := Am hm
 clear hm
 have H_hp := Am hp
 clear hp
 clear hr0 hc0
 go_enter Try.func30, Try.ntmps30
 go_wp2_with (fail)
 refine (at_err3t k A0 c0 l0 a1 kind mir r1 r2 _ (Kd.C_below HR.out ((Below.refl _ _).alloc (Nat.le_refl _) _)) HC.out H_h.out (fun _ => H_hm.out) H_hp.out).mono ?_
 rintro e w2 ⟨rfl, hbg⟩
 have hbw : Below w.heap.size w w2 := ((Below.refl _ _).alloc (Nat.le_refl _) _).trans (hbg.mono (by simp))
 have HBW := Am hbw
 clear hbg hbw
 go_wp2
 go_ret2
 exact ⟨rfl, HBW.out⟩
set_option maxHeartbeats 8000000 in
set_option maxRecDepth 100000 in
theorem do_err4 (k : Nat) (A0 : Option Addr) (c0 : Nat) (l0 : List S34) (a1 kind : Int) (mir : Bool) (r1 : Int) (r2 : List Bool) (w : World) (hr0 : Kd.C k34 w A0 l0.length l0) (hc0 : l0.length ≤ c0)
  (h : steps_keys.f k l0 = some (r1, r2, 0)) (hm : steps_Move_is.f kind mir = some true) (hp0 : 0 ≤ a1) (hp1 : a1 < l0.length) (hp2 : a1 < r2.length) (hbel : rdOf false r2 a1 = false) :
  Calls Try.prog 30 #[.slice A0 l0.length c0, .int .i64 a1, .agg #[.int .i64 kind, .bool mir]] w fun e w' => e = .returned (.tuple #[.slice none 0 0, .int .i64 1]) ∧ Below w.heap.size w w' := by
 have hu62 := Try.underlying62
 have hu111 := Try.underlying111
 have hu116 := Try.underlying116
 have hu34 := Try.underlying34
 have HR := Am hr0
 have HC := Am hc0
 have H_h := Am h
 clear h
 have H_hm := Am hm
 clear hm
 have H_hbel := Am hbel
 clear hbel
 have H_hp0 := Am hp0
 clear hp0
 have H_hp1 := Am hp1
 clear hp1
 have H_hp2 := Am hp2
 clear hp2
 clear hr0 hc0
 go_enter Try.func30, Try.ntmps30
 go_wp2_with (fail)
 refine (at_err4t k A0 c0 l0 a1 kind mir r1 r2 _ (Kd.C_below HR.out ((Below.refl _ _).alloc (Nat.le_refl _) _)) HC.out H_h.out (fun _ => H_hm.out) H_hp0.out H_hp1.out H_hp2.out H_hbel.out).mono ?_
 rintro e w2 ⟨rfl, hbg⟩
 have hbw : Below w.heap.size w w2 := ((Below.refl _ _).alloc (Nat.le_refl _) _).trans (hbg.mono (by simp))
 have HBW := Am hbw
 clear hbg hbw
 go_wp2
 go_ret2
 exact ⟨rfl, HBW.out⟩
def okB (t : List S34) : Bool := decide (t.length ≤ 100000) && t.all (fun n => decide (n.f4 < 0) || (decide (n.f4 < t.length) && decide (0 ≤ n.f5) && decide (n.f5 < t.length) && decide (n.f4 ≠ n.f5)))
theorem okT_of {t : List S34} (h : okB t = true) : OkT t := by
 simp only [okB, Bool.and_eq_true, decide_eq_true_eq, List.all_eq_true] at h
 refine ⟨h.1, fun i hi h4 => ?_⟩
 have hm : t.getD i z34 ∈ t := by rw [List.getD, List.getElem?_eq_getElem hi, Option.getD_some]; exact List.getElem_mem hi
 have := h.2 _ hm
 simp only [Bool.or_eq_true, Bool.and_eq_true, decide_eq_true_eq] at this
 omega
def fullB : Tr → Bool
 | .nil => false
 | .node _ _ .nil .nil => true
 | .node _ _ .nil (.node ..) => false
 | .node _ _ (.node ..) .nil => false
 | .node _ _ (.node n p l r) (.node n' p' l' r') => fullB (.node n p l r) && fullB (.node n' p' l' r')
theorem full_of : ∀ {T : Tr}, fullB T = true → Full T
 | .nil, h => by simp [fullB] at h
 | .node _ _ .nil .nil, _ => by unfold Full; trivial
 | .node _ _ .nil (.node ..), h => by simp [fullB] at h
 | .node _ _ (.node ..) .nil, h => by simp [fullB] at h
 | .node _ _ (.node n p l r) (.node n' p' l' r'), h => by
  rw [fullB, Bool.and_eq_true] at h
  unfold Full
  exact ⟨full_of h.1, full_of h.2⟩
/-- The table, where the tree of it is in form. -/
def outT (T1 : Tr) : Option (List S34 × Int) := if fullB T1 = true then (if sizeT T1 ≤ 1000000 then some (flatT T1 0, 0) else none) else none
def doGood (l0 : List S34) (rt : Bool) (c : Nat) (kind : Int) (mir : Bool) : Option (List S34 × Int) :=
 if okB l0 = true then (mkT l0 l0.length c).bind fun X =>
  if canT mir rt X kind = true then
   (if rt = true then (mkR l0 c (setW (doT mir X kind) 1) l0.length 0).bind outT
   else if 1000000 < wt (doT mir X kind) then some ([], 2) else (mkR l0 c (doT mir X kind) l0.length 0).bind outT)
  else some ([], 6)
 else none
def steps_Do.f (k : Nat) (l0 : List S34) (a1 a2_0 : Int) (a2_1 : Bool) : Option (List S34 × Int) :=
 (steps_keys.f k l0).bind fun bt => if bt.2.2 = 0 then ((steps_Move_is.f a2_0 a2_1).bind fun t => if t = true then (if a1 < 0 ∨ (l0.length : Int) ≤ a1 then some ([], 1) else (if a1 < bt.2.1.length then (if rdOf false bt.2.1 a1 = true then doGood l0 (a1 == bt.1) a1.toNat a2_0 a2_1 else some ([], 1)) else none)) else some ([], 5)) else some ([], bt.2.2)
theorem move_kind {kind : Int} {mir : Bool} (h : steps_Move_is.f kind mir = some true) : 1 ≤ kind ∧ kind ≤ 12 := by
 unfold steps_Move_is.f at h
 split at h
 ·split at h
  ·omega
  ·exact absurd h (by simp)
 ·exact absurd h (by simp)
theorem outT_some {T1 : Tr} {r1 : List S34} {r2 : Int} (h : outT T1 = some (r1, r2)) : Full T1 ∧ sizeT T1 ≤ 1000000 ∧ r1 = flatT T1 0 ∧ r2 = 0 := by
 unfold outT at h
 split at h
 ·rename_i h1
  split at h
  ·rename_i h2
   injection h with h
   injection h with ha hb
   exact ⟨full_of h1, h2, ha.symm, hb.symm⟩
  ·exact absurd h (by simp)
 ·exact absurd h (by simp)
theorem do_nil {w : World} (x : Int) : ∀ (e : Ending) (w' : World), e = .returned (.tuple #[.slice none 0 0, .int .i64 x]) ∧ Below w.heap.size w w' → ∃ v0_ : Value, e = .returned (.tuple #[v0_, .int .i64 x]) ∧ Kd.R k34 34 w' w.heap.size (fun _ => True) v0_ [] ∧ Below w.heap.size w w' :=
 fun _ _ ⟨h1, h2⟩ => ⟨_, h1, Kd.R_nil _ _ _ _ _, h2⟩
theorem steps_Do.calls (k : Nat) (A0 : Option Addr) (c0 : Nat) (l0 : List S34) (a1 a2_0 : Int) (a2_1 : Bool) (r1 : List S34) (r2 : Int) (w : World) (hr0 : Kd.C k34 w A0 l0.length l0) (hc0 : l0.length ≤ c0) (h : steps_Do.f k l0 a1 a2_0 a2_1 = some (r1, r2)) :
  Calls Try.prog 30 #[.slice A0 l0.length c0, .int .i64 a1, .agg #[.int .i64 a2_0, .bool a2_1]] w fun e w' => ∃ v0_ : Value, e = .returned (.tuple #[v0_, .int .i64 r2]) ∧ Kd.R k34 34 w' w.heap.size (fun _ => True) v0_ r1 ∧ Below w.heap.size w w' := by
 unfold steps_Do.f at h
 obtain ⟨⟨q1, q2, q3⟩, hb, h⟩ := Option.bind_eq_some_iff.1 h
 dsimp only at h
 split at h
 ·rename_i h3
  subst h3
  obtain ⟨t, hm, h⟩ := Option.bind_eq_some_iff.1 h
  split at h
  ·rename_i ht
   subst ht
   split at h
   ·rename_i hp
    injection h with h
    injection h with ha hb'
    subst ha hb'
    exact (do_err3 k A0 c0 l0 a1 a2_0 a2_1 q1 q2 w hr0 hc0 hb hm hp).mono (do_nil 1)
   ·rename_i hp
    split at h
    ·rename_i hp2
     split at h
     ·rename_i hbel
      obtain ⟨c, rfl⟩ : ∃ c : Nat, a1 = c := ⟨a1.toNat, by omega⟩
      rw [Int.toNat_natCast] at h
      unfold doGood at h
      split at h
      ·rename_i hok
       obtain ⟨X, hX, h⟩ := Option.bind_eq_some_iff.1 h
       split at h
       ·rename_i hcan
        split at h
        ·rename_i hrt
         obtain ⟨T1, hT1, h⟩ := Option.bind_eq_some_iff.1 h
         obtain ⟨g1, g2, rfl, rfl⟩ := outT_some h
         exact do_ok1 k A0 c0 l0 c a2_0 a2_1 q1 q2 w hr0 hc0 hb hm (move_kind hm) (by omega) hp2 hbel (okT_of hok) _ X hX _ rfl hrt hcan _ T1 hT1 g1 g2
        ·rename_i hrt
         split at h
         ·rename_i hbig
          injection h with h
          injection h with ha hb'
          subst ha hb'
          exact (do_big k A0 c0 l0 c a2_0 a2_1 q1 q2 w hr0 hc0 hb hm (move_kind hm) (by omega) hp2 hbel (okT_of hok) _ X hX _ rfl (Bool.eq_false_iff.2 hrt) hcan hbig).mono (do_nil 2)
         ·rename_i hbig
          obtain ⟨T1, hT1, h⟩ := Option.bind_eq_some_iff.1 h
          obtain ⟨g1, g2, rfl, rfl⟩ := outT_some h
          exact do_ok0 k A0 c0 l0 c a2_0 a2_1 q1 q2 w hr0 hc0 hb hm (move_kind hm) (by omega) hp2 hbel (okT_of hok) _ X hX _ rfl (Bool.eq_false_iff.2 hrt) hcan hbig _ T1 hT1 g1 g2
       ·rename_i hcan
        injection h with h
        injection h with ha hb'
        subst ha hb'
        exact (do_nocan k A0 c0 l0 c a2_0 a2_1 q1 q2 w hr0 hc0 hb hm (move_kind hm) (by omega) hp2 hbel (okT_of hok) _ X hX _ rfl (Bool.eq_false_iff.2 hcan)).mono (do_nil 6)
      ·exact absurd h (by simp)
     ·rename_i hbel
      injection h with h
      injection h with ha hb'
      subst ha hb'
      exact (do_err4 k A0 c0 l0 a1 a2_0 a2_1 q1 q2 w hr0 hc0 hb hm (by omega) (by omega) hp2 (Bool.eq_false_iff.2 hbel)).mono (do_nil 1)
    ·exact absurd h (by simp)
  ·rename_i ht
   injection h with h
   injection h with ha hb'
   subst ha hb'
   exact (do_err2 k A0 c0 l0 a1 a2_0 a2_1 q1 q2 w hr0 hc0 hb (by rw [hm, Bool.eq_false_iff.2 ht])).mono (do_nil 5)
 ·rename_i h3
  injection h with h
  injection h with ha hb'
  subst ha hb'
  exact (do_err1 k A0 c0 l0 a1 a2_0 a2_1 q1 q2 q3 w hr0 hc0 hb h3).mono (do_nil q3)
end Go.Proofs.Ytgleaefhflamnaa.T
namespace Go.Proofs.Ytgleaefhflamnaa.T
open Go.RowKit Go.Proofs.YtgleaefhflamnaaW.PrintWords Go.Proofs.YtgleaefhflamnaaW.PrintLast Go.Proofs.YtgleaefhflamnaaW.PrintMore
/-- The places of a tree, from the root on. -/
def plT : Tr → List Int
 | .nil => []
 | .node _ p l r => p :: (plT l ++ plT r)
/-- The places of a row of trees. -/
def plF (t : List S34) (k : Nat) : List Int → Option (List Int)
 | [] => some []
 | i :: s => if 0 ≤ i then (mkT t k i.toNat).bind fun T => (plF t k s).map (plT T ++ ·) else none
/-- Each node has two children in the table, or none. -/
def FormT (t : List S34) : Prop := ∀ i, i < t.length → ((t.getD i z34).f4 = -1 ∧ (t.getD i z34).f5 = -1) ∨ (0 ≤ (t.getD i z34).f4 ∧ (t.getD i z34).f4 < t.length ∧ 0 ≤ (t.getD i z34).f5 ∧ (t.getD i z34).f5 < t.length)
theorem plF_mono {t : List S34} {k : Nat} : ∀ {s ps : List Int}, plF t k s = some ps → plF t (k + 1) s = some ps := by
 intro s
 induction s with
 | nil => intro ps h; exact h
 | cons i s ih =>
  intro ps h
  rw [plF] at h ⊢
  split at h
  ·rename_i h0
   rw [if_pos h0]
   obtain ⟨T, hT, h⟩ := Option.bind_eq_some_iff.1 h
   obtain ⟨q, hq, h⟩ := Option.map_eq_some_iff.1 h
   rw [mkT_mono t _ _ _ hT, Option.bind_some, ih hq, Option.map_some, h]
  ·exact absurd h (by simp)
theorem plT_mem {t : List S34} : ∀ (k i : Nat) (T : Tr), mkT t k i = some T → (i : Int) ∈ plT T ∧ ∀ p ∈ plT T, 0 ≤ p ∧ p < t.length := by
 intro k
 induction k with
 | zero => intro i T h; simp [mkT] at h
 | succ k ih =>
  intro i T h
  rw [mkT] at h
  split at h
  case isFalse => exact absurd h (by simp)
  rename_i hi
  split at h
  ·obtain ⟨l, hl, h⟩ := Option.bind_eq_some_iff.1 h
   obtain ⟨r, hr, h⟩ := Option.bind_eq_some_iff.1 h
   obtain rfl := Option.some.inj h
   refine ⟨List.mem_cons_self, fun p hp => ?_⟩
   simp only [plT, List.mem_cons, List.mem_append] at hp
   rcases hp with rfl | hp | hp
   ·omega
   ·exact (ih _ _ hl).2 p hp
   ·exact (ih _ _ hr).2 p hp
  ·obtain rfl := Option.some.inj h
   refine ⟨List.mem_cons_self, fun p hp => ?_⟩
   simp only [plT, List.append_nil, List.mem_cons, List.not_mem_nil, or_false] at hp
   omega
theorem plF_cons {t : List S34} {k : Nat} {i : Int} {s ps : List Int} (h : plF t k (i :: s) = some ps) : ∃ T q, 0 ≤ i ∧ mkT t k i.toNat = some T ∧ plF t k s = some q ∧ ps = plT T ++ q := by
 rw [plF] at h
 split at h
 ·rename_i h0
  obtain ⟨T, hT, h⟩ := Option.bind_eq_some_iff.1 h
  obtain ⟨q, hq, h⟩ := Option.map_eq_some_iff.1 h
  exact ⟨T, q, h0, hT, hq, h.symm⟩
 ·exact absurd h (by simp)
theorem plF_mk {t : List S34} {k : Nat} {i : Int} {s q : List Int} {T : Tr} (h0 : 0 ≤ i) (hT : mkT t k i.toNat = some T) (hq : plF t k s = some q) : plF t k (i :: s) = some (plT T ++ q) := by
 rw [plF, if_pos h0, hT, Option.bind_some, hq, Option.map_some]
theorem plF_mem {t : List S34} {k : Nat} : ∀ {s ps : List Int}, plF t k s = some ps → ∀ p ∈ ps, 0 ≤ p ∧ p < t.length := by
 intro s
 induction s with
 | nil => intro ps h p hp; rw [plF] at h; injection h with h; rw [← h] at hp; exact absurd hp (by simp)
 | cons i s ih =>
  intro ps h p hp
  obtain ⟨T, q, h0, hT, hq, rfl⟩ := plF_cons h
  rcases List.mem_append.1 hp with hp | hp
  ·exact (plT_mem _ _ _ hT).2 p hp
  ·exact ih hq p hp
theorem plF_len {t : List S34} {k : Nat} : ∀ {s ps : List Int}, plF t k s = some ps → s.length ≤ ps.length := by
 intro s
 induction s with
 | nil => intro ps h; exact Nat.zero_le _
 | cons i s ih =>
  intro ps h
  obtain ⟨T, q, h0, hT, hq, rfl⟩ := plF_cons h
  have h1 := List.length_pos_of_mem (plT_mem _ _ _ hT).1
  have h2 := ih hq
  rw [List.length_append, List.length_cons]
  omega
theorem order_nil (k : Nat) (t : List S34) (met : List Bool) (out : List Int) : table_order.l0 (k + 1) t met out [] = some out := by
 rw [table_order.l0]
 exact if_neg (by simp)
theorem leaf_f (n : S34) : table_isLeaf.f n.f0 n.f1 n.f2 n.f3 n.f4 n.f5 = some (decide (n.f4 = -1 ∧ n.f5 = -1)) := by
 unfold table_isLeaf.f
 by_cases h : n.f4 = -1
 ·rw [if_pos h]
  by_cases h5 : n.f5 = -1
  ·simp [h, h5]
  ·simp [h, h5]
 ·rw [if_neg h]
  simp [h]
theorem order_step (k : Nat) (t : List S34) (met : List Bool) (out : List Int) (i : Int) (s : List Int) (hs : s.length < 17592186044416) :
  table_order.l0 (k + 1) t met out (i :: s).reverse =
   if 0 ≤ i then (if i < met.length then (if met.getD i.toNat false = true then some [] else (if out.length < 17592186044416 then (if i < t.length then
    (if (t.getD i.toNat z34).f4 = -1 ∧ (t.getD i.toNat z34).f5 = -1 then table_order.l0 k t (met.set i.toNat true) (out ++ [i]) s.reverse
     else if s.length + 2 < 17592186044416 then table_order.l0 k t (met.set i.toNat true) (out ++ [i]) ((t.getD i.toNat z34).f4 :: (t.getD i.toNat z34).f5 :: s).reverse else none) else none) else none)) else none) else none := by
 have e : (i :: s).reverse = s.reverse ++ [i] := List.reverse_cons
 have e2 : ((t.getD i.toNat z34).f4 :: (t.getD i.toNat z34).f5 :: s).reverse = s.reverse ++ [(t.getD i.toNat z34).f5, (t.getD i.toNat z34).f4] := by simp
 rw [e, e2]
 generalize hr : s.reverse = s'
 have hl : s'.length = s.length := by rw [← hr, List.length_reverse]
 rw [← hl] at hs ⊢
 have h1 : wrap64 (((s' ++ [i]).length : Int) - 1) = s'.length := by rw [List.length_append, List.length_singleton, Go.IntWalk.wrap64_in _ (by omega)]; omega
 have h2 : rd (s' ++ [i]) (s'.length : Int) = i := by simp [rd]
 have h3 : (s' ++ [i]).take ((s'.length : Int)).toNat = s' := by simp
 rw [table_order.l0, h1, h2, h3]
 rw [if_pos (by rw [List.length_append, List.length_singleton]; omega), if_pos (by omega), if_pos (by rw [List.length_append, List.length_singleton]; omega), if_pos (by rw [List.length_append, List.length_singleton]; omega)]
 simp only [rd_T34, rdOf, leaf_f, Option.bind_some, decide_eq_true_eq]
 simp only [List.length_cons, List.length_nil]
theorem getD_set_ne {α : Type} (l : List α) (d x : α) {i j : Nat} (h : i ≠ j) : (l.set i x).getD j d = l.getD j d := by
 simp only [List.getD, List.getElem?_set, if_neg h]
theorem getD_set_eq {α : Type} (l : List α) (d x : α) {i : Nat} (h : i < l.length) : (l.set i x).getD i d = x := by
 simp [List.getD, h]
/-- What the walk of order says: each place on the stack stands over a tree, and these share no place. -/
theorem order_inv (t : List S34) (hf : FormT t) : ∀ (k : Nat) (met : List Bool) (out s res : List Int), met.length = t.length → s.length < 17592186044416 → table_order.l0 k t met out s.reverse = some res → res = [] ∨
  ∃ ps, plF t k s = some ps ∧ res = out ++ ps ∧ ps.Nodup ∧ ∀ p ∈ ps, met.getD p.toNat false = false ∧ 0 ≤ p ∧ p < t.length := by
 intro k
 induction k with
 | zero => intro met out s res _ _ h; simp [table_order.l0] at h
 | succ k ih =>
  intro met out s res hm hsl h
  cases s with
  | nil =>
   rw [List.reverse_nil, order_nil] at h
   injection h with h
   exact .inr ⟨[], rfl, by rw [← h, List.append_nil], List.nodup_nil, fun p hp => absurd hp (by simp)⟩
  | cons i s =>
   have hsl' : s.length < 17592186044416 := by rw [List.length_cons] at hsl; omega
   rw [order_step _ _ _ _ _ _ hsl'] at h
   split at h
   case isFalse => exact absurd h (by simp)
   rename_i h0
   split at h
   case isFalse => exact absurd h (by simp)
   rename_i h1
   split at h
   ·injection h with h; exact .inl h.symm
   rename_i hmet
   rw [Bool.not_eq_true] at hmet
   split at h
   case isFalse => exact absurd h (by simp)
   split at h
   case isFalse => exact absurd h (by simp)
   rename_i h2
   have hi : i.toNat < t.length := by omega
   split at h
   ·rename_i hlf
    rcases ih _ _ s res (by rw [List.length_set, hm]) hsl' h with e | ⟨ps, hp, hr, hn, hu⟩
    ·exact .inl e
    ·have hT : mkT t (k + 1) i.toNat = some (.node (t.getD i.toNat z34) i.toNat .nil .nil) := by rw [mkT, if_pos hi, if_neg (by omega)]
     refine .inr ⟨_, plF_mk h0 hT (plF_mono hp), ?_, ?_, ?_⟩
     ·rw [hr]; simp only [plT, List.append_assoc, List.nil_append, List.cons_append]; rw [Int.toNat_of_nonneg h0]
     ·simp only [plT, List.nil_append, List.cons_append, List.nodup_cons]
      refine ⟨fun hmem => ?_, hn⟩
      have := (hu _ hmem).1
      rw [Int.toNat_natCast, getD_set_eq _ _ _ (by omega)] at this
      exact absurd this (by simp)
     ·intro p hp'
      simp only [plT, List.nil_append, List.cons_append, List.mem_cons] at hp'
      rcases hp' with rfl | hp'
      ·rw [Int.toNat_natCast]; exact ⟨hmet, by omega, by omega⟩
      ·have h3 := hu p hp'
       by_cases e : i.toNat = p.toNat
       ·rw [← e]; exact ⟨hmet, h3.2⟩
       ·rw [getD_set_ne _ _ _ e] at h3; exact h3
   ·rename_i hlf
    split at h
    case isFalse => exact absurd h (by simp)
    rename_i hs2
    have hk := hf i.toNat hi
    rcases ih _ _ (_ :: _ :: s) res (by rw [List.length_set, hm]) (by simp only [List.length_cons]; omega) h with e | ⟨ps, hp, hr, hn, hu⟩
    ·exact .inl e
    ·obtain ⟨Tl, q1, g0, hl, hp1, rfl⟩ := plF_cons hp
     obtain ⟨Tr', q2, g1, hr', hp2, rfl⟩ := plF_cons hp1
     have hT : mkT t (k + 1) i.toNat = some (.node (t.getD i.toNat z34) i.toNat Tl Tr') := by rw [mkT, if_pos hi, if_pos g0, hl, Option.bind_some, hr', Option.bind_some]
     refine .inr ⟨_, plF_mk h0 hT (plF_mono hp2), ?_, ?_, ?_⟩
     ·rw [hr]; simp only [plT, List.append_assoc, List.nil_append, List.cons_append]; rw [Int.toNat_of_nonneg h0]
     ·simp only [plT, List.cons_append, List.nodup_cons, List.append_assoc]
      refine ⟨fun hmem => ?_, hn⟩
      have := (hu _ hmem).1
      rw [Int.toNat_natCast, getD_set_eq _ _ _ (by omega)] at this
      exact absurd this (by simp)
     ·intro p hp'
      simp only [plT, List.cons_append, List.mem_cons, List.append_assoc] at hp'
      rcases hp' with rfl | hp'
      ·rw [Int.toNat_natCast]; exact ⟨hmet, by omega, by omega⟩
      ·have h3 := hu p hp'
       by_cases e : i.toNat = p.toNat
       ·rw [← e]; exact ⟨hmet, h3.2⟩
       ·rw [getD_set_ne _ _ _ e] at h3; exact h3
/-- The walk over trees that share no place: all places, from the top of the stack on. -/
theorem order_tree (t : List S34) (hlen : t.length ≤ 100000) (hf : FormT t) (K : Nat) : ∀ (k : Nat) (met : List Bool) (out s ps : List Int), met.length = t.length → plF t K s = some ps → ps.Nodup → (∀ p ∈ ps, met.getD p.toNat false = false) → ps.length < k → out.length + ps.length ≤ 1000000 →
  table_order.l0 k t met out s.reverse = some (out ++ ps) := by
 intro k
 induction k with
 | zero => intro met out s ps _ _ _ _ h; exact absurd h (by omega)
 | succ k ih =>
  intro met out s ps hm hp hn hu hk ho
  cases s with
  | nil =>
   rw [plF] at hp
   injection hp with hp
   subst hp
   rw [List.reverse_nil, order_nil, List.append_nil]
  | cons i s =>
   obtain ⟨T, q, h0, hT, hq, rfl⟩ := plF_cons hp
   have hsl := plF_len hp
   rw [List.length_cons, List.length_append] at hsl
   have hsl2 := plF_len hq
   rw [List.length_append] at hk ho
   rw [order_step _ _ _ _ _ _ (by omega), if_pos h0]
   cases K with
   | zero => simp [mkT] at hT
   | succ K =>
    have hT0 := hT
    rw [mkT] at hT
    split at hT
    case isFalse => exact absurd hT (by simp)
    rename_i hi
    split at hT
    ·rename_i h4
     obtain ⟨Tl, hl, hT⟩ := Option.bind_eq_some_iff.1 hT
     obtain ⟨Tr', hr, hT⟩ := Option.bind_eq_some_iff.1 hT
     obtain rfl := Option.some.inj hT
     simp only [plT, List.cons_append, List.nodup_cons, List.append_assoc, List.length_cons, List.length_append] at hn hk ho hsl ⊢
     have hmi := hu i.toNat (by simp [plT])
     rw [Int.toNat_natCast] at hmi
     have h5 : 0 ≤ (t.getD i.toNat z34).f5 := by have := hf i.toNat hi; omega
     rw [if_pos (by omega), if_neg (by rw [hmi]; simp), if_pos (by omega), if_pos (by omega), if_neg (by omega), if_pos (by omega)]
     rw [ih _ _ (_ :: _ :: s) _ (by rw [List.length_set, hm]) (plF_mk h4 (mkT_mono t _ _ _ hl) (plF_mk h5 (mkT_mono t _ _ _ hr) hq)) hn.2 ?_ (by simp only [List.length_append]; omega) (by simp only [List.length_append, List.length_singleton]; omega)]
     ·rw [Int.toNat_of_nonneg h0]; simp
     ·intro p hp'
      by_cases e : i.toNat = p.toNat
      ·exfalso
       have hnn := (plF_mem hp p (by simp only [plT, List.cons_append, List.append_assoc]; exact List.mem_cons_of_mem _ hp')).1
       exact hn.1 (by rw [show ((i.toNat : Nat) : Int) = p by omega]; exact hp')
      ·rw [getD_set_ne _ _ _ e]
       exact hu p (by simp only [plT, List.cons_append, List.append_assoc]; exact List.mem_cons_of_mem _ hp')
    ·rename_i h4
     obtain rfl := Option.some.inj hT
     simp only [plT, List.cons_append, List.nodup_cons, List.nil_append, List.length_cons] at hn hk ho hsl ⊢
     have hmi := hu i.toNat (by simp [plT])
     rw [Int.toNat_natCast] at hmi
     have h45 := hf i.toNat hi
     rw [if_pos (by omega), if_neg (by rw [hmi]; simp), if_pos (by omega), if_pos (by omega), if_pos (by omega)]
     rw [ih _ _ s _ (by rw [List.length_set, hm]) hq hn.2 ?_ (by omega) (by simp only [List.length_append, List.length_singleton]; omega)]
     ·rw [Int.toNat_of_nonneg h0]; simp
     ·intro p hp'
      by_cases e : i.toNat = p.toNat
      ·exfalso
       have hnn := (plF_mem hq p hp').1
       exact hn.1 (by rw [show ((i.toNat : Nat) : Int) = p by omega]; exact hp')
      ·rw [getD_set_ne _ _ _ e]
       exact hu p (by simp only [plT, List.cons_append, List.nil_append]; exact List.mem_cons_of_mem _ hp')
def cntT : List Bool → Nat
 | [] => 0
 | b :: l => (if b then 1 else 0) + cntT l
theorem cntT_le : ∀ l, cntT l ≤ l.length
 | [] => Nat.le_refl _
 | b :: l => by have := cntT_le l; rw [cntT, List.length_cons]; split <;> omega
theorem cntT_set : ∀ (l : List Bool) (i : Nat), i < l.length → l.getD i false = false → cntT (l.set i true) = cntT l + 1
 | [], _, h, _ => absurd h (by simp)
 | b :: l, 0, _, h => by
  simp only [List.getD_cons_zero] at h
  subst h
  simp only [sZ, cntT, if_true]
  rw [if_neg (by simp)]
  omega
 | b :: l, i + 1, h, h' => by
  rw [List.getD_cons_succ] at h'
  rw [sS, cntT, cntT, cntT_set l i (by rw [List.length_cons] at h; omega) h']
  omega
/-- The walk of order ends on every table in form. -/
theorem order_total (t : List S34) (hlen : t.length ≤ 100000) (hf : FormT t) : ∀ (k : Nat) (met : List Bool) (out s : List Int), met.length = t.length → (∀ i ∈ s, 0 ≤ i ∧ i < t.length) → cntT met = out.length → s.length ≤ out.length + 1 → t.length + 1 ≤ k + out.length → 0 < k → ∃ res, table_order.l0 k t met out s.reverse = some res := by
 intro k
 induction k with
 | zero => intro met out s _ _ _ _ _ h; exact absurd h (by omega)
 | succ k ih =>
  intro met out s hm hr hc hs hk _
  have hcl := cntT_le met
  cases s with
  | nil => exact ⟨out, by rw [List.reverse_nil, order_nil]⟩
  | cons i s =>
   rw [List.length_cons] at hs
   have hi := hr i List.mem_cons_self
   rw [order_step _ _ _ _ _ _ (by omega), if_pos hi.1, if_pos (by omega)]
   by_cases hmet : met.getD i.toNat false = true
   ·exact ⟨[], by rw [if_pos hmet]⟩
   ·rw [if_neg hmet, if_pos (by omega), if_pos hi.2]
    rw [Bool.not_eq_true] at hmet
    have hcs := cntT_set met i.toNat (by omega) hmet
    have hcl2 := cntT_le (met.set i.toNat true)
    rw [List.length_set] at hcl2
    have hk1 := hf i.toNat (by omega)
    by_cases hlf : (t.getD i.toNat z34).f4 = -1 ∧ (t.getD i.toNat z34).f5 = -1
    ·rw [if_pos hlf]
     by_cases hk0 : 0 < k
     ·exact ih _ _ s (by rw [List.length_set, hm]) (fun j hj => hr j (List.mem_cons_of_mem _ hj)) (by rw [hcs, List.length_append, List.length_singleton, hc]) (by rw [List.length_append, List.length_singleton]; omega) (by rw [List.length_append, List.length_singleton]; omega) hk0
     ·omega
    ·rw [if_neg hlf, if_pos (by omega)]
     exact ih _ _ (_ :: _ :: s) (by rw [List.length_set, hm]) (fun j hj => by
      simp only [List.mem_cons] at hj
      rcases hj with rfl | rfl | hj
      ·omega
      ·omega
      ·exact hr j (List.mem_cons_of_mem _ hj)) (by rw [hcs, List.length_append, List.length_singleton, hc]) (by simp only [List.length_append, List.length_singleton, List.length_cons]; omega) (by rw [List.length_append, List.length_singleton]; omega) (by omega)
end Go.Proofs.Ytgleaefhflamnaa.T
namespace Go.Proofs.Ytgleaefhflamnaa.T
open Go.RowKit Go.Proofs.YtgleaefhflamnaaW.PrintWords Go.Proofs.YtgleaefhflamnaaW.PrintLast Go.Proofs.YtgleaefhflamnaaW.PrintMore
theorem up_to {α : Type} {f : Nat → Option α} (h : ∀ k, LeO (f k) (f (k + 1))) {k k' : Nat} (hk : k ≤ k') {r : α} (hr : f k = some r) : f k' = some r := by
 induction hk with
 | refl => exact hr
 | step _ ih => exact h _ _ ih
def fmN (n : S34) (len : Nat) : Bool := formedB n.f0 n.f1 n.f2 n.f3 n.f4 n.f5 len
theorem fmN_iff (n : S34) (len : Nat) : fmN n len = true ↔ (0 ≤ n.f2 ∧ n.f2 ≤ 1000000) ∧ (n.f1 = 0 ∨ (n.f1 = 1 ∧ n.f0 = 0 ∧ n.f3 = 0)) ∧ ((n.f4 = -1 ∧ n.f5 = -1) ∨ (n.f3 = 0 ∧ 1 ≤ n.f4 ∧ n.f4 < len ∧ 1 ≤ n.f5 ∧ n.f5 < len ∧ n.f4 ≠ n.f5)) := by
 unfold fmN formedB childB
 by_cases h1 : n.f2 < 0 ∨ 1000000 < n.f2 ∨ (n.f1 ≠ 0 ∧ n.f1 ≠ 1)
 ·rw [if_pos h1]; constructor
  ·intro h; exact absurd h (by simp)
  ·intro h; omega
 ·rw [if_neg h1]
  by_cases h2 : n.f1 = 1 ∧ (n.f0 ≠ 0 ∨ n.f3 ≠ 0)
  ·rw [if_pos h2]; constructor
   ·intro h; exact absurd h (by simp)
   ·intro h; omega
  ·rw [if_neg h2]
   by_cases h3 : n.f4 = -1 ∧ n.f5 = -1
   ·rw [if_pos h3]; constructor
    ·intro _; omega
    ·intro _; rfl
   ·rw [if_neg h3]
    simp only [Bool.and_eq_true, decide_eq_true_eq]
    omega
structure Good (t : List S34) (T : Tr) : Prop where
 len : t.length ≤ 100000
 form : ∀ i, i < t.length → fmN (t.getD i z34) t.length = true
 tree : mkT t t.length 0 = some T
 nodup : (plT T).Nodup
 all : (plT T).length = t.length
theorem formT_of {t : List S34} (h : ∀ i, i < t.length → fmN (t.getD i z34) t.length = true) : FormT t := fun i hi => by
 have := (fmN_iff _ _).1 (h i hi)
 omega
theorem Good.pos {t : List S34} {T : Tr} (h : Good t T) : 0 < t.length := by
 have := h.tree
 cases ht : t.length with
 | zero => rw [ht] at this; simp [mkT] at this
 | succ n => omega
theorem sizeN_pl : ∀ T, sizeN T = (plT T).length
 | .nil => rfl
 | .node _ _ l r => by rw [sizeN, plT, List.length_cons, List.length_append, sizeN_pl l, sizeN_pl r]; omega
theorem mkT_size {t : List S34} : ∀ {k i : Nat} {T : Tr}, mkT t k i = some T → mkT t (sizeN T) i = some T := by
 intro k
 induction k with
 | zero => intro i T h; simp [mkT] at h
 | succ k ih =>
  intro i T h
  rw [mkT] at h
  split at h
  case isFalse => exact absurd h (by simp)
  rename_i hi
  split at h
  ·rename_i h4
   obtain ⟨l, hl, h⟩ := Option.bind_eq_some_iff.1 h
   obtain ⟨r, hr, h⟩ := Option.bind_eq_some_iff.1 h
   obtain rfl := Option.some.inj h
   rw [sizeN, show 1 + sizeN l + sizeN r = (sizeN l + sizeN r) + 1 by omega, mkT, if_pos hi, if_pos h4, mkT_le t (Nat.le_add_right _ _) (ih hl), Option.bind_some, mkT_le t (Nat.le_add_left _ _) (ih hr), Option.bind_some]
  ·rename_i h4
   obtain rfl := Option.some.inj h
   rw [sizeN, sizeN, show 1 + 0 + 0 = 0 + 1 by omega, mkT, if_pos hi, if_neg h4]
theorem order_f (k : Nat) (t : List S34) (hlen : t.length ≤ 100000) (a : Int) : table_order.f k t a = table_order.l0 k t (List.replicate t.length false) [] ([a] : List Int).reverse := by
 unfold table_order.f
 rw [if_pos (by omega), if_pos (by omega), Int.toNat_natCast]
 rfl
theorem cntT_replicate : ∀ n, cntT (List.replicate n false) = 0
 | 0 => rfl
 | n + 1 => by rw [List.replicate_succ, cntT, cntT_replicate n]; simp
theorem order_f_total (t : List S34) (hlen : t.length ≤ 100000) (hf : FormT t) (a : Int) (h0 : 0 ≤ a) (ha : a < t.length) (k : Nat) (hk : t.length + 1 ≤ k) : ∃ res, table_order.f k t a = some res := by
 rw [order_f _ _ hlen]
 exact order_total t hlen hf k _ [] [a] List.length_replicate (fun i hi => by rw [List.mem_singleton] at hi; subst hi; exact ⟨h0, ha⟩) (cntT_replicate _) (by simp) (by simp; omega) (by omega)
theorem getD_replicate_false (n i : Nat) : (List.replicate n false).getD i false = false := by
 simp only [List.getD, List.getElem?_replicate]
 split <;> rfl
/-- order of a place over a tree. -/
theorem order_f_tree {t : List S34} (hlen : t.length ≤ 100000) (hf : FormT t) {K : Nat} {a : Int} {T : Tr} (h0 : 0 ≤ a) (hT : mkT t K a.toNat = some T) (hn : (plT T).Nodup) (hl : (plT T).length ≤ 1000000) (k : Nat) (hk : (plT T).length < k) : table_order.f k t a = some (plT T) := by
 rw [order_f _ _ hlen]
 have hp := plF_mk h0 hT (plF.eq_1 t K)
 rw [List.append_nil] at hp
 rw [order_tree t hlen hf K k _ [] [a] (plT T) List.length_replicate hp hn (fun _ _ => getD_replicate_false _ _) hk (by simpa using hl)]
 rfl
theorem good_of_order {t : List S34} (hlen : t.length ≤ 100000) (hpos : 0 < t.length) (hf : ∀ i, i < t.length → fmN (t.getD i z34) t.length = true) {k : Nat} {res : List Int} (h : table_order.f k t 0 = some res) (hr : res.length = t.length) : ∃ T, Good t T := by
 rw [order_f _ _ hlen] at h
 rcases order_inv t (formT_of hf) k _ [] [0] res List.length_replicate (by simp) h with e | ⟨ps, hp, e, hn, _⟩
 ·rw [e] at hr; simp at hr; omega
 ·obtain ⟨T, q, _, hT, hq, rfl⟩ := plF_cons hp
  rw [plF] at hq
  injection hq with hq
  subst hq
  rw [List.append_nil] at e hn
  rw [List.nil_append] at e
  have hT2 := mkT_size hT
  rw [sizeN_pl, ← e, hr] at hT2
  exact ⟨T, hlen, hf, hT2, hn, by rw [← e]; exact hr⟩
theorem formed_f (n : S34) (len : Nat) : table_formed.f n.f0 n.f1 n.f2 n.f3 n.f4 n.f5 len = some (fmN n len) := rfl
theorem check_l0 (t : List S34) (hlen : t.length ≤ 100000) (hpos : 0 < t.length) : ∀ (d i k : Nat), i + d = t.length → t.length + 2 + d ≤ k → (∀ j, j < i → fmN (t.getD j z34) t.length = true) →
  ∃ r, table_Check.l0 k t t t.length i = some r ∧ (r = 0 → ∃ T, Good t T) := by
 intro d
 induction d with
 | zero =>
  intro i k hi hk hpre
  cases k with
  | zero => omega
  | succ k =>
   have hf : ∀ j, j < t.length → fmN (t.getD j z34) t.length = true := fun j hj => hpre j (by omega)
   obtain ⟨res, hr⟩ := order_f_total t hlen (formT_of hf) 0 (by omega) (by omega) k (by omega)
   rw [table_Check.l0, if_neg (by omega), hr, Option.bind_some]
   by_cases e : (res.length : Int) = t.length
   ·exact ⟨0, if_pos e, fun _ => good_of_order hlen hpos hf hr (by omega)⟩
   ·exact ⟨3, if_neg e, fun h => absurd h (by decide)⟩
 | succ d ih =>
  intro i k hi hk hpre
  cases k with
  | zero => omega
  | succ k =>
   rw [table_Check.l0, if_pos (by omega), if_pos (by omega), if_pos (by omega)]
   simp only [rd_T34, formed_f, Option.bind_some, Int.toNat_natCast]
   by_cases e : fmN (t.getD i z34) t.length = true
   ·rw [if_pos e, Go.IntWalk.wrap64_in _ (by omega)]
    exact ih (i + 1) k (by omega) (by omega) (fun j hj => by
     by_cases ej : j = i
     ·rw [ej]; exact e
     ·exact hpre j (by omega))
   ·rw [if_neg e]
    exact ⟨3, rfl, fun h => absurd h (by decide)⟩
theorem check_total (t : List S34) : ∃ k r, table_Check.f k t = some r ∧ (r = 0 → ∃ T, Good t T) := by
 unfold table_Check.f
 by_cases h1 : (t.length : Int) > 100000
 ·exact ⟨0, 2, by rw [if_pos h1], fun h => absurd h (by decide)⟩
 ·by_cases h2 : (t.length : Int) = 0
  ·exact ⟨0, 3, by rw [if_neg h1, if_pos h2], fun h => absurd h (by decide)⟩
  ·obtain ⟨r, h, h'⟩ := check_l0 t (by omega) (by omega) t.length 0 (t.length + 2 + t.length) (by omega) (Nat.le_refl _) (fun j hj => absurd hj (by omega))
   exact ⟨_, r, by rw [if_neg h1, if_neg h2]; exact h, h'⟩
theorem check_l0_good {t : List S34} {T : Tr} (hg : Good t T) : ∀ (d i k : Nat), i + d = t.length → t.length + 2 + d ≤ k → table_Check.l0 k t t t.length i = some 0 := by
 have hlen := hg.len
 intro d
 induction d with
 | zero =>
  intro i k hi hk
  cases k with
  | zero => omega
  | succ k =>
   rw [table_Check.l0, if_neg (by omega), order_f_tree hg.len (formT_of hg.form) (by omega) hg.tree hg.nodup (by rw [hg.all]; omega) k (by rw [hg.all]; omega), Option.bind_some, if_pos (by rw [hg.all])]
 | succ d ih =>
  intro i k hi hk
  cases k with
  | zero => omega
  | succ k =>
   rw [table_Check.l0, if_pos (by omega), if_pos (by omega), if_pos (by omega)]
   simp only [rd_T34, formed_f, Option.bind_some, Int.toNat_natCast]
   rw [if_pos (hg.form i (by omega)), Go.IntWalk.wrap64_in _ (by omega)]
   exact ih (i + 1) k (by omega) (by omega)
theorem check_good {t : List S34} {T : Tr} (hg : Good t T) : ∃ k, table_Check.f k t = some 0 := by
 have h1 := hg.len
 have h2 := hg.pos
 refine ⟨t.length + 2 + t.length, ?_⟩
 unfold table_Check.f
 rw [if_neg (by omega), if_neg (by omega)]
 exact check_l0_good hg t.length 0 _ (by omega) (Nat.le_refl _)
end Go.Proofs.Ytgleaefhflamnaa.T
namespace Go.Proofs.Ytgleaefhflamnaa.T
open Go.RowKit Go.Proofs.YtgleaefhflamnaaW.PrintWords Go.Proofs.YtgleaefhflamnaaW.PrintLast Go.Proofs.YtgleaefhflamnaaW.PrintMore
def sn34 : S34 := ⟨0, 1, 1, 0, -1, -1⟩
def snB (x : S34) : Bool := x.f0 == 0 && (x.f1 == 1 && (x.f2 == 1 && (x.f3 == 0 && (x.f4 == (-1 : Int) && x.f5 == (-1 : Int)))))
theorem sent_iff (x : S34) : snB x = true ↔ x = sn34 := by
 obtain ⟨a, b, c, d, e, f⟩ := x
 simp only [snB, Bool.and_eq_true, beq_iff_eq, sn34, S34.mk.injEq]
def crP (t : List S34) (n : S34) : Prop := ¬ (n.f4 = -1 ∧ n.f5 = -1) ∧ n.f1 = 1 ∧ n.f2 = 1 ∧ t.getD n.f5.toNat z34 = sn34
theorem crowned_f (t : List S34) (n : S34) (hn : fmN n t.length = true) : ∃ b, table_crowned.f t n.f0 n.f1 n.f2 n.f3 n.f4 n.f5 = some b ∧ (b = true ↔ crP t n) := by
 have hn' := (fmN_iff _ _).1 hn
 unfold table_crowned.f
 rw [leaf_f, Option.bind_some]
 by_cases hl : n.f4 = -1 ∧ n.f5 = -1
 ·exact ⟨false, by rw [if_pos (by simpa using hl)], by simp [crP, hl]⟩
 ·rw [if_neg (by simpa using hl)]
  by_cases h1 : n.f1 = 1
  ·rw [if_pos h1]
   by_cases h2 : n.f2 = 1
   ·rw [if_pos h2, if_pos (by omega), if_pos (by omega)]
    refine ⟨_, rfl, ?_⟩
    exact ⟨fun h => ⟨hl, h1, h2, (sent_iff _).1 h⟩, fun h => (sent_iff _).2 h.2.2.2⟩
   ·exact ⟨false, by rw [if_neg h2], by simp [crP, h2]⟩
  ·exact ⟨false, by rw [if_neg h1], by simp [crP, h1]⟩
def allT (P : S34 → Prop) : Tr → Prop
 | .nil => True
 | .node n _ l r => P n ∧ allT P l ∧ allT P r
theorem allT_mkT {t : List S34} {P : S34 → Prop} : ∀ {k i : Nat} {T : Tr}, mkT t k i = some T → (allT P T ↔ ∀ p ∈ plT T, P (t.getD p.toNat z34)) := by
 intro k
 induction k with
 | zero => intro i T h; simp [mkT] at h
 | succ k ih =>
  intro i T h
  rw [mkT] at h
  split at h
  case isFalse => exact absurd h (by simp)
  rename_i hi
  split at h
  ·rename_i h4
   obtain ⟨l, hl, h⟩ := Option.bind_eq_some_iff.1 h
   obtain ⟨r, hr, h⟩ := Option.bind_eq_some_iff.1 h
   obtain rfl := Option.some.inj h
   rw [allT, ih hl, ih hr, plT]
   constructor
   ·rintro ⟨h1, h2, h3⟩ p hp
    simp only [List.mem_cons, List.mem_append] at hp
    rcases hp with rfl | hp | hp
    ·rwa [Int.toNat_natCast]
    ·exact h2 p hp
    ·exact h3 p hp
   ·intro hh
    exact ⟨by have := hh i List.mem_cons_self; rwa [Int.toNat_natCast] at this, fun p hp => hh p (List.mem_cons_of_mem _ (List.mem_append_left _ hp)), fun p hp => hh p (List.mem_cons_of_mem _ (List.mem_append_right _ hp))⟩
  ·obtain rfl := Option.some.inj h
   simp [allT, plT]
def plc : Tr → Int
 | .nil => -1
 | .node _ p _ _ => p
theorem mkT_plc {t : List S34} {k i : Nat} {T : Tr} (h : mkT t k i = some T) : plc T = i := by
 cases k with
 | zero => simp [mkT] at h
 | succ k =>
  rw [mkT] at h
  split at h
  case isFalse => exact absurd h (by simp)
  split at h
  ·obtain ⟨l, hl, h⟩ := Option.bind_eq_some_iff.1 h
   obtain ⟨r, hr, h⟩ := Option.bind_eq_some_iff.1 h
   obtain rfl := Option.some.inj h
   rfl
  ·obtain rfl := Option.some.inj h
   rfl
/-- The crown over the tree of the keys. -/
def Crown (T X0 : Tr) : Prop := ∃ n0 n1 p1 q1 q0, T = .node n0 0 (.node n1 p1 X0 (.node sn34 q1 .nil .nil)) (.node sn34 q0 .nil .nil) ∧ n0.f1 = 1 ∧ n0.f2 = 1 ∧ n1.f1 = 1 ∧ n1.f2 = 1 ∧ allT (fun n => n.f1 = 0) X0 ∧ X0 ≠ .nil
theorem mkT_inner {t : List S34} (hf : ∀ i, i < t.length → fmN (t.getD i z34) t.length = true) {k i : Nat} {T : Tr} (h : mkT t k i = some T) (hl : ¬ ((t.getD i z34).f4 = -1 ∧ (t.getD i z34).f5 = -1)) :
  ∃ k' l r, k = k' + 1 ∧ i < t.length ∧ mkT t k' (t.getD i z34).f4.toNat = some l ∧ mkT t k' (t.getD i z34).f5.toNat = some r ∧ T = .node (t.getD i z34) i l r := by
 cases k with
 | zero => simp [mkT] at h
 | succ k =>
  rw [mkT] at h
  split at h
  case isFalse => exact absurd h (by simp)
  rename_i hi
  have := (fmN_iff _ _).1 (hf i hi)
  rw [if_pos (by omega)] at h
  obtain ⟨l, hl, h⟩ := Option.bind_eq_some_iff.1 h
  obtain ⟨r, hr, h⟩ := Option.bind_eq_some_iff.1 h
  exact ⟨k, l, r, rfl, hi, hl, hr, (Option.some.inj h).symm⟩
theorem mkT_leaf {t : List S34} (hf : ∀ i, i < t.length → fmN (t.getD i z34) t.length = true) {k i : Nat} {T : Tr} (h : mkT t k i = some T) (hl : (t.getD i z34).f4 = -1 ∧ (t.getD i z34).f5 = -1) : i < t.length ∧ T = .node (t.getD i z34) i .nil .nil := by
 cases k with
 | zero => simp [mkT] at h
 | succ k =>
  rw [mkT] at h
  split at h
  case isFalse => exact absurd h (by simp)
  rename_i hi
  rw [if_neg (by omega)] at h
  exact ⟨hi, (Option.some.inj h).symm⟩
theorem mkT_node {t : List S34} (hf : ∀ i, i < t.length → fmN (t.getD i z34) t.length = true) {k i : Nat} {n : S34} {p : Int} {l r : Tr} (h : mkT t k i = some (.node n p l r)) : i < t.length ∧ n = t.getD i z34 ∧ p = i ∧ (l ≠ .nil → ¬ (n.f4 = -1 ∧ n.f5 = -1) ∧ ∃ k', k = k' + 1 ∧ mkT t k' n.f4.toNat = some l ∧ mkT t k' n.f5.toNat = some r) := by
 by_cases hl : (t.getD i z34).f4 = -1 ∧ (t.getD i z34).f5 = -1
 ·obtain ⟨hi, e⟩ := mkT_leaf hf h hl
  injection e with e1 e2 e3 e4
  exact ⟨hi, e1, e2, fun hn => absurd e3 hn⟩
 ·obtain ⟨k', l', r', hk, hi, h1, h2, e⟩ := mkT_inner hf h hl
  injection e with e1 e2 e3 e4
  subst e1 e3 e4
  exact ⟨hi, rfl, e2, fun _ => ⟨hl, k', hk, h1, h2⟩⟩
theorem crown_cr {t : List S34} {T X0 : Tr} (hg : Good t T) (h : Crown T X0) : crP t (t.getD 0 z34) ∧ t.getD (t.getD 0 z34).f4.toNat z34 ≠ sn34 ∧ crP t (t.getD (t.getD 0 z34).f4.toNat z34) := by
 obtain ⟨n0, n1, p1, q1, q0, rfl, c1, c2, c3, c4, _, hXn⟩ := h
 obtain ⟨h1, h2, _, h3⟩ := mkT_node hg.form hg.tree
 obtain ⟨h4, k1, hk1, h5, h6⟩ := h3 (by simp)
 subst h2
 obtain ⟨_, g2, _, _⟩ := mkT_node hg.form h6
 obtain ⟨e1, e2, _, e3⟩ := mkT_node hg.form h5
 obtain ⟨e4, k2, hk2, e5, e6⟩ := e3 hXn
 subst e2
 obtain ⟨_, d2, _, _⟩ := mkT_node hg.form e6
 exact ⟨⟨h4, c1, c2, g2.symm⟩, fun e => e4 (by rw [e]; exact ⟨rfl, rfl⟩), e4, c3, c4, d2.symm⟩
theorem root_l0 (t : List S34) (v0 v1 v2 v3 v4 v5 : Int) (ps : List Int) (hp : ∀ p ∈ ps, 0 ≤ p ∧ p < t.length) (hlen : ps.length ≤ 1000000) : ∀ (d i k : Nat), i + d = ps.length → d < k → (∀ j, j < i → (t.getD (ps.getD j 0).toNat z34).f1 = 0) →
  ∃ r1 r2, table_Root.l0 k t ps ps.length i v0 v1 v2 v3 v4 v5 = some (r1, r2) ∧ (r2 = 0 → r1 = v4 ∧ ∀ j, j < ps.length → (t.getD (ps.getD j 0).toNat z34).f1 = 0) ∧ ((∀ j, j < ps.length → (t.getD (ps.getD j 0).toNat z34).f1 = 0) → r1 = v4 ∧ r2 = 0) := by
 intro d
 induction d with
 | zero =>
  intro i k hi hk hpre
  cases k with
  | zero => omega
  | succ k =>
   rw [table_Root.l0, if_neg (by omega)]
   exact ⟨v4, 0, rfl, fun _ => ⟨rfl, fun j hj => hpre j (by omega)⟩, fun _ => ⟨rfl, rfl⟩⟩
 | succ d ih =>
  intro i k hi hk hpre
  cases k with
  | zero => omega
  | succ k =>
   have hm : ps.getD i 0 ∈ ps := by rw [List.getD, List.getElem?_eq_getElem (by omega), Option.getD_some]; exact List.getElem_mem _
   have hr := hp _ hm
   rw [table_Root.l0, if_pos (by omega), if_pos (by omega), if_pos (by omega)]
   rw [show rd ps (i : Int) = ps.getD i 0 from rfl, show rd_T34 t (ps.getD i 0) = t.getD (ps.getD i 0).toNat z34 from rfl]
   rw [if_pos hr.1, if_pos hr.2]
   by_cases e : (t.getD (ps.getD i 0).toNat z34).f1 = 0
   ·rw [if_pos e, Go.IntWalk.wrap64_in _ (by omega)]
    exact ih (i + 1) k (by omega) (by omega) (fun j hj => by
     by_cases ej : j = i
     ·rw [ej]; exact e
     ·exact hpre j (by omega))
   ·rw [if_neg e]
    exact ⟨0, 3, rfl, fun h => absurd h (by decide), fun h => absurd (h i (by omega)) e⟩
theorem allmem (t : List S34) (ps : List Int) : (∀ j, j < ps.length → (t.getD (ps.getD j 0).toNat z34).f1 = 0) ↔ ∀ p ∈ ps, (t.getD p.toNat z34).f1 = 0 := by
 constructor
 ·intro h p hp
  obtain ⟨j, hj, rfl⟩ := List.getElem_of_mem hp
  have := h j hj
  rwa [show ps.getD j 0 = ps[j] by rw [List.getD, List.getElem?_eq_getElem hj, Option.getD_some]] at this
 ·intro h j hj
  rw [show ps.getD j 0 = ps[j] by rw [List.getD, List.getElem?_eq_getElem hj, Option.getD_some]]
  exact h _ (List.getElem_mem _)
theorem nodup_app_l {α : Type} {a b : List α} (h : (a ++ b).Nodup) : a.Nodup := (List.nodup_append.1 h).1
theorem root_good {t : List S34} {T : Tr} (hg : Good t T) : ∃ k r1 r2, table_Root.f k t = some (r1, r2) ∧ (r2 = 0 → ∃ X0, Crown T X0 ∧ plc X0 = r1) ∧ (∀ X0, Crown T X0 → r2 = 0 ∧ r1 = plc X0) := by
 have hlen := hg.len
 have hpos := hg.pos
 have htr := hg.tree
 obtain ⟨kc, hc⟩ := check_good hg
 have f0 := hg.form 0 hpos
 obtain ⟨b0, hb0, hb0'⟩ := crowned_f t (t.getD 0 z34) f0
 have hroot : ∀ k, kc ≤ k → table_Root.f k t = if b0 = true then (if 0 ≤ (t.getD 0 z34).f4 then (if (t.getD 0 z34).f4 < t.length then
   (if snB (t.getD (t.getD 0 z34).f4.toNat z34) = true then some (0, 4) else
    ((table_crowned.f t (t.getD (t.getD 0 z34).f4.toNat z34).f0 (t.getD (t.getD 0 z34).f4.toNat z34).f1 (t.getD (t.getD 0 z34).f4.toNat z34).f2 (t.getD (t.getD 0 z34).f4.toNat z34).f3 (t.getD (t.getD 0 z34).f4.toNat z34).f4 (t.getD (t.getD 0 z34).f4.toNat z34).f5).bind fun b1 => if b1 = true then
     ((table_order.f k t (t.getD (t.getD 0 z34).f4.toNat z34).f4).bind fun ps => table_Root.l0 k t ps ps.length 0 (t.getD (t.getD 0 z34).f4.toNat z34).f0 (t.getD (t.getD 0 z34).f4.toNat z34).f1 (t.getD (t.getD 0 z34).f4.toNat z34).f2 (t.getD (t.getD 0 z34).f4.toNat z34).f3 (t.getD (t.getD 0 z34).f4.toNat z34).f4 (t.getD (t.getD 0 z34).f4.toNat z34).f5) else some (0, 3))) else none) else none) else some (0, 3) := by
  intro k hk
  unfold table_Root.f
  rw [up_to (fun k => table_Check.mono t k) hk hc, Option.bind_some, if_pos rfl, if_pos (by omega)]
  rw [show rd_T34 t 0 = t.getD 0 z34 from rfl, show rd_T34 t (t.getD 0 z34).f4 = t.getD (t.getD 0 z34).f4.toNat z34 from rfl]
  rw [hb0, Option.bind_some]
  by_cases hb : b0 = true
  ·rw [if_pos hb, if_pos hb]
   simp only [table_sentinel.f, Option.bind_some]
   rfl
  ·rw [if_neg hb, if_neg hb]
 by_cases hb : b0 = true
 ·have hcr := hb0'.1 hb
  have f0' := (fmN_iff _ _).1 f0
  have hA : ¬ ((t.getD 0 z34).f4 = -1 ∧ (t.getD 0 z34).f5 = -1) := hcr.1
  obtain ⟨k1, l, r, hk1, _, hl, hr, hT⟩ := mkT_inner hg.form htr hcr.1
  have hrl := mkT_leaf hg.form hr (by rw [hcr.2.2.2]; exact ⟨rfl, rfl⟩)
  rw [hcr.2.2.2] at hrl
  have f1 := hg.form (t.getD 0 z34).f4.toNat (by omega)
  obtain ⟨b1, hb1, hb1'⟩ := crowned_f t _ f1
  by_cases hs : t.getD (t.getD 0 z34).f4.toNat z34 = sn34
  ·refine ⟨kc, 0, 4, ?_, fun h => absurd h (by decide), ?_⟩
   ·rw [hroot kc (Nat.le_refl _), if_pos hb, if_pos (by omega), if_pos (by omega), if_pos ((sent_iff _).2 hs)]
   ·rintro X0 ⟨n0, n1, p1, q1, q0, e, _⟩
    have := mkT_leaf hg.form hl (by rw [hs]; exact ⟨rfl, rfl⟩)
    rw [hT, this.2] at e
    injection e with _ _ e _
    injection e with _ _ _ e
    exact absurd e (by simp)
  ·by_cases hb1t : b1 = true
   ·have hcr1 := hb1'.1 hb1t
    have f1' := (fmN_iff _ _).1 f1
    have hB : ¬ ((t.getD (t.getD 0 z34).f4.toNat z34).f4 = -1 ∧ (t.getD (t.getD 0 z34).f4.toNat z34).f5 = -1) := hcr1.1
    obtain ⟨k2, X0, r1, hk2, hi2, hl1, hr1, hT1⟩ := mkT_inner hg.form hl hcr1.1
    have hrl1 := mkT_leaf hg.form hr1 (by rw [hcr1.2.2.2]; exact ⟨rfl, rfl⟩)
    rw [hcr1.2.2.2] at hrl1
    have hn := hg.nodup
    have ha := hg.all
    rw [hT, hT1] at hn ha
    simp only [plT, List.nodup_cons, List.cons_append, List.length_cons, List.length_append] at hn ha
    have hnX : (plT X0).Nodup := by
     have h1 := hn.2
     rw [List.append_assoc] at h1
     exact nodup_app_l h1.2
    have hord : ∀ k, t.length ≤ k → table_order.f k t (t.getD (t.getD 0 z34).f4.toNat z34).f4 = some (plT X0) := fun k hk => order_f_tree hlen (formT_of hg.form) (by omega) hl1 hnX (by omega) k (by omega)
    obtain ⟨q1, q2, hq, hq1, hq2⟩ := root_l0 t (t.getD (t.getD 0 z34).f4.toNat z34).f0 (t.getD (t.getD 0 z34).f4.toNat z34).f1 (t.getD (t.getD 0 z34).f4.toNat z34).f2 (t.getD (t.getD 0 z34).f4.toNat z34).f3 (t.getD (t.getD 0 z34).f4.toNat z34).f4 (t.getD (t.getD 0 z34).f4.toNat z34).f5 (plT X0) (plT_mem _ _ _ hl1).2 (by omega) (plT X0).length 0 (max kc (t.length + 1)) (by omega) (by omega) (fun j hj => absurd hj (by omega))
    have hpX : plc X0 = (t.getD (t.getD 0 z34).f4.toNat z34).f4 := by rw [mkT_plc hl1]; omega
    have hXn : X0 ≠ .nil := by rintro rfl; rw [plc] at hpX; omega
    refine ⟨max kc (t.length + 1), q1, q2, ?_, ?_, ?_⟩
    ·rw [hroot _ (Nat.le_max_left _ _), if_pos hb, if_pos (by omega), if_pos (by omega), if_neg (fun h => hs ((sent_iff _).1 h)), hb1, Option.bind_some, if_pos hb1t, hord _ (by omega), Option.bind_some]
     exact hq
    ·intro h0
     have h1 := hq1 h0
     refine ⟨X0, ⟨t.getD 0 z34, t.getD (t.getD 0 z34).f4.toNat z34, ((t.getD 0 z34).f4.toNat : Nat), ((t.getD (t.getD 0 z34).f4.toNat z34).f5.toNat : Nat), ((t.getD 0 z34).f5.toNat : Nat), ?_, hcr.2.1, hcr.2.2.1, hcr1.2.1, hcr1.2.2.1, ?_, hXn⟩, by rw [h1.1, hpX]⟩
     ·rw [hT, hT1, hrl.2, hrl1.2]; rfl
     ·exact (allT_mkT hl1).2 ((allmem t _).1 h1.2)
    ·rintro Y ⟨n0, n1, p1, q1', q0, e, _, _, _, _, hin, _⟩
     rw [hT, hT1] at e
     injection e with _ _ e _
     injection e with _ _ e _
     subst e
     have h1 := hq2 ((allmem t _).2 ((allT_mkT hl1).1 hin))
     exact ⟨h1.2, by rw [h1.1, hpX]⟩
   ·refine ⟨kc, 0, 3, ?_, fun h => absurd h (by decide), ?_⟩
    ·rw [hroot kc (Nat.le_refl _), if_pos hb, if_pos (by omega), if_pos (by omega), if_neg (fun h => hs ((sent_iff _).1 h)), hb1, Option.bind_some, if_neg hb1t]
    ·intro X0 hX
     exact absurd (hb1'.2 (crown_cr hg hX).2.2) hb1t
 ·refine ⟨kc, 0, 3, ?_, fun h => absurd h (by decide), ?_⟩
  ·rw [hroot kc (Nat.le_refl _), if_neg hb]
  ·intro X0 hX
   exact absurd (hb0'.2 (crown_cr hg hX).1) hb
end Go.Proofs.Ytgleaefhflamnaa.T
namespace Go.Proofs.Ytgleaefhflamnaa.T
open Go.RowKit Go.Proofs.YtgleaefhflamnaaW.PrintWords Go.Proofs.YtgleaefhflamnaaW.PrintLast Go.Proofs.YtgleaefhflamnaaW.PrintMore
/-- Trees in form: each node's weight in its bounds, both children or none. -/
def Ok : Tr → Prop
 | .nil => False
 | .node n _ l r => (0 ≤ n.f2 ∧ n.f2 ≤ 1000000) ∧ (n.f1 = 0 ∨ (n.f1 = 1 ∧ n.f0 = 0 ∧ n.f3 = 0)) ∧ ((l = .nil ∧ r = .nil ∧ n.f4 = -1 ∧ n.f5 = -1) ∨ (n.f3 = 0 ∧ Ok l ∧ Ok r))
def sums : Tr → Int → List Int
 | .nil, _ => []
 | .node n _ .nil _, a => [a + n.f2]
 | .node n _ (.node m p x y) r, a => sums (.node m p x y) (a + n.f2) ++ sums r (a + n.f2)
theorem ok_ne {T : Tr} (h : Ok T) : T ≠ .nil := by rintro rfl; exact h
end Go.Proofs.Ytgleaefhflamnaa.T
namespace Go.Proofs.Ytgleaefhflamnaa.T
open Go.RowKit Go.Proofs.YtgleaefhflamnaaW.PrintWords Go.Proofs.YtgleaefhflamnaaW.PrintLast Go.Proofs.YtgleaefhflamnaaW.PrintMore
/-- What a step does: the size, the form, the sums, the violations. -/
structure Does (X Y : Tr) : Prop where
 size : sizeT Y = sizeT X
 top : 0 ≤ wt Y ∧ wt Y ≤ 1000001
 ok : wt Y ≤ 1000000 → Ok Y
 ok1 : Ok (setW Y 1)
 sums : ∀ a, sums Y a = sums X a
 all : allT (fun n => n.f1 = 0) X → allT (fun n => n.f1 = 0) Y
end Go.Proofs.Ytgleaefhflamnaa.T
namespace Go.Proofs.Ytgleaefhflamnaa.T
open Go.RowKit Go.Proofs.YtgleaefhflamnaaW.PrintWords Go.Proofs.YtgleaefhflamnaaW.PrintLast Go.Proofs.YtgleaefhflamnaaW.PrintMore
/-- What stands in the place of X behind a move. -/
structure Gives (rt : Bool) (X R : Tr) : Prop where
 size : sizeT R = sizeT X
 ok : Ok R
 all : allT (fun n => n.f1 = 0) X → allT (fun n => n.f1 = 0) R
 plain : rt = false → ∀ a, sums R a = sums X a
 root : rt = true → wt R = 1 ∧ ∃ d, ∀ a, sums R a = sums X (a + d)
/-- Another tree in the place of one. -/
def replT (c : Nat) (R : Tr) : Tr → Tr
 | .nil => .nil
 | .node n p l r => .node n p (if plc l = c then R else replT c R l) (if plc r = c then R else replT c R r)
theorem ok_mkT {t : List S34} (hf : ∀ i, i < t.length → fmN (t.getD i z34) t.length = true) : ∀ {k i : Nat} {T : Tr}, mkT t k i = some T → Ok T := by
 intro k
 induction k with
 | zero => intro i T h; simp [mkT] at h
 | succ k ih =>
  intro i T h
  by_cases hl : (t.getD i z34).f4 = -1 ∧ (t.getD i z34).f5 = -1
  ·obtain ⟨hi, rfl⟩ := mkT_leaf hf h hl
   have := (fmN_iff _ _).1 (hf i hi)
   exact ⟨this.1, this.2.1, .inl ⟨rfl, rfl, hl⟩⟩
  ·obtain ⟨k', l, r, hk, hi, h1, h2, rfl⟩ := mkT_inner hf h hl
   obtain rfl : k = k' := by omega
   have := (fmN_iff _ _).1 (hf i hi)
   exact ⟨this.1, this.2.1, .inr ⟨by omega, ih h1, ih h2⟩⟩
end Go.Proofs.Ytgleaefhflamnaa.T
namespace Go.Proofs.Ytgleaefhflamnaa.T
open Go.RowKit Go.Proofs.YtgleaefhflamnaaW.PrintWords Go.Proofs.YtgleaefhflamnaaW.PrintLast Go.Proofs.YtgleaefhflamnaaW.PrintMore
attribute [local go_sem] max2_int min2_int max_two min_two max_three min_three max_four min_four   -- for this text's walks alone
set_option linter.unusedVariables false
set_option linter.unusedSimpArgs false
-- BREAK Derived.Test.YtgleaefhflamnaaHN
-- steps_Do.f, .mono, .calls stand in the module named above.
def larchlaw18_some.f  : Option ((List (S34)) × Int) := some ((([(⟨0, 1, 1, 0, 1, 6⟩ : S34), (⟨0, 1, 1, 0, 2, 5⟩ : S34), (⟨2, 0, 1, 0, 3, 4⟩ : S34), (⟨1, 0, 2, 0, (-1), (-1)⟩ : S34), (⟨2, 0, 2, 0, (-1), (-1)⟩ : S34), (⟨0, 1, 1, 0, (-1), (-1)⟩ : S34), (⟨0, 1, 1, 0, (-1), (-1)⟩ : S34)] : List (S34))), 2)
def larchlaw18_awake.f (k : Nat)  : Option (Bool) := (larchlaw18_some.f).bind fun bt193 => ((steps_Do.f k bt193.1 bt193.2 11 false).bind fun bt197 => (if 3 < (bt193.1.length : Int) then ((some (bt193.1.set (3 : Int).toNat (⟨(rd_T34 bt193.1 3).f0, (rd_T34 bt193.1 3).f1, 1, (rd_T34 bt193.1 3).f3, (rd_T34 bt193.1 3).f4, (rd_T34 bt193.1 3).f5⟩ : S34) : List (S34))).bind fun y201 => (if 4 < (bt193.1.length : Int) then (if bt197.2 = 0 then ((larchref18_SameTable.f k bt197.1 (y201.set (4 : Int).toNat (⟨(rd_T34 y201 4).f0, (rd_T34 y201 4).f1, 1, (rd_T34 y201 4).f3, (rd_T34 y201 4).f4, (rd_T34 y201 4).f5⟩ : S34))).bind fun t203 => (some t203)) else (some false)) else (none))) else (none)))
def larchlaw18_to.f (a0_0 : Int) (a0_1 : Bool) : Option (Int × Bool) := some (a0_0, a0_1)
def larchlaw18_done.f (k : Nat) (l0 : List (S34)) (a1 : Int) (a2_0 : Int) (a2_1 : Bool) : Option ((List (S34)) × Bool) := (larchlaw18_to.f a2_0 a2_1).bind fun bt207 => ((steps_Do.f k l0 a1 bt207.1 bt207.2).bind fun bt209 => (some (bt209.1, (bt209.2 == 0))))
def larchlaw18_sums.f : Nat → List (S34) → Int → Int → List Int → Option (List Int)
 | 0, _, _, _, _ => none
 | k + 1, l0, a1, a2, l3 => if 0 ≤ a1 then (if a1 < (l0.length : Int) then (if ((rd_T34 l0 a1).f4) < 0 then (if l3.length < 17592186044416 then (some (l3 ++ [wrap64 (a2 + ((rd_T34 l0 a1).f2))])) else (none)) else ((larchlaw18_sums.f k l0 ((rd_T34 l0 a1).f4) (wrap64 (a2 + ((rd_T34 l0 a1).f2))) l3).bind fun t220 => ((larchlaw18_sums.f k l0 ((rd_T34 l0 a1).f5) (wrap64 (a2 + ((rd_T34 l0 a1).f2))) t220).bind fun t223 => (some t223)))) else (none)) else (none)
end Go.Proofs.Ytgleaefhflamnaa.T
namespace Go.Proofs.Ytgleaefhflamnaa.T
open Go.RowKit Go.Proofs.YtgleaefhflamnaaW.PrintWords Go.Proofs.YtgleaefhflamnaaW.PrintLast Go.Proofs.YtgleaefhflamnaaW.PrintMore
theorem keys_nil (k : Nat) (t : List S34) (r : Int) (met : List Bool) : steps_keys.l0 (k + 1) t r met [] = some (r, met, 0) := by
 rw [steps_keys.l0]
 exact if_neg (by simp)
theorem keys_step (k : Nat) (t : List S34) (r : Int) (met : List Bool) (i : Int) (s : List Int) (hs : s.length < 17592186044416) :
  steps_keys.l0 (k + 1) t r met (i :: s).reverse =
   if 0 ≤ i then (if i < met.length then (if i < t.length then
    (if (t.getD i.toNat z34).f4 ≥ 0 then (if s.length + 2 < 17592186044416 then steps_keys.l0 k t r (met.set i.toNat true) ((t.getD i.toNat z34).f5 :: (t.getD i.toNat z34).f4 :: s).reverse else none)
     else steps_keys.l0 k t r (met.set i.toNat true) s.reverse) else none) else none) else none := by
 have e : (i :: s).reverse = s.reverse ++ [i] := List.reverse_cons
 have e2 : ((t.getD i.toNat z34).f5 :: (t.getD i.toNat z34).f4 :: s).reverse = s.reverse ++ [(t.getD i.toNat z34).f4, (t.getD i.toNat z34).f5] := by simp
 rw [e, e2]
 generalize hr : s.reverse = s'
 have hl : s'.length = s.length := by rw [← hr, List.length_reverse]
 rw [← hl] at hs ⊢
 have h1 : wrap64 (((s' ++ [i]).length : Int) - 1) = s'.length := by rw [List.length_append, List.length_singleton, Go.IntWalk.wrap64_in _ (by omega)]; omega
 have h2 : rd (s' ++ [i]) (s'.length : Int) = i := by simp [rd]
 have h3 : (s' ++ [i]).take ((s'.length : Int)).toNat = s' := by simp
 rw [steps_keys.l0, h1, h2, h3]
 rw [if_pos (by rw [List.length_append, List.length_singleton]; omega), if_pos (by omega), if_pos (by rw [List.length_append, List.length_singleton]; omega), if_pos (by rw [List.length_append, List.length_singleton]; omega)]
 rw [show rd_T34 t i = t.getD i.toNat z34 from rfl]
 simp only [Option.bind_some, List.length_cons, List.length_nil, Nat.zero_add]
theorem keys_tree (t : List S34) (r : Int) (K : Nat) (hlen : t.length ≤ 100000) (hf : FormT t) : ∀ (k : Nat) (met : List Bool) (s ps : List Int), met.length = t.length → plF t K s = some ps → ps.length < k → ps.length ≤ 1000000 →
  ∃ met', steps_keys.l0 k t r met s.reverse = some (r, met', 0) ∧ met'.length = t.length ∧ ∀ c : Nat, c < t.length → (met'.getD c false = true ↔ met.getD c false = true ∨ (c : Int) ∈ ps) := by
 intro k
 induction k with
 | zero => intro met s ps _ _ h; exact absurd h (by omega)
 | succ k ih =>
  intro met s ps hm hp hk ho
  cases s with
  | nil =>
   rw [plF] at hp
   injection hp with hp
   subst hp
   exact ⟨met, by rw [List.reverse_nil, keys_nil], hm, fun c hc => by simp⟩
  | cons i s =>
   obtain ⟨T, q, h0, hT, hq, rfl⟩ := plF_cons hp
   have hsl := plF_len hp
   rw [List.length_cons, List.length_append] at hsl
   rw [List.length_append] at hk ho
   rw [keys_step _ _ _ _ _ _ (by omega), if_pos h0]
   cases K with
   | zero => simp [mkT] at hT
   | succ K =>
    rw [mkT] at hT
    split at hT
    case isFalse => exact absurd hT (by simp)
    rename_i hi
    rw [if_pos (by omega), if_pos (by omega)]
    have hset : ∀ c : Nat, c < t.length → ((met.set i.toNat true).getD c false = true ↔ met.getD c false = true ∨ (c : Int) = i) := by
     intro c hc
     by_cases e : i.toNat = c
     ·subst e
      rw [getD_set_eq _ _ _ (by omega)]
      simp; omega
     ·rw [getD_set_ne _ _ _ e]
      have : ¬ (c : Int) = i := by omega
      simp [this]
    split at hT
    ·rename_i h4
     obtain ⟨Tl, hl, hT⟩ := Option.bind_eq_some_iff.1 hT
     obtain ⟨Tr', hr, hT⟩ := Option.bind_eq_some_iff.1 hT
     obtain rfl := Option.some.inj hT
     simp only [plT, List.length_cons, List.length_append] at hk ho hsl
     have h5 : 0 ≤ (t.getD i.toNat z34).f5 := by have := hf i.toNat hi; omega
     rw [if_pos h4, if_pos (by omega)]
     obtain ⟨met', e1, e2, e3⟩ := ih (met.set i.toNat true) (_ :: _ :: s) _ (by rw [List.length_set, hm]) (plF_mk h5 (mkT_mono t _ _ _ hr) (plF_mk h4 (mkT_mono t _ _ _ hl) hq)) (by simp only [List.length_append]; omega) (by simp only [List.length_append]; omega)
     refine ⟨met', e1, e2, fun c hc => ?_⟩
     rw [e3 c hc, hset c hc]
     simp only [plT, List.cons_append, List.mem_cons, List.mem_append, Int.toNat_of_nonneg h0, or_assoc]
     exact or_congr_right (or_congr_right or_left_comm)
    ·rename_i h4
     obtain rfl := Option.some.inj hT
     simp only [plT, List.length_cons, List.length_nil, List.append_nil] at hk ho hsl
     rw [if_neg (by omega)]
     obtain ⟨met', e1, e2, e3⟩ := ih (met.set i.toNat true) s _ (by rw [List.length_set, hm]) hq (by omega) (by omega)
     refine ⟨met', e1, e2, fun c hc => ?_⟩
     rw [e3 c hc, hset c hc]
     simp only [plT, List.cons_append, List.nil_append, List.mem_cons, List.mem_append, Int.toNat_of_nonneg h0, or_assoc]
theorem root_total (t : List S34) : ∃ k r1 r2, table_Root.f k t = some (r1, r2) ∧ (r2 = 0 → ∃ T X0, Good t T ∧ Crown T X0 ∧ plc X0 = r1) := by
 obtain ⟨k, r, h, hg⟩ := check_total t
 by_cases h0 : r = 0
 ·obtain ⟨T, hT⟩ := hg h0
  obtain ⟨k', r1, r2, h1, h2, _⟩ := root_good hT
  exact ⟨k', r1, r2, h1, fun e => by obtain ⟨X0, h3, h4⟩ := h2 e; exact ⟨T, X0, hT, h3, h4⟩⟩
 ·refine ⟨k, 0, r, ?_, fun e => absurd e h0⟩
  unfold table_Root.f
  rw [h, Option.bind_some, if_neg h0]
theorem crown_tree {t : List S34} {T X0 : Tr} (hg : Good t T) (h : Crown T X0) : ∃ c0 : Nat, plc X0 = c0 ∧ c0 < t.length ∧ mkT t t.length c0 = some X0 ∧ (plT X0).Nodup ∧ (plT X0).length ≤ t.length := by
 have hn := hg.nodup
 have ha := hg.all
 obtain ⟨n0, n1, p1, q1, q0, rfl, _, _, _, _, _, hXn⟩ := h
 obtain ⟨_, _, _, h3⟩ := mkT_node hg.form hg.tree
 obtain ⟨_, k1, hk1, h5, _⟩ := h3 (by simp)
 obtain ⟨_, _, _, e3⟩ := mkT_node hg.form h5
 obtain ⟨_, k2, hk2, e5, _⟩ := e3 hXn
 simp only [plT, List.cons_append, List.nodup_cons, List.length_cons, List.length_append] at hn ha
 refine ⟨n1.f4.toNat, mkT_plc e5, ?_, mkT_le t (by omega) e5, ?_, by omega⟩
 ·have := (plT_mem _ _ _ e5).2 _ (plT_mem _ _ _ e5).1
  omega
 ·have h1 := hn.2.2
  rw [List.append_assoc] at h1
  exact nodup_app_l h1
end Go.Proofs.Ytgleaefhflamnaa.T
namespace Go.Proofs.Ytgleaefhflamnaa.T
open Go.RowKit Go.Proofs.YtgleaefhflamnaaW.PrintWords Go.Proofs.YtgleaefhflamnaaW.PrintLast Go.Proofs.YtgleaefhflamnaaW.PrintMore
/-- A move that can be done: what it starts from and what it gives. -/
structure Moved (t : List S34) (a1 kind : Int) (mir : Bool) (u : List S34) (T X0 X R : Tr) (c : Nat) (rt : Bool) : Prop where
 good : Good t T
 crown : Crown T X0
 place : a1 = c
 inX : (c : Int) ∈ plT X0
 sub : mkT t t.length c = some X
 isrt : (a1 == plc X0) = rt
 gives : Gives rt X R
 can : canT mir rt X kind = true
 kinds : 1 ≤ kind ∧ kind ≤ 12
 isR : R = if rt = true then setW (doT mir X kind) 1 else doT mir X kind
 okR : Ok (replT c R T)
 sizeR : sizeT (replT c R T) = t.length
 isu : u = flatT (replT c R T) 0
end Go.Proofs.Ytgleaefhflamnaa.T
namespace Go.Proofs.Ytgleaefhflamnaa.T
open Go.RowKit Go.Proofs.YtgleaefhflamnaaW.PrintWords Go.Proofs.YtgleaefhflamnaaW.PrintLast Go.Proofs.YtgleaefhflamnaaW.PrintMore
attribute [local go_sem] max2_int min2_int max_two min_two max_three min_three max_four min_four   -- for this text's walks alone
set_option linter.unusedVariables false
set_option linter.unusedSimpArgs false
mutual
def table_sub.l0 : Nat → List (S34) → List Int → List Int → List Int → Int → Int → Option ((List (S34)))
 | 0, _, _, _, _, _, _ => none
 | k + 1, x0, x5, x6, x19, x20, x21 => if x21 < x20 then (if 0 ≤ x21 then (if x21 < (x19.length : Int) then (if 0 ≤ (rd x19 x21) then (if (rd x19 x21) < (x6.length : Int) then (table_sub.l0 k x0 x5 (x6.set ((rd x19 x21) : Int).toNat x21) x19 x20 (wrap64 (x21 + 1))) else (none)) else (none)) else (none)) else (none)) else (if 0 ≤ (x5.length : Int) then (if ((x5.length : Int) : Int).toNat ≤ 5864062014805 then (table_sub.l1 k x0 x6 (([] : List (S34))) x5 (x5.length : Int) 0) else (none)) else (none))
def table_sub.l1 : Nat → List (S34) → List Int → List (S34) → List Int → Int → Int → Option ((List (S34)))
 | 0, _, _, _, _, _, _ => none
 | k + 1, x0, x6, x9, x34, x35, x36 => if x36 < x35 then (if 0 ≤ x36 then (if x36 < (x34.length : Int) then (if 0 ≤ (rd x34 x36) then (if (rd x34 x36) < (x0.length : Int) then ((table_isLeaf.f ((rd_T34 x0 (rd x34 x36)).f0) ((rd_T34 x0 (rd x34 x36)).f1) ((rd_T34 x0 (rd x34 x36)).f2) ((rd_T34 x0 (rd x34 x36)).f3) ((rd_T34 x0 (rd x34 x36)).f4) ((rd_T34 x0 (rd x34 x36)).f5)).bind fun t287 => (if t287 = true then (if x9.length < 2932031007402 then (table_sub.l1 k x0 x6 (x9 ++ [(⟨(rd_T34 x0 (rd x34 x36)).f0, (rd_T34 x0 (rd x34 x36)).f1, (rd_T34 x0 (rd x34 x36)).f2, (rd_T34 x0 (rd x34 x36)).f3, (rd_T34 x0 (rd x34 x36)).f4, (rd_T34 x0 (rd x34 x36)).f5⟩ : S34)]) x34 x35 (wrap64 (x36 + 1))) else (none)) else (if 0 ≤ ((rd_T34 x0 (rd x34 x36)).f4) then (if ((rd_T34 x0 (rd x34 x36)).f4) < (x6.length : Int) then (if 0 ≤ ((rd_T34 x0 (rd x34 x36)).f5) then (if ((rd_T34 x0 (rd x34 x36)).f5) < (x6.length : Int) then (if x9.length < 2932031007402 then (table_sub.l1 k x0 x6 (x9 ++ [(⟨(rd_T34 x0 (rd x34 x36)).f0, (rd_T34 x0 (rd x34 x36)).f1, (rd_T34 x0 (rd x34 x36)).f2, (rd_T34 x0 (rd x34 x36)).f3, rd x6 ((rd_T34 x0 (rd x34 x36)).f4), rd x6 ((rd_T34 x0 (rd x34 x36)).f5)⟩ : S34)]) x34 x35 (wrap64 (x36 + 1))) else (none)) else (none)) else (none)) else (none)) else (none)))) else (none)) else (none)) else (none)) else (none)) else (some x9)
end
def table_sub.f (k : Nat) (l0 : List (S34)) (a1 : Int) : Option ((List (S34))) := (table_order.f k l0 a1).bind fun t273 => (if 0 ≤ (l0.length : Int) then (if ((l0.length : Int) : Int).toNat ≤ 35184372088832 then (table_sub.l0 k l0 t273 (List.replicate ((l0.length : Int) : Int).toNat 0) t273 (t273.length : Int) 0) else (none)) else (none))
def table_Norm.f (k : Nat) (l0 : List (S34)) : Option ((List (S34)) × Int) := (table_Check.f k l0).bind fun t296 => (if t296 = 0 then ((table_sub.f k l0 0).bind fun t297 => (some (t297, 0))) else (some (([] : List (S34)), t296)))
def table_Leaves.l0 : Nat → List (S34) → List Int → List Int → Int → Int → Option (List Int × Int)
 | 0, _, _, _, _, _ => none
 | k + 1, x0, x5, x14, x15, x16 => if x16 < x15 then (if 0 ≤ x16 then (if x16 < (x14.length : Int) then (if 0 ≤ (rd x14 x16) then (if (rd x14 x16) < (x0.length : Int) then ((table_isLeaf.f ((rd_T34 x0 (rd x14 x16)).f0) ((rd_T34 x0 (rd x14 x16)).f1) ((rd_T34 x0 (rd x14 x16)).f2) ((rd_T34 x0 (rd x14 x16)).f3) ((rd_T34 x0 (rd x14 x16)).f4) ((rd_T34 x0 (rd x14 x16)).f5)).bind fun t306 => (if t306 = true then (if x5.length < 17592186044416 then (table_Leaves.l0 k x0 (x5 ++ [rd x14 x16]) x14 x15 (wrap64 (x16 + 1))) else (none)) else (table_Leaves.l0 k x0 x5 x14 x15 (wrap64 (x16 + 1))))) else (none)) else (none)) else (none)) else (none)) else (some (x5, 0))
def table_Leaves.f (k : Nat) (l0 : List (S34)) : Option (List Int × Int) := (table_Check.f k l0).bind fun t300 => (if t300 = 0 then ((table_order.f k l0 0).bind fun t301 => (table_Leaves.l0 k l0 ([] : List Int) t301 (t301.length : Int) 0)) else (some (([] : List Int), t300)))
end Go.Proofs.Ytgleaefhflamnaa.T
namespace Go.Proofs.Ytgleaefhflamnaa.T
open Go.RowKit Go.Proofs.YtgleaefhflamnaaW.PrintWords Go.Proofs.YtgleaefhflamnaaW.PrintLast Go.Proofs.YtgleaefhflamnaaW.PrintMore
attribute [local go_sem] max2_int min2_int max_two min_two max_three min_three max_four min_four   -- for this text's walks alone
set_option linter.unusedVariables false
set_option linter.unusedSimpArgs false
theorem eqA24 (d : Nat) (w : World) (x0 y0 : Int) (x1 y1 : Bool) :
  (Op.equalIn (d + 2) 24 (.agg #[.int .i64 x0, .bool x1]) (.agg #[.int .i64 y0, .bool y1])).run Try.prog w = .ok (x0 == y0 && (x1 == y1)) w := by
 refine eqA_of Try.underlying24 (by kernel_rfl) ?_
 refine eqf_cons (by rfl) (by go_simp; rfl) (by go_simp; rfl) (by go_simp) ?_
 exact eqf_last (by rfl) (by go_simp; rfl) (by go_simp; rfl) (by go_simp)
end Go.Proofs.Ytgleaefhflamnaa.T
