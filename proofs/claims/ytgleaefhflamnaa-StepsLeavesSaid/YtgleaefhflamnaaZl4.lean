/- A part of the proof: see YtgleaefhflamnaaLawStepsLeaves. -/
import Derived.LaidEqlPtr
import Derived.IntWalk
import Derived.Test.YtgleaefhflamnaaZl3
set_option linter.unusedVariables false
set_option linter.unusedSimpArgs false
namespace Go.Proofs.Ytgleaefhflamnaa.T
open Go.RowKit Go.Proofs.YtgleaefhflamnaaW.PrintWords Go.Proofs.YtgleaefhflamnaaW.PrintLast Go.Proofs.YtgleaefhflamnaaW.PrintMore
variable {S : Nat → Prop}
set_option maxHeartbeats 4000000 in
set_option maxRecDepth 100000 in
theorem do7_any (m rt : Bool) (p pl pr pll plr prl prr pa pb : Option Addr) {nx : S34} {qx : Int} {lx rx : Tr} {nl : S34} {ql : Int} {ll rl : Tr} {nr : S34} {qr : Int} {lr rr : Tr} {nrl : S34} {qrl : Int} {lrl rrl : Tr} {na : S34} {qa : Int} {la ra : Tr} {X : Tr} {L : Tr} {R : Tr} {RL : Tr} {RR : Tr} {A : Tr} {B : Tr} (w : World) (hS : ∀ k, w.heap.size ≤ k → S k) (ex : X = .node nx qx lx rx) (el : L = .node nl ql ll rl) (er : R = .node nr qr lr rr) (erl : RL = .node nrl qrl lrl rrl) (ea : A = .node na qa la ra) (Hx : Aside0 (Rep S w (.pointer p) X)) (Hl : Aside0 (Rep S w (.pointer pl) L)) (Hr : Aside0 (Rep S w (.pointer pr) R)) (Hrl : Aside0 (Rep S w (.pointer prl) RL)) (Hrr : Aside0 (Rep S w (.pointer prr) RR)) (Ha : Aside0 (Rep S w (.pointer pa) A)) (Hb : Aside0 (Rep S w (.pointer pb) B)) :
  Calls Try.prog 65 #[.agg #[.bool m, .pointer p, .pointer pl, .pointer pr, .pointer pll, .pointer plr, .pointer prl, .pointer prr, .pointer pa, .pointer pb, .bool rt], .int .i64 7] w fun e w' => DoPost S w (putT m (keyT R) (wt X) (putT m (keyT A) 0 (putT m (keyT X) 1 (lessT L) (lT m A)) (putT m (keyT RL) 1 (rT m A) B)) RR) e w' := by
 have hu111 := Try.underlying111
 have Ex := Am ex
 clear ex
 have El := Am el
 clear el
 have Er := Am er
 clear er
 have Erl := Am erl
 clear erl
 have Ea := Am ea
 clear ea
 have HSS := Am hS
 clear hS
 have hfin := do_fin (S := S) w (putT m (keyT R) (wt X) (putT m (keyT A) 0 (putT m (keyT X) 1 (lessT L) (lT m A)) (putT m (keyT RL) 1 (rT m A) B)) RR)
 have HF := Am hfin
 clear hfin
 go_enter Try.func65, Try.ntmps65
 go_wp2_with (fail)
 refine (weight_any _ _ _ (Hx.out.below ((Below.refl _ _).alloc (Nat.le_refl _) _))).mono ?_
 rintro e w' ⟨rfl, rfl⟩
 go_wp2
 have HB0 : Aside0 (Below w.heap.size w (w.alloc (.cells #[.bool m, .pointer p, .pointer pl, .pointer pr, .pointer pll, .pointer plr, .pointer prl, .pointer prr, .pointer pa, .pointer pb, .bool rt] 111))) := ⟨(Below.refl _ _).alloc (Nat.le_refl _) _⟩
 have HV0 : Aside0 ((w.alloc (.cells #[.bool m, .pointer p, .pointer pl, .pointer pr, .pointer pll, .pointer plr, .pointer prl, .pointer prr, .pointer pa, .pointer pb, .bool rt] 111)).heap[w.heap.size]? = some (.cells #[.bool m, .pointer p, .pointer pl, .pointer pr, .pointer pll, .pointer plr, .pointer prl, .pointer prr, .pointer pa, .pointer pb, .bool rt] 111 (0, 0))) := ⟨heap_alloc_new w _⟩
 generalize w.alloc (.cells #[.bool m, .pointer p, .pointer pl, .pointer pr, .pointer pll, .pointer plr, .pointer prl, .pointer prr, .pointer pa, .pointer pb, .bool rt] 111) = w1 at HB0 HV0 ⊢
 obtain ⟨g, hg⟩ : ∃ g, g = w.heap.size := ⟨_, rfl⟩
 rw [← hg] at HV0 ⊢
 clear hg
 have HB0_ := Am (bd HB0.out)
 have HV0_ : Aside0 (w1.drew.heap[g]? = some (.cells #[.bool m, .pointer p, .pointer pl, .pointer pr, .pointer pll, .pointer plr, .pointer prl, .pointer prr, .pointer pa, .pointer pb, .bool rt] 111 (0, 0))) := ⟨HV0.out⟩
 clear HB0 HV0 
 have HB0 := HB0_
 have HV0 := HV0_
 clear HB0_ HV0_
 refine start_ (n := 12) (S := fun w' => w'.cell? ⟨g, 0, none⟩ = some (.bool m) ∧ w'.cell? ⟨g, 1, none⟩ = some (.pointer p) ∧ w'.cell? ⟨g, 2, none⟩ = some (.pointer pl) ∧ w'.cell? ⟨g, 3, none⟩ = some (.pointer pr) ∧ w'.cell? ⟨g, 4, none⟩ = some (.pointer pll) ∧ w'.cell? ⟨g, 5, none⟩ = some (.pointer plr) ∧ w'.cell? ⟨g, 6, none⟩ = some (.pointer prl) ∧ w'.cell? ⟨g, 7, none⟩ = some (.pointer prr) ∧ w'.cell? ⟨g, 8, none⟩ = some (.pointer pa) ∧ w'.cell? ⟨g, 9, none⟩ = some (.pointer pb) ∧ w'.cell? ⟨g, 10, none⟩ = some (.bool rt)) (ds := []) #[false, false, false, false, false, false, false, false, false, false, false, false] (by kernel_rfl) rfl rfl ⟨(cell_of HV0.out 0).trans rfl, (cell_of HV0.out 1).trans rfl, (cell_of HV0.out 2).trans rfl, (cell_of HV0.out 3).trans rfl, (cell_of HV0.out 4).trans rfl, (cell_of HV0.out 5).trans rfl, (cell_of HV0.out 6).trans rfl, (cell_of HV0.out 7).trans rfl, (cell_of HV0.out 8).trans rfl, (cell_of HV0.out 9).trans rfl, (cell_of HV0.out 10).trans rfl⟩ (fun hHeld => ?_)
 refine pu 1 182 ?_
 refine pu 3 184 ?_
 refine pu 7 188 ?_
 refine ta 0 181 hHeld ?_
 refine ta 2 183 hHeld ?_
 refine ta 4 185 hHeld ?_
 refine ta 6 187 hHeld ?_
 refine ta 8 189 hHeld ?_
 refine one_ (i := 5) (N := some 186) #[true, true, true, true, true, true, true, true, true, false, false, false] rfl rfl (by kernel_rfl) (by decide) (fun K hK => ?_)
 refine goes_ Try.func95 (by kernel_rfl) rfl #[.pointer pl] (by rfl) rfl rfl (by (try simp only [List.map_toArray, List.map_cons, List.map_nil]); first | done | rfl) ?_
 with_reducible refine (less_any _ _ _ _ _ _ (fun k hk => HSS.out k (Nat.le_trans HB0.out.size hk)) (by rw [← El.out]; exact (Hl.out.below HB0.out))).mono ?_
 rw [← El.out]
 rintro e w1_ ⟨v', rfl, h1, h2⟩
 obtain ⟨q1, rfl⟩ := h1.ptr
 have HB1 := Am (HB0.out.trans (h2.mono HB0.out.size))
 have HNq1 := Am (TopRep.rep h1 h2)
 have HV1 := Am ((h2.block _ (Array.getElem?_eq_some_iff.1 HV0.out).1).trans HV0.out)
 clear h1 h2 HB0 HV0
 refine ⟨_, rfl, ?_⟩
 refine hK.out _ _ ⟨(cell_of HV1.out 0).trans rfl, (cell_of HV1.out 1).trans rfl, (cell_of HV1.out 2).trans rfl, (cell_of HV1.out 3).trans rfl, (cell_of HV1.out 4).trans rfl, (cell_of HV1.out 5).trans rfl, (cell_of HV1.out 6).trans rfl, (cell_of HV1.out 7).trans rfl, (cell_of HV1.out 8).trans rfl, (cell_of HV1.out 9).trans rfl, (cell_of HV1.out 10).trans rfl⟩ (fun hHeld => ?_)
 clear hK K
 refine norm_ (a' := ?_) ?_ ?_
 rotate_left
 ·show Act.put _ (some 186) _ = _
  simp only [Act.put, sI, sZ, sS, i64_w, i32_w]
  rfl
 refine one_ (i := 9) (N := some 190) #[true, true, true, true, true, true, true, true, true, true, false, false] rfl rfl (by kernel_rfl) (by decide) (fun K hK => ?_)
 refine goes_ Try.func85 (by kernel_rfl) rfl #[.agg #[.bool m, .pointer p, .pointer pl, .pointer pr, .pointer pll, .pointer plr, .pointer prl, .pointer prr, .pointer pa, .pointer pb, .bool rt], .pointer pa] (by rfl) rfl rfl (by (try simp only [List.map_toArray, List.map_cons, List.map_nil]); first | done | rfl) ?_
 with_reducible refine (left_any _ _ _ _ _ _ _ _ _ _ _ _ _ w _ Ha.out HB1.out).mono ?_
 rintro e w2_ ⟨v', rfl, h1, h2⟩
 obtain ⟨q2, rfl⟩ := h1.ptr
 have HB2 := Am (HB1.out.trans (h2.mono HB1.out.size))
 have HNq2 := Am (Rep.below h1 HB2.out)
 have HV2 := Am ((h2.block _ (Array.getElem?_eq_some_iff.1 HV1.out).1).trans HV1.out)
 have HNq1_ := Am (Rep.below HNq1.out h2)
 clear HNq1
 have HNq1 := HNq1_
 clear HNq1_
 clear h1 h2 HB1 HV1
 refine ⟨_, rfl, ?_⟩
 refine hK.out _ _ ⟨(cell_of HV2.out 0).trans rfl, (cell_of HV2.out 1).trans rfl, (cell_of HV2.out 2).trans rfl, (cell_of HV2.out 3).trans rfl, (cell_of HV2.out 4).trans rfl, (cell_of HV2.out 5).trans rfl, (cell_of HV2.out 6).trans rfl, (cell_of HV2.out 7).trans rfl, (cell_of HV2.out 8).trans rfl, (cell_of HV2.out 9).trans rfl, (cell_of HV2.out 10).trans rfl⟩ (fun hHeld => ?_)
 clear hK K
 refine norm_ (a' := ?_) ?_ ?_
 rotate_left
 ·show Act.put _ (some 190) _ = _
  simp only [Act.put, sI, sZ, sS, i64_w, i32_w]
  rfl
 refine one_ (i := 10) (N := some 191) #[true, true, true, true, true, true, true, true, true, true, true, false] rfl rfl (by kernel_rfl) (by decide) (fun K hK => ?_)
 refine goes_ Try.func93 (by kernel_rfl) rfl #[.agg #[.bool m, .pointer p, .pointer pl, .pointer pr, .pointer pll, .pointer plr, .pointer prl, .pointer prr, .pointer pa, .pointer pb, .bool rt], .pointer p, .int .i64 1, .pointer q1, .pointer q2] (by rfl) rfl rfl (by (try simp only [List.map_toArray, List.map_cons, List.map_nil]); first | done | rfl) ?_
 with_reducible refine (put_any _ _ _ _ _ _ _ _ _ _ _ _ _ _ _ _ _ _ _ _ _ _ (fun k hk => HSS.out k (Nat.le_trans HB2.out.size hk)) (by rw [← Ex.out]; exact (Hx.out.below HB2.out)) HNq1.out HNq2.out).mono ?_
 rw [show nx.f0 = keyT X from by rw [Ex.out]; rfl]
 rintro e w3_ ⟨v', rfl, h1, h2⟩
 obtain ⟨q3, rfl⟩ := h1.ptr
 have HB3 := Am (HB2.out.trans (h2.mono HB2.out.size))
 have HNq3 := Am (TopRep.rep h1 h2)
 have HV3 := Am ((h2.block _ (Array.getElem?_eq_some_iff.1 HV2.out).1).trans HV2.out)
 have HNq1_ := Am (Rep.below HNq1.out h2)
 clear HNq1
 have HNq1 := HNq1_
 clear HNq1_
 have HNq2_ := Am (Rep.below HNq2.out h2)
 clear HNq2
 have HNq2 := HNq2_
 clear HNq2_
 clear h1 h2 HB2 HV2
 refine ⟨_, rfl, ?_⟩
 refine hK.out _ _ ⟨(cell_of HV3.out 0).trans rfl, (cell_of HV3.out 1).trans rfl, (cell_of HV3.out 2).trans rfl, (cell_of HV3.out 3).trans rfl, (cell_of HV3.out 4).trans rfl, (cell_of HV3.out 5).trans rfl, (cell_of HV3.out 6).trans rfl, (cell_of HV3.out 7).trans rfl, (cell_of HV3.out 8).trans rfl, (cell_of HV3.out 9).trans rfl, (cell_of HV3.out 10).trans rfl⟩ (fun hHeld => ?_)
 clear hK K
 refine norm_ (a' := ?_) ?_ ?_
 rotate_left
 ·show Act.put _ (some 191) _ = _
  simp only [Act.put, sI, sZ, sS, i64_w, i32_w]
  rfl
 refine pu 11 6 ?_
 refine done_ (by kernel_rfl) ?_
 try clear hHeld
 go_wp2
 have HB3_ := Am (bd HB3.out)
 have HV3_ : Aside0 (w3_.drew.heap[g]? = some (.cells #[.bool m, .pointer p, .pointer pl, .pointer pr, .pointer pll, .pointer plr, .pointer prl, .pointer prr, .pointer pa, .pointer pb, .bool rt] 111 (0, 0))) := ⟨HV3.out⟩
 have HNq1_ : Aside0 (Rep S w3_.drew (.pointer q1) (lessT L)) := ⟨Rep.kept (w := w3_) (w' := w3_.drew) (fun _ _ => rfl) HNq1.out⟩
 have HNq2_ : Aside0 (Rep S w3_.drew (.pointer q2) (lT m A)) := ⟨Rep.kept (w := w3_) (w' := w3_.drew) (fun _ _ => rfl) HNq2.out⟩
 have HNq3_ : Aside0 (Rep S w3_.drew (.pointer q3) (putT m (keyT X) 1 (lessT L) (lT m A))) := ⟨Rep.kept (w := w3_) (w' := w3_.drew) (fun _ _ => rfl) HNq3.out⟩
 clear HB3 HV3 HNq1 HNq2 HNq3
 have HB3 := HB3_
 have HV3 := HV3_
 clear HB3_ HV3_
 have HNq1 := HNq1_
 clear HNq1_
 have HNq2 := HNq2_
 clear HNq2_
 have HNq3 := HNq3_
 clear HNq3_
 refine start_ (n := 11) (S := fun w' => w'.cell? ⟨g, 0, none⟩ = some (.bool m) ∧ w'.cell? ⟨g, 1, none⟩ = some (.pointer p) ∧ w'.cell? ⟨g, 2, none⟩ = some (.pointer pl) ∧ w'.cell? ⟨g, 3, none⟩ = some (.pointer pr) ∧ w'.cell? ⟨g, 4, none⟩ = some (.pointer pll) ∧ w'.cell? ⟨g, 5, none⟩ = some (.pointer plr) ∧ w'.cell? ⟨g, 6, none⟩ = some (.pointer prl) ∧ w'.cell? ⟨g, 7, none⟩ = some (.pointer prr) ∧ w'.cell? ⟨g, 8, none⟩ = some (.pointer pa) ∧ w'.cell? ⟨g, 9, none⟩ = some (.pointer pb) ∧ w'.cell? ⟨g, 10, none⟩ = some (.bool rt)) (ds := []) #[false, false, false, false, false, false, false, false, false, false, false] (by kernel_rfl) rfl rfl ⟨(cell_of HV3.out 0).trans rfl, (cell_of HV3.out 1).trans rfl, (cell_of HV3.out 2).trans rfl, (cell_of HV3.out 3).trans rfl, (cell_of HV3.out 4).trans rfl, (cell_of HV3.out 5).trans rfl, (cell_of HV3.out 6).trans rfl, (cell_of HV3.out 7).trans rfl, (cell_of HV3.out 8).trans rfl, (cell_of HV3.out 9).trans rfl, (cell_of HV3.out 10).trans rfl⟩ (fun hHeld => ?_)
 refine pu 1 193 ?_
 refine pu 4 196 ?_
 refine pu 7 199 ?_
 refine ta 0 192 hHeld ?_
 refine ta 2 194 hHeld ?_
 refine ta 3 195 hHeld ?_
 refine ta 5 197 hHeld ?_
 refine ta 8 200 hHeld ?_
 refine one_ (i := 6) (N := some 198) #[true, true, true, true, true, true, true, true, true, false, false] rfl rfl (by kernel_rfl) (by decide) (fun K hK => ?_)
 refine goes_ Try.func86 (by kernel_rfl) rfl #[.agg #[.bool m, .pointer p, .pointer pl, .pointer pr, .pointer pll, .pointer plr, .pointer prl, .pointer prr, .pointer pa, .pointer pb, .bool rt], .pointer pa] (by rfl) rfl rfl (by (try simp only [List.map_toArray, List.map_cons, List.map_nil]); first | done | rfl) ?_
 with_reducible refine (right_any _ _ _ _ _ _ _ _ _ _ _ _ _ w _ Ha.out HB3.out).mono ?_
 rintro e w4_ ⟨v', rfl, h1, h2⟩
 obtain ⟨q4, rfl⟩ := h1.ptr
 have HB4 := Am (HB3.out.trans (h2.mono HB3.out.size))
 have HNq4 := Am (Rep.below h1 HB4.out)
 have HV4 := Am ((h2.block _ (Array.getElem?_eq_some_iff.1 HV3.out).1).trans HV3.out)
 have HNq1_ := Am (Rep.below HNq1.out h2)
 clear HNq1
 have HNq1 := HNq1_
 clear HNq1_
 have HNq2_ := Am (Rep.below HNq2.out h2)
 clear HNq2
 have HNq2 := HNq2_
 clear HNq2_
 have HNq3_ := Am (Rep.below HNq3.out h2)
 clear HNq3
 have HNq3 := HNq3_
 clear HNq3_
 clear h1 h2 HB3 HV3
 refine ⟨_, rfl, ?_⟩
 refine hK.out _ _ ⟨(cell_of HV4.out 0).trans rfl, (cell_of HV4.out 1).trans rfl, (cell_of HV4.out 2).trans rfl, (cell_of HV4.out 3).trans rfl, (cell_of HV4.out 4).trans rfl, (cell_of HV4.out 5).trans rfl, (cell_of HV4.out 6).trans rfl, (cell_of HV4.out 7).trans rfl, (cell_of HV4.out 8).trans rfl, (cell_of HV4.out 9).trans rfl, (cell_of HV4.out 10).trans rfl⟩ (fun hHeld => ?_)
 clear hK K
 refine norm_ (a' := ?_) ?_ ?_
 rotate_left
 ·show Act.put _ (some 198) _ = _
  simp only [Act.put, sI, sZ, sS, i64_w, i32_w]
  rfl
 refine one_ (i := 9) (N := some 201) #[true, true, true, true, true, true, true, true, true, true, false] rfl rfl (by kernel_rfl) (by decide) (fun K hK => ?_)
 refine goes_ Try.func93 (by kernel_rfl) rfl #[.agg #[.bool m, .pointer p, .pointer pl, .pointer pr, .pointer pll, .pointer plr, .pointer prl, .pointer prr, .pointer pa, .pointer pb, .bool rt], .pointer prl, .int .i64 1, .pointer q4, .pointer pb] (by rfl) rfl rfl (by (try simp only [List.map_toArray, List.map_cons, List.map_nil]); first | done | rfl) ?_
 with_reducible refine (put_any _ _ _ _ _ _ _ _ _ _ _ _ _ _ _ _ _ _ _ _ _ _ (fun k hk => HSS.out k (Nat.le_trans HB4.out.size hk)) (by rw [← Erl.out]; exact (Hrl.out.below HB4.out)) HNq4.out (Hb.out.below HB4.out)).mono ?_
 rw [show nrl.f0 = keyT RL from by rw [Erl.out]; rfl]
 rintro e w5_ ⟨v', rfl, h1, h2⟩
 obtain ⟨q5, rfl⟩ := h1.ptr
 have HB5 := Am (HB4.out.trans (h2.mono HB4.out.size))
 have HNq5 := Am (TopRep.rep h1 h2)
 have HV5 := Am ((h2.block _ (Array.getElem?_eq_some_iff.1 HV4.out).1).trans HV4.out)
 have HNq1_ := Am (Rep.below HNq1.out h2)
 clear HNq1
 have HNq1 := HNq1_
 clear HNq1_
 have HNq2_ := Am (Rep.below HNq2.out h2)
 clear HNq2
 have HNq2 := HNq2_
 clear HNq2_
 have HNq3_ := Am (Rep.below HNq3.out h2)
 clear HNq3
 have HNq3 := HNq3_
 clear HNq3_
 have HNq4_ := Am (Rep.below HNq4.out h2)
 clear HNq4
 have HNq4 := HNq4_
 clear HNq4_
 clear h1 h2 HB4 HV4
 refine ⟨_, rfl, ?_⟩
 refine hK.out _ _ ⟨(cell_of HV5.out 0).trans rfl, (cell_of HV5.out 1).trans rfl, (cell_of HV5.out 2).trans rfl, (cell_of HV5.out 3).trans rfl, (cell_of HV5.out 4).trans rfl, (cell_of HV5.out 5).trans rfl, (cell_of HV5.out 6).trans rfl, (cell_of HV5.out 7).trans rfl, (cell_of HV5.out 8).trans rfl, (cell_of HV5.out 9).trans rfl, (cell_of HV5.out 10).trans rfl⟩ (fun hHeld => ?_)
 clear hK K
 refine norm_ (a' := ?_) ?_ ?_
 rotate_left
 ·show Act.put _ (some 201) _ = _
  simp only [Act.put, sI, sZ, sS, i64_w, i32_w]
  rfl
 refine pu 10 7 ?_
 refine done_ (by kernel_rfl) ?_
 try clear hHeld
 go_wp2
 have HB5_ := Am (bd HB5.out)
 have HV5_ : Aside0 (w5_.drew.heap[g]? = some (.cells #[.bool m, .pointer p, .pointer pl, .pointer pr, .pointer pll, .pointer plr, .pointer prl, .pointer prr, .pointer pa, .pointer pb, .bool rt] 111 (0, 0))) := ⟨HV5.out⟩
 have HNq1_ : Aside0 (Rep S w5_.drew (.pointer q1) (lessT L)) := ⟨Rep.kept (w := w5_) (w' := w5_.drew) (fun _ _ => rfl) HNq1.out⟩
 have HNq2_ : Aside0 (Rep S w5_.drew (.pointer q2) (lT m A)) := ⟨Rep.kept (w := w5_) (w' := w5_.drew) (fun _ _ => rfl) HNq2.out⟩
 have HNq3_ : Aside0 (Rep S w5_.drew (.pointer q3) (putT m (keyT X) 1 (lessT L) (lT m A))) := ⟨Rep.kept (w := w5_) (w' := w5_.drew) (fun _ _ => rfl) HNq3.out⟩
 have HNq4_ : Aside0 (Rep S w5_.drew (.pointer q4) (rT m A)) := ⟨Rep.kept (w := w5_) (w' := w5_.drew) (fun _ _ => rfl) HNq4.out⟩
 have HNq5_ : Aside0 (Rep S w5_.drew (.pointer q5) (putT m (keyT RL) 1 (rT m A) B)) := ⟨Rep.kept (w := w5_) (w' := w5_.drew) (fun _ _ => rfl) HNq5.out⟩
 clear HB5 HV5 HNq1 HNq2 HNq3 HNq4 HNq5
 have HB5 := HB5_
 have HV5 := HV5_
 clear HB5_ HV5_
 have HNq1 := HNq1_
 clear HNq1_
 have HNq2 := HNq2_
 clear HNq2_
 have HNq3 := HNq3_
 clear HNq3_
 have HNq4 := HNq4_
 clear HNq4_
 have HNq5 := HNq5_
 clear HNq5_
 refine start_ (n := 14) (S := fun w' => w'.cell? ⟨g, 0, none⟩ = some (.bool m) ∧ w'.cell? ⟨g, 1, none⟩ = some (.pointer p) ∧ w'.cell? ⟨g, 2, none⟩ = some (.pointer pl) ∧ w'.cell? ⟨g, 3, none⟩ = some (.pointer pr) ∧ w'.cell? ⟨g, 4, none⟩ = some (.pointer pll) ∧ w'.cell? ⟨g, 5, none⟩ = some (.pointer plr) ∧ w'.cell? ⟨g, 6, none⟩ = some (.pointer prl) ∧ w'.cell? ⟨g, 7, none⟩ = some (.pointer prr) ∧ w'.cell? ⟨g, 8, none⟩ = some (.pointer pa) ∧ w'.cell? ⟨g, 9, none⟩ = some (.pointer pb) ∧ w'.cell? ⟨g, 10, none⟩ = some (.bool rt)) (ds := []) #[false, false, false, false, false, false, false, false, false, false, false, false, false, false] (by kernel_rfl) rfl rfl ⟨(cell_of HV5.out 0).trans rfl, (cell_of HV5.out 1).trans rfl, (cell_of HV5.out 2).trans rfl, (cell_of HV5.out 3).trans rfl, (cell_of HV5.out 4).trans rfl, (cell_of HV5.out 5).trans rfl, (cell_of HV5.out 6).trans rfl, (cell_of HV5.out 7).trans rfl, (cell_of HV5.out 8).trans rfl, (cell_of HV5.out 9).trans rfl, (cell_of HV5.out 10).trans rfl⟩ (fun hHeld => ?_)
 refine pu 1 203 ?_
 refine pu 3 205 ?_
 refine pu 5 207 ?_
 refine pu 7 209 ?_
 refine pu 8 210 ?_
 refine pu 10 212 ?_
 refine ta 0 202 hHeld ?_
 refine ta 2 204 hHeld ?_
 refine ta 4 206 hHeld ?_
 refine ta 6 208 hHeld ?_
 refine ta 11 213 hHeld ?_
 refine one_ (i := 9) (N := some 211) #[true, true, true, true, true, true, true, true, true, true, true, true, false, false] rfl rfl (by kernel_rfl) (by decide) (fun K hK => ?_)
 refine goes_ Try.func93 (by kernel_rfl) rfl #[.agg #[.bool m, .pointer p, .pointer pl, .pointer pr, .pointer pll, .pointer plr, .pointer prl, .pointer prr, .pointer pa, .pointer pb, .bool rt], .pointer pa, .int .i64 0, .pointer q3, .pointer q5] (by rfl) rfl rfl (by (try simp only [List.map_toArray, List.map_cons, List.map_nil]); first | done | rfl) ?_
 with_reducible refine (put_any _ _ _ _ _ _ _ _ _ _ _ _ _ _ _ _ _ _ _ _ _ _ (fun k hk => HSS.out k (Nat.le_trans HB5.out.size hk)) (by rw [← Ea.out]; exact (Ha.out.below HB5.out)) HNq3.out HNq5.out).mono ?_
 rw [show na.f0 = keyT A from by rw [Ea.out]; rfl]
 rintro e w6_ ⟨v', rfl, h1, h2⟩
 obtain ⟨q6, rfl⟩ := h1.ptr
 have HB6 := Am (HB5.out.trans (h2.mono HB5.out.size))
 have HNq6 := Am (TopRep.rep h1 h2)
 have HV6 := Am ((h2.block _ (Array.getElem?_eq_some_iff.1 HV5.out).1).trans HV5.out)
 have HNq1_ := Am (Rep.below HNq1.out h2)
 clear HNq1
 have HNq1 := HNq1_
 clear HNq1_
 have HNq2_ := Am (Rep.below HNq2.out h2)
 clear HNq2
 have HNq2 := HNq2_
 clear HNq2_
 have HNq3_ := Am (Rep.below HNq3.out h2)
 clear HNq3
 have HNq3 := HNq3_
 clear HNq3_
 have HNq4_ := Am (Rep.below HNq4.out h2)
 clear HNq4
 have HNq4 := HNq4_
 clear HNq4_
 have HNq5_ := Am (Rep.below HNq5.out h2)
 clear HNq5
 have HNq5 := HNq5_
 clear HNq5_
 clear h1 h2 HB5 HV5
 refine ⟨_, rfl, ?_⟩
 refine hK.out _ _ ⟨(cell_of HV6.out 0).trans rfl, (cell_of HV6.out 1).trans rfl, (cell_of HV6.out 2).trans rfl, (cell_of HV6.out 3).trans rfl, (cell_of HV6.out 4).trans rfl, (cell_of HV6.out 5).trans rfl, (cell_of HV6.out 6).trans rfl, (cell_of HV6.out 7).trans rfl, (cell_of HV6.out 8).trans rfl, (cell_of HV6.out 9).trans rfl, (cell_of HV6.out 10).trans rfl⟩ (fun hHeld => ?_)
 clear hK K
 refine norm_ (a' := ?_) ?_ ?_
 rotate_left
 ·show Act.put _ (some 211) _ = _
  simp only [Act.put, sI, sZ, sS, i64_w, i32_w]
  rfl
 refine one_ (i := 12) (N := some 214) #[true, true, true, true, true, true, true, true, true, true, true, true, true, false] rfl rfl (by kernel_rfl) (by decide) (fun K hK => ?_)
 refine goes_ Try.func93 (by kernel_rfl) rfl #[.agg #[.bool m, .pointer p, .pointer pl, .pointer pr, .pointer pll, .pointer plr, .pointer prl, .pointer prr, .pointer pa, .pointer pb, .bool rt], .pointer pr, .int .i64 (wt X), .pointer q6, .pointer prr] (by rfl) rfl rfl (by (try simp only [List.map_toArray, List.map_cons, List.map_nil]); first | done | rfl) ?_
 with_reducible refine (put_any _ _ _ _ _ _ _ _ _ _ _ _ _ _ _ _ _ _ _ _ _ _ (fun k hk => HSS.out k (Nat.le_trans HB6.out.size hk)) (by rw [← Er.out]; exact (Hr.out.below HB6.out)) HNq6.out (Hrr.out.below HB6.out)).mono ?_
 rw [show nr.f0 = keyT R from by rw [Er.out]; rfl]
 rintro e w7_ ⟨v', rfl, h1, h2⟩
 obtain ⟨q7, rfl⟩ := h1.ptr
 have HB7 := Am (HB6.out.trans (h2.mono HB6.out.size))
 have HNq7 := Am (TopRep.rep h1 h2)
 have HTOP := Am h1
 have HTB := Am h2
 have HTW := HB6
 have HV7 := Am ((h2.block _ (Array.getElem?_eq_some_iff.1 HV6.out).1).trans HV6.out)
 have HNq1_ := Am (Rep.below HNq1.out h2)
 clear HNq1
 have HNq1 := HNq1_
 clear HNq1_
 have HNq2_ := Am (Rep.below HNq2.out h2)
 clear HNq2
 have HNq2 := HNq2_
 clear HNq2_
 have HNq3_ := Am (Rep.below HNq3.out h2)
 clear HNq3
 have HNq3 := HNq3_
 clear HNq3_
 have HNq4_ := Am (Rep.below HNq4.out h2)
 clear HNq4
 have HNq4 := HNq4_
 clear HNq4_
 have HNq5_ := Am (Rep.below HNq5.out h2)
 clear HNq5
 have HNq5 := HNq5_
 clear HNq5_
 have HNq6_ := Am (Rep.below HNq6.out h2)
 clear HNq6
 have HNq6 := HNq6_
 clear HNq6_
 clear h1 h2 HB6 HV6
 refine ⟨_, rfl, ?_⟩
 refine hK.out _ _ ⟨(cell_of HV7.out 0).trans rfl, (cell_of HV7.out 1).trans rfl, (cell_of HV7.out 2).trans rfl, (cell_of HV7.out 3).trans rfl, (cell_of HV7.out 4).trans rfl, (cell_of HV7.out 5).trans rfl, (cell_of HV7.out 6).trans rfl, (cell_of HV7.out 7).trans rfl, (cell_of HV7.out 8).trans rfl, (cell_of HV7.out 9).trans rfl, (cell_of HV7.out 10).trans rfl⟩ (fun hHeld => ?_)
 clear hK K
 refine norm_ (a' := ?_) ?_ ?_
 rotate_left
 ·show Act.put _ (some 214) _ = _
  simp only [Act.put, sI, sZ, sS, i64_w, i32_w]
  rfl
 refine pu 13 4 ?_
 refine done_ (by kernel_rfl) ?_
 try clear hHeld
 go_wp2
 go_ret
 exact HF.out _ _ _ HTW.out HTB.out HTOP.out
end Go.Proofs.Ytgleaefhflamnaa.T
namespace Go.Proofs.Ytgleaefhflamnaa.T
open Go.RowKit Go.Proofs.YtgleaefhflamnaaW.PrintWords Go.Proofs.YtgleaefhflamnaaW.PrintLast Go.Proofs.YtgleaefhflamnaaW.PrintMore
variable {S : Nat → Prop}
set_option maxHeartbeats 4000000 in
set_option maxRecDepth 100000 in
theorem do8_any (m rt : Bool) (p pl pr pll plr prl prr pa pb : Option Addr) {nx : S34} {qx : Int} {lx rx : Tr} {nl : S34} {ql : Int} {ll rl : Tr} {nr : S34} {qr : Int} {lr rr : Tr} {nrl : S34} {qrl : Int} {lrl rrl : Tr} {nb : S34} {qb : Int} {lb rb : Tr} {X : Tr} {L : Tr} {R : Tr} {RL : Tr} {RR : Tr} {A : Tr} {B : Tr} (w : World) (hS : ∀ k, w.heap.size ≤ k → S k) (ex : X = .node nx qx lx rx) (el : L = .node nl ql ll rl) (er : R = .node nr qr lr rr) (erl : RL = .node nrl qrl lrl rrl) (eb : B = .node nb qb lb rb) (Hx : Aside0 (Rep S w (.pointer p) X)) (Hl : Aside0 (Rep S w (.pointer pl) L)) (Hr : Aside0 (Rep S w (.pointer pr) R)) (Hrl : Aside0 (Rep S w (.pointer prl) RL)) (Hrr : Aside0 (Rep S w (.pointer prr) RR)) (Ha : Aside0 (Rep S w (.pointer pa) A)) (Hb : Aside0 (Rep S w (.pointer pb) B)) :
  Calls Try.prog 65 #[.agg #[.bool m, .pointer p, .pointer pl, .pointer pr, .pointer pll, .pointer plr, .pointer prl, .pointer prr, .pointer pa, .pointer pb, .bool rt], .int .i64 8] w fun e w' => DoPost S w (putT m (keyT R) (wt X) (putT m (keyT RL) 0 (putT m (keyT X) 1 (lessT L) A) (asT 1 B)) RR) e w' := by
 have hu111 := Try.underlying111
 have Ex := Am ex
 clear ex
 have El := Am el
 clear el
 have Er := Am er
 clear er
 have Erl := Am erl
 clear erl
 have Eb := Am eb
 clear eb
 have HSS := Am hS
 clear hS
 have hfin := do_fin (S := S) w (putT m (keyT R) (wt X) (putT m (keyT RL) 0 (putT m (keyT X) 1 (lessT L) A) (asT 1 B)) RR)
 have HF := Am hfin
 clear hfin
 go_enter Try.func65, Try.ntmps65
 go_wp2_with (fail)
 refine (weight_any _ _ _ (Hx.out.below ((Below.refl _ _).alloc (Nat.le_refl _) _))).mono ?_
 rintro e w' ⟨rfl, rfl⟩
 go_wp2
 have HB0 : Aside0 (Below w.heap.size w (w.alloc (.cells #[.bool m, .pointer p, .pointer pl, .pointer pr, .pointer pll, .pointer plr, .pointer prl, .pointer prr, .pointer pa, .pointer pb, .bool rt] 111))) := ⟨(Below.refl _ _).alloc (Nat.le_refl _) _⟩
 have HV0 : Aside0 ((w.alloc (.cells #[.bool m, .pointer p, .pointer pl, .pointer pr, .pointer pll, .pointer plr, .pointer prl, .pointer prr, .pointer pa, .pointer pb, .bool rt] 111)).heap[w.heap.size]? = some (.cells #[.bool m, .pointer p, .pointer pl, .pointer pr, .pointer pll, .pointer plr, .pointer prl, .pointer prr, .pointer pa, .pointer pb, .bool rt] 111 (0, 0))) := ⟨heap_alloc_new w _⟩
 generalize w.alloc (.cells #[.bool m, .pointer p, .pointer pl, .pointer pr, .pointer pll, .pointer plr, .pointer prl, .pointer prr, .pointer pa, .pointer pb, .bool rt] 111) = w1 at HB0 HV0 ⊢
 obtain ⟨g, hg⟩ : ∃ g, g = w.heap.size := ⟨_, rfl⟩
 rw [← hg] at HV0 ⊢
 clear hg
 have HB0_ := Am (bd HB0.out)
 have HV0_ : Aside0 (w1.drew.heap[g]? = some (.cells #[.bool m, .pointer p, .pointer pl, .pointer pr, .pointer pll, .pointer plr, .pointer prl, .pointer prr, .pointer pa, .pointer pb, .bool rt] 111 (0, 0))) := ⟨HV0.out⟩
 clear HB0 HV0 
 have HB0 := HB0_
 have HV0 := HV0_
 clear HB0_ HV0_
 refine start_ (n := 24) (S := fun w' => w'.cell? ⟨g, 0, none⟩ = some (.bool m) ∧ w'.cell? ⟨g, 1, none⟩ = some (.pointer p) ∧ w'.cell? ⟨g, 2, none⟩ = some (.pointer pl) ∧ w'.cell? ⟨g, 3, none⟩ = some (.pointer pr) ∧ w'.cell? ⟨g, 4, none⟩ = some (.pointer pll) ∧ w'.cell? ⟨g, 5, none⟩ = some (.pointer plr) ∧ w'.cell? ⟨g, 6, none⟩ = some (.pointer prl) ∧ w'.cell? ⟨g, 7, none⟩ = some (.pointer prr) ∧ w'.cell? ⟨g, 8, none⟩ = some (.pointer pa) ∧ w'.cell? ⟨g, 9, none⟩ = some (.pointer pb) ∧ w'.cell? ⟨g, 10, none⟩ = some (.bool rt)) (ds := []) #[false, false, false, false, false, false, false, false, false, false, false, false, false, false, false, false, false, false, false, false, false, false, false, false] (by kernel_rfl) rfl rfl ⟨(cell_of HV0.out 0).trans rfl, (cell_of HV0.out 1).trans rfl, (cell_of HV0.out 2).trans rfl, (cell_of HV0.out 3).trans rfl, (cell_of HV0.out 4).trans rfl, (cell_of HV0.out 5).trans rfl, (cell_of HV0.out 6).trans rfl, (cell_of HV0.out 7).trans rfl, (cell_of HV0.out 8).trans rfl, (cell_of HV0.out 9).trans rfl, (cell_of HV0.out 10).trans rfl⟩ (fun hHeld => ?_)
 refine pu 1 218 ?_
 refine pu 3 220 ?_
 refine pu 5 222 ?_
 refine pu 8 225 ?_
 refine pu 10 227 ?_
 refine pu 13 230 ?_
 refine pu 16 233 ?_
 refine pu 20 237 ?_
 refine ta 0 217 hHeld ?_
 refine ta 2 219 hHeld ?_
 refine ta 4 221 hHeld ?_
 refine ta 6 223 hHeld ?_
 refine ta 7 224 hHeld ?_
 refine ta 9 226 hHeld ?_
 refine ta 11 228 hHeld ?_
 refine ta 14 231 hHeld ?_
 refine ta 17 234 hHeld ?_
 refine ta 21 238 hHeld ?_
 refine one_ (i := 12) (N := some 229) #[true, true, true, true, true, true, true, true, true, true, true, true, true, true, true, false, true, true, false, false, true, true, false, false] rfl rfl (by kernel_rfl) (by decide) (fun K hK => ?_)
 refine goes_ Try.func95 (by kernel_rfl) rfl #[.pointer pl] (by rfl) rfl rfl (by (try simp only [List.map_toArray, List.map_cons, List.map_nil]); first | done | rfl) ?_
 with_reducible refine (less_any _ _ _ _ _ _ (fun k hk => HSS.out k (Nat.le_trans HB0.out.size hk)) (by rw [← El.out]; exact (Hl.out.below HB0.out))).mono ?_
 rw [← El.out]
 rintro e w1_ ⟨v', rfl, h1, h2⟩
 obtain ⟨q1, rfl⟩ := h1.ptr
 have HB1 := Am (HB0.out.trans (h2.mono HB0.out.size))
 have HNq1 := Am (TopRep.rep h1 h2)
 have HV1 := Am ((h2.block _ (Array.getElem?_eq_some_iff.1 HV0.out).1).trans HV0.out)
 clear h1 h2 HB0 HV0
 refine ⟨_, rfl, ?_⟩
 refine hK.out _ _ ⟨(cell_of HV1.out 0).trans rfl, (cell_of HV1.out 1).trans rfl, (cell_of HV1.out 2).trans rfl, (cell_of HV1.out 3).trans rfl, (cell_of HV1.out 4).trans rfl, (cell_of HV1.out 5).trans rfl, (cell_of HV1.out 6).trans rfl, (cell_of HV1.out 7).trans rfl, (cell_of HV1.out 8).trans rfl, (cell_of HV1.out 9).trans rfl, (cell_of HV1.out 10).trans rfl⟩ (fun hHeld => ?_)
 clear hK K
 refine norm_ (a' := ?_) ?_ ?_
 rotate_left
 ·show Act.put _ (some 229) _ = _
  simp only [Act.put, sI, sZ, sS, i64_w, i32_w]
  rfl
 refine one_ (i := 15) (N := some 232) #[true, true, true, true, true, true, true, true, true, true, true, true, true, true, true, true, true, true, false, false, true, true, false, false] rfl rfl (by kernel_rfl) (by decide) (fun K hK => ?_)
 refine goes_ Try.func93 (by kernel_rfl) rfl #[.agg #[.bool m, .pointer p, .pointer pl, .pointer pr, .pointer pll, .pointer plr, .pointer prl, .pointer prr, .pointer pa, .pointer pb, .bool rt], .pointer p, .int .i64 1, .pointer q1, .pointer pa] (by rfl) rfl rfl (by (try simp only [List.map_toArray, List.map_cons, List.map_nil]); first | done | rfl) ?_
 with_reducible refine (put_any _ _ _ _ _ _ _ _ _ _ _ _ _ _ _ _ _ _ _ _ _ _ (fun k hk => HSS.out k (Nat.le_trans HB1.out.size hk)) (by rw [← Ex.out]; exact (Hx.out.below HB1.out)) HNq1.out (Ha.out.below HB1.out)).mono ?_
 rw [show nx.f0 = keyT X from by rw [Ex.out]; rfl]
 rintro e w2_ ⟨v', rfl, h1, h2⟩
 obtain ⟨q2, rfl⟩ := h1.ptr
 have HB2 := Am (HB1.out.trans (h2.mono HB1.out.size))
 have HNq2 := Am (TopRep.rep h1 h2)
 have HV2 := Am ((h2.block _ (Array.getElem?_eq_some_iff.1 HV1.out).1).trans HV1.out)
 have HNq1_ := Am (Rep.below HNq1.out h2)
 clear HNq1
 have HNq1 := HNq1_
 clear HNq1_
 clear h1 h2 HB1 HV1
 refine ⟨_, rfl, ?_⟩
 refine hK.out _ _ ⟨(cell_of HV2.out 0).trans rfl, (cell_of HV2.out 1).trans rfl, (cell_of HV2.out 2).trans rfl, (cell_of HV2.out 3).trans rfl, (cell_of HV2.out 4).trans rfl, (cell_of HV2.out 5).trans rfl, (cell_of HV2.out 6).trans rfl, (cell_of HV2.out 7).trans rfl, (cell_of HV2.out 8).trans rfl, (cell_of HV2.out 9).trans rfl, (cell_of HV2.out 10).trans rfl⟩ (fun hHeld => ?_)
 clear hK K
 refine norm_ (a' := ?_) ?_ ?_
 rotate_left
 ·show Act.put _ (some 232) _ = _
  simp only [Act.put, sI, sZ, sS, i64_w, i32_w]
  rfl
 refine one_ (i := 18) (N := some 235) #[true, true, true, true, true, true, true, true, true, true, true, true, true, true, true, true, true, true, true, false, true, true, false, false] rfl rfl (by kernel_rfl) (by decide) (fun K hK => ?_)
 refine goes_ Try.func94 (by kernel_rfl) rfl #[.pointer pb, .int .i64 1] (by rfl) rfl rfl (by (try simp only [List.map_toArray, List.map_cons, List.map_nil]); first | done | rfl) ?_
 with_reducible refine (as_any _ _ _ _ _ _ _ (fun k hk => HSS.out k (Nat.le_trans HB2.out.size hk)) (by rw [← Eb.out]; exact (Hb.out.below HB2.out))).mono ?_
 rw [← Eb.out]
 rintro e w3_ ⟨v', rfl, h1, h2⟩
 obtain ⟨q3, rfl⟩ := h1.ptr
 have HB3 := Am (HB2.out.trans (h2.mono HB2.out.size))
 have HNq3 := Am (TopRep.rep h1 h2)
 have HV3 := Am ((h2.block _ (Array.getElem?_eq_some_iff.1 HV2.out).1).trans HV2.out)
 have HNq1_ := Am (Rep.below HNq1.out h2)
 clear HNq1
 have HNq1 := HNq1_
 clear HNq1_
 have HNq2_ := Am (Rep.below HNq2.out h2)
 clear HNq2
 have HNq2 := HNq2_
 clear HNq2_
 clear h1 h2 HB2 HV2
 refine ⟨_, rfl, ?_⟩
 refine hK.out _ _ ⟨(cell_of HV3.out 0).trans rfl, (cell_of HV3.out 1).trans rfl, (cell_of HV3.out 2).trans rfl, (cell_of HV3.out 3).trans rfl, (cell_of HV3.out 4).trans rfl, (cell_of HV3.out 5).trans rfl, (cell_of HV3.out 6).trans rfl, (cell_of HV3.out 7).trans rfl, (cell_of HV3.out 8).trans rfl, (cell_of HV3.out 9).trans rfl, (cell_of HV3.out 10).trans rfl⟩ (fun hHeld => ?_)
 clear hK K
 refine norm_ (a' := ?_) ?_ ?_
 rotate_left
 ·show Act.put _ (some 235) _ = _
  simp only [Act.put, sI, sZ, sS, i64_w, i32_w]
  rfl
 refine one_ (i := 19) (N := some 236) #[true, true, true, true, true, true, true, true, true, true, true, true, true, true, true, true, true, true, true, true, true, true, false, false] rfl rfl (by kernel_rfl) (by decide) (fun K hK => ?_)
 refine goes_ Try.func93 (by kernel_rfl) rfl #[.agg #[.bool m, .pointer p, .pointer pl, .pointer pr, .pointer pll, .pointer plr, .pointer prl, .pointer prr, .pointer pa, .pointer pb, .bool rt], .pointer prl, .int .i64 0, .pointer q2, .pointer q3] (by rfl) rfl rfl (by (try simp only [List.map_toArray, List.map_cons, List.map_nil]); first | done | rfl) ?_
 with_reducible refine (put_any _ _ _ _ _ _ _ _ _ _ _ _ _ _ _ _ _ _ _ _ _ _ (fun k hk => HSS.out k (Nat.le_trans HB3.out.size hk)) (by rw [← Erl.out]; exact (Hrl.out.below HB3.out)) HNq2.out HNq3.out).mono ?_
 rw [show nrl.f0 = keyT RL from by rw [Erl.out]; rfl]
 rintro e w4_ ⟨v', rfl, h1, h2⟩
 obtain ⟨q4, rfl⟩ := h1.ptr
 have HB4 := Am (HB3.out.trans (h2.mono HB3.out.size))
 have HNq4 := Am (TopRep.rep h1 h2)
 have HV4 := Am ((h2.block _ (Array.getElem?_eq_some_iff.1 HV3.out).1).trans HV3.out)
 have HNq1_ := Am (Rep.below HNq1.out h2)
 clear HNq1
 have HNq1 := HNq1_
 clear HNq1_
 have HNq2_ := Am (Rep.below HNq2.out h2)
 clear HNq2
 have HNq2 := HNq2_
 clear HNq2_
 have HNq3_ := Am (Rep.below HNq3.out h2)
 clear HNq3
 have HNq3 := HNq3_
 clear HNq3_
 clear h1 h2 HB3 HV3
 refine ⟨_, rfl, ?_⟩
 refine hK.out _ _ ⟨(cell_of HV4.out 0).trans rfl, (cell_of HV4.out 1).trans rfl, (cell_of HV4.out 2).trans rfl, (cell_of HV4.out 3).trans rfl, (cell_of HV4.out 4).trans rfl, (cell_of HV4.out 5).trans rfl, (cell_of HV4.out 6).trans rfl, (cell_of HV4.out 7).trans rfl, (cell_of HV4.out 8).trans rfl, (cell_of HV4.out 9).trans rfl, (cell_of HV4.out 10).trans rfl⟩ (fun hHeld => ?_)
 clear hK K
 refine norm_ (a' := ?_) ?_ ?_
 rotate_left
 ·show Act.put _ (some 236) _ = _
  simp only [Act.put, sI, sZ, sS, i64_w, i32_w]
  rfl
 refine one_ (i := 22) (N := some 239) #[true, true, true, true, true, true, true, true, true, true, true, true, true, true, true, true, true, true, true, true, true, true, true, false] rfl rfl (by kernel_rfl) (by decide) (fun K hK => ?_)
 refine goes_ Try.func93 (by kernel_rfl) rfl #[.agg #[.bool m, .pointer p, .pointer pl, .pointer pr, .pointer pll, .pointer plr, .pointer prl, .pointer prr, .pointer pa, .pointer pb, .bool rt], .pointer pr, .int .i64 (wt X), .pointer q4, .pointer prr] (by rfl) rfl rfl (by (try simp only [List.map_toArray, List.map_cons, List.map_nil]); first | done | rfl) ?_
 with_reducible refine (put_any _ _ _ _ _ _ _ _ _ _ _ _ _ _ _ _ _ _ _ _ _ _ (fun k hk => HSS.out k (Nat.le_trans HB4.out.size hk)) (by rw [← Er.out]; exact (Hr.out.below HB4.out)) HNq4.out (Hrr.out.below HB4.out)).mono ?_
 rw [show nr.f0 = keyT R from by rw [Er.out]; rfl]
 rintro e w5_ ⟨v', rfl, h1, h2⟩
 obtain ⟨q5, rfl⟩ := h1.ptr
 have HB5 := Am (HB4.out.trans (h2.mono HB4.out.size))
 have HNq5 := Am (TopRep.rep h1 h2)
 have HTOP := Am h1
 have HTB := Am h2
 have HTW := HB4
 have HV5 := Am ((h2.block _ (Array.getElem?_eq_some_iff.1 HV4.out).1).trans HV4.out)
 have HNq1_ := Am (Rep.below HNq1.out h2)
 clear HNq1
 have HNq1 := HNq1_
 clear HNq1_
 have HNq2_ := Am (Rep.below HNq2.out h2)
 clear HNq2
 have HNq2 := HNq2_
 clear HNq2_
 have HNq3_ := Am (Rep.below HNq3.out h2)
 clear HNq3
 have HNq3 := HNq3_
 clear HNq3_
 have HNq4_ := Am (Rep.below HNq4.out h2)
 clear HNq4
 have HNq4 := HNq4_
 clear HNq4_
 clear h1 h2 HB4 HV4
 refine ⟨_, rfl, ?_⟩
 refine hK.out _ _ ⟨(cell_of HV5.out 0).trans rfl, (cell_of HV5.out 1).trans rfl, (cell_of HV5.out 2).trans rfl, (cell_of HV5.out 3).trans rfl, (cell_of HV5.out 4).trans rfl, (cell_of HV5.out 5).trans rfl, (cell_of HV5.out 6).trans rfl, (cell_of HV5.out 7).trans rfl, (cell_of HV5.out 8).trans rfl, (cell_of HV5.out 9).trans rfl, (cell_of HV5.out 10).trans rfl⟩ (fun hHeld => ?_)
 clear hK K
 refine norm_ (a' := ?_) ?_ ?_
 rotate_left
 ·show Act.put _ (some 239) _ = _
  simp only [Act.put, sI, sZ, sS, i64_w, i32_w]
  rfl
 refine pu 23 4 ?_
 refine done_ (by kernel_rfl) ?_
 try clear hHeld
 go_wp2
 go_ret
 exact HF.out _ _ _ HTW.out HTB.out HTOP.out
end Go.Proofs.Ytgleaefhflamnaa.T
namespace Go.Proofs.Ytgleaefhflamnaa.T
open Go.RowKit Go.Proofs.YtgleaefhflamnaaW.PrintWords Go.Proofs.YtgleaefhflamnaaW.PrintLast Go.Proofs.YtgleaefhflamnaaW.PrintMore
variable {S : Nat → Prop}
set_option maxHeartbeats 2000000 in
set_option maxRecDepth 100000 in
theorem can12_0 (m : Bool) (p pl pr pll plr prl prr pa pb : Option Addr) (w : World) :
  Calls Try.prog 64 #[.agg #[.bool m, .pointer p, .pointer pl, .pointer pr, .pointer pll, .pointer plr, .pointer prl, .pointer prr, .pointer pa, .pointer pb, .bool false], .int .i64 12] w fun e w' => e = .returned (.bool false) ∧ Below w.heap.size w w' := by
 have hu111 := Try.underlying111
 go_enter Try.func64, Try.ntmps64
 go_wp2
 go_ret
 exact ⟨rfl, (Below.refl _ _).alloc (Nat.le_refl _) _⟩
set_option maxHeartbeats 2000000 in
set_option maxRecDepth 100000 in
theorem can12_1 (m : Bool) (p pl pr pll plr prl prr pa pb : Option Addr) (T : Tr) (w : World) (Hx : Aside0 (Rep S w (.pointer p) T)) (b : Bool) (hb : (wt T != 1) = b) :
  Calls Try.prog 64 #[.agg #[.bool m, .pointer p, .pointer pl, .pointer pr, .pointer pll, .pointer plr, .pointer prl, .pointer prr, .pointer pa, .pointer pb, .bool true], .int .i64 12] w fun e w' => e = .returned (.bool b) ∧ Below w.heap.size w w' := by
 have hu111 := Try.underlying111
 cases b with
 | true =>
  go_enter Try.func64, Try.ntmps64
  go_wp2_with (fail)
  refine (weight_any _ _ _ (Hx.out.below ((Below.refl _ _).alloc (Nat.le_refl _) _))).mono ?_
  rintro e w' ⟨rfl, rfl⟩
  go_wp2
  go_ret
  exact ⟨rfl, (Below.refl _ _).alloc (Nat.le_refl _) _⟩
 | false =>
  go_enter Try.func64, Try.ntmps64
  go_wp2_with (fail)
  refine (weight_any _ _ _ (Hx.out.below ((Below.refl _ _).alloc (Nat.le_refl _) _))).mono ?_
  rintro e w' ⟨rfl, rfl⟩
  go_wp2
  go_ret
  exact ⟨rfl, (Below.refl _ _).alloc (Nat.le_refl _) _⟩
def canT (m rt : Bool) (T : Tr) (kind : Int) : Bool :=
 if kind = 1 then can1 m T else if kind = 2 then can2 m T else if kind = 3 then can3 m T else if kind = 4 then can4 m T else if kind = 5 then can5 m T else if kind = 6 then can6 m T else if kind = 7 then can7 m T else if kind = 8 then can8 m T else if kind = 9 then can9 m T else if kind = 10 then can10 m T else if kind = 11 then can11 m T else (rt && wt T != 1)
theorem can_any (m rt : Bool) (p pl pr pll plr prl prr pa pb : Option Addr) (T : Tr) (w : World) (Hx : Aside0 (Rep S w (.pointer p) T)) (Hl : Aside0 (Rep S w (.pointer pl) (lT m T))) (Hr : Aside0 (Rep S w (.pointer pr) (rT m T))) (Hll : Aside0 (Rep S w (.pointer pll) (lT m (lT m T)))) (Hlr : Aside0 (Rep S w (.pointer plr) (rT m (lT m T)))) (Hrl : Aside0 (Rep S w (.pointer prl) (lT m (rT m T)))) (Hrr : Aside0 (Rep S w (.pointer prr) (rT m (rT m T)))) (Ha : Aside0 (Rep S w (.pointer pa) (lT m (lT m (rT m T))))) (Hb : Aside0 (Rep S w (.pointer pb) (rT m (lT m (rT m T))))) (kind : Int) (hk : 1 ≤ kind ∧ kind ≤ 12) :
  Calls Try.prog 64 #[.agg #[.bool m, .pointer p, .pointer pl, .pointer pr, .pointer pll, .pointer plr, .pointer prl, .pointer prr, .pointer pa, .pointer pb, .bool rt], .int .i64 kind] w fun e w' => e = .returned (.bool (canT m rt T kind)) ∧ Below w.heap.size w w' := by
 have hd : kind = 1 ∨ kind = 2 ∨ kind = 3 ∨ kind = 4 ∨ kind = 5 ∨ kind = 6 ∨ kind = 7 ∨ kind = 8 ∨ kind = 9 ∨ kind = 10 ∨ kind = 11 ∨ kind = 12 := by omega
 rcases hd with rfl | rfl | rfl | rfl | rfl | rfl | rfl | rfl | rfl | rfl | rfl | rfl
 ·exact can1_any m rt p pl pr pll plr prl prr pa pb T w Hl Hll Hlr Hr Hrl Hrr Hx
 ·exact can2_any m rt p pl pr pll plr prl prr pa pb T w Hl Hll Hr Hx
 ·exact can3_any m rt p pl pr pll plr prl prr pa pb T w Hl Hll Hlr Hr Hx
 ·exact can4_any m rt p pl pr pll plr prl prr pa pb T w Hl Hr Hrl Hrr
 ·exact can5_any m rt p pl pr pll plr prl prr pa pb T w Hl Hr Hrl
 ·exact can6_any m rt p pl pr pll plr prl prr pa pb T w Ha Hb Hl Hr Hrl
 ·exact can7_any m rt p pl pr pll plr prl prr pa pb T w Ha Hb Hl Hr Hrl
 ·exact can8_any m rt p pl pr pll plr prl prr pa pb T w Hb Hl Hr Hrl
 ·exact can9_any m rt p pl pr pll plr prl prr pa pb T w Hl Hr Hrr
 ·exact can10_any m rt p pl pr pll plr prl prr pa pb T w Hl Hr Hrl Hrr
 ·exact can11_any m rt p pl pr pll plr prl prr pa pb T w Hl Hr
 ·cases rt with
  | false => exact can12_0 m p pl pr pll plr prl prr pa pb w
  | true => exact can12_1 m p pl pr pll plr prl prr pa pb T w Hx _ rfl
def do1 (m : Bool) (X : Tr) : Tr := (putT m (keyT X) (wrap64 (wt X - 1)) (asT 1 (lT m X)) (asT 1 (rT m X)))
def do2 (m : Bool) (X : Tr) : Tr := (putT m (keyT (lT m X)) (wt X) (lT m (lT m X)) (putT m (keyT X) 0 (rT m (lT m X)) (rT m X)))
def do3 (m : Bool) (X : Tr) : Tr := (putT m (keyT (rT m (lT m X))) (wt X) (putT m (keyT (lT m X)) 0 (lT m (lT m X)) (lT m (rT m (lT m X)))) (putT m (keyT X) 0 (rT m (rT m (lT m X))) (rT m X)))
def do4 (m : Bool) (X : Tr) : Tr := (putT m (keyT X) (wrap64 (wt X + 1)) (lessT (lT m X)) (asT 0 (rT m X)))
def do11 (m : Bool) (X : Tr) : Tr := (putT m (keyT X) (wrap64 (wt X + 1)) (lessT (lT m X)) (lessT (rT m X)))
def do9 (m : Bool) (X : Tr) : Tr := (putT m (keyT (rT m X)) (wt X) (putT m (keyT X) 1 (lessT (lT m X)) (lT m (rT m X))) (asT 1 (rT m (rT m X))))
def do10 (m : Bool) (X : Tr) : Tr := (putT m (keyT (lT m (rT m X))) (wt X) (putT m (keyT X) 1 (lessT (lT m X)) (lT m (lT m (rT m X)))) (putT m (keyT (rT m X)) 1 (rT m (lT m (rT m X))) (rT m (rT m X))))
def do5 (m : Bool) (X : Tr) : Tr := (putT m (keyT (rT m X)) (wt X) (putT m (keyT X) 1 (lessT (lT m X)) (lessT (lT m (rT m X)))) (rT m (rT m X)))
def do6 (m : Bool) (X : Tr) : Tr := (putT m (keyT (rT m X)) (wt X) (putT m (keyT X) 1 (lessT (lT m X)) (asT 0 (lT m (rT m X)))) (rT m (rT m X)))
def do7 (m : Bool) (X : Tr) : Tr := (putT m (keyT (rT m X)) (wt X) (putT m (keyT (lT m (lT m (rT m X)))) 0 (putT m (keyT X) 1 (lessT (lT m X)) (lT m (lT m (lT m (rT m X))))) (putT m (keyT (lT m (rT m X))) 1 (rT m (lT m (lT m (rT m X)))) (rT m (lT m (rT m X))))) (rT m (rT m X)))
def do8 (m : Bool) (X : Tr) : Tr := (putT m (keyT (rT m X)) (wt X) (putT m (keyT (lT m (rT m X))) 0 (putT m (keyT X) 1 (lessT (lT m X)) (lT m (lT m (rT m X)))) (asT 1 (rT m (lT m (rT m X))))) (rT m (rT m X)))
def do12 (X : Tr) : Tr := asT 1 X
def doT (m : Bool) (X : Tr) (kind : Int) : Tr :=
 if kind = 1 then do1 m X else if kind = 2 then do2 m X else if kind = 3 then do3 m X else if kind = 4 then do4 m X else if kind = 5 then do5 m X else if kind = 6 then do6 m X else if kind = 7 then do7 m X else if kind = 8 then do8 m X else if kind = 9 then do9 m X else if kind = 10 then do10 m X else if kind = 11 then do11 m X else do12 X
theorem node_of {T : Tr} (h : T ≠ .nil) : ∃ n q l r, T = .node n q l r := by
 cases T with
 | nil => exact absurd rfl h
 | node n q l r => exact ⟨n, q, l, r, rfl⟩
theorem wt_ne {T : Tr} (h : wt T ≠ -1) : T ≠ .nil := fun e => h (by rw [e]; rfl)
theorem do_any (m rt : Bool) (p pl pr pll plr prl prr pa pb : Option Addr) (T : Tr) (w : World) (hS : ∀ k, w.heap.size ≤ k → S k) (Hx : Aside0 (Rep S w (.pointer p) T)) (Hl : Aside0 (Rep S w (.pointer pl) (lT m T))) (Hr : Aside0 (Rep S w (.pointer pr) (rT m T))) (Hll : Aside0 (Rep S w (.pointer pll) (lT m (lT m T)))) (Hlr : Aside0 (Rep S w (.pointer plr) (rT m (lT m T)))) (Hrl : Aside0 (Rep S w (.pointer prl) (lT m (rT m T)))) (Hrr : Aside0 (Rep S w (.pointer prr) (rT m (rT m T)))) (Ha : Aside0 (Rep S w (.pointer pa) (lT m (lT m (rT m T))))) (Hb : Aside0 (Rep S w (.pointer pb) (rT m (lT m (rT m T))))) (kind : Int) (hk : 1 ≤ kind ∧ kind ≤ 12) (hT : T ≠ .nil) (hc : canT m rt T kind = true) :
  Calls Try.prog 65 #[.agg #[.bool m, .pointer p, .pointer pl, .pointer pr, .pointer pll, .pointer plr, .pointer prl, .pointer prr, .pointer pa, .pointer pb, .bool rt], .int .i64 kind] w fun e w' => DoPost S w (doT m T kind) e w' := by
 have hd : kind = 1 ∨ kind = 2 ∨ kind = 3 ∨ kind = 4 ∨ kind = 5 ∨ kind = 6 ∨ kind = 7 ∨ kind = 8 ∨ kind = 9 ∨ kind = 10 ∨ kind = 11 ∨ kind = 12 := by omega
 obtain ⟨nx, qx, lx, rx, ex⟩ := node_of hT
 rcases hd with rfl | rfl | rfl | rfl | rfl | rfl | rfl | rfl | rfl | rfl | rfl | rfl
 ·replace hc : can1 m T = true := hc
  simp only [can1, Bool.and_eq_true, beq_iff_eq, decide_eq_true_eq] at hc
  obtain ⟨nl, ql, ll, rl, el⟩ := node_of (T := (lT m T)) (wt_ne (by omega))
  obtain ⟨nr, qr, lr, rr, er⟩ := node_of (T := (rT m T)) (wt_ne (by omega))
  exact do1_any m rt p pl pr pll plr prl prr pa pb w hS ex el er Hx Hl Hr
 ·replace hc : can2 m T = true := hc
  simp only [can2, Bool.and_eq_true, beq_iff_eq, decide_eq_true_eq] at hc
  obtain ⟨nl, ql, ll, rl, el⟩ := node_of (T := (lT m T)) (wt_ne (by omega))
  exact do2_any m rt p pl pr pll plr prl prr pa pb w hS ex el Hx Hl Hr Hll Hlr
 ·replace hc : can3 m T = true := hc
  simp only [can3, Bool.and_eq_true, beq_iff_eq, decide_eq_true_eq] at hc
  obtain ⟨nl, ql, ll, rl, el⟩ := node_of (T := (lT m T)) (wt_ne (by omega))
  obtain ⟨nlr, qlr, llr, rlr, elr⟩ := node_of (T := (rT m (lT m T))) (wt_ne (by omega))
  exact do3_any m rt p pl pr pll plr prl prr pa pb w hS ex el elr Hx Hl Hr Hll Hlr
 ·replace hc : can4 m T = true := hc
  simp only [can4, Bool.and_eq_true, beq_iff_eq, decide_eq_true_eq] at hc
  obtain ⟨nl, ql, ll, rl, el⟩ := node_of (T := (lT m T)) (wt_ne (by omega))
  obtain ⟨nr, qr, lr, rr, er⟩ := node_of (T := (rT m T)) (wt_ne (by omega))
  exact do4_any m rt p pl pr pll plr prl prr pa pb w hS ex el er Hx Hl Hr
 ·replace hc : can5 m T = true := hc
  simp only [can5, Bool.and_eq_true, beq_iff_eq, decide_eq_true_eq] at hc
  obtain ⟨nl, ql, ll, rl, el⟩ := node_of (T := (lT m T)) (wt_ne (by omega))
  obtain ⟨nr, qr, lr, rr, er⟩ := node_of (T := (rT m T)) (wt_ne (by omega))
  obtain ⟨nrl, qrl, lrl, rrl, erl⟩ := node_of (T := (lT m (rT m T))) (wt_ne (by omega))
  exact do5_any m rt p pl pr pll plr prl prr pa pb w hS ex el er erl Hx Hl Hr Hrl Hrr
 ·replace hc : can6 m T = true := hc
  simp only [can6, Bool.and_eq_true, beq_iff_eq, decide_eq_true_eq] at hc
  obtain ⟨nl, ql, ll, rl, el⟩ := node_of (T := (lT m T)) (wt_ne (by omega))
  obtain ⟨nr, qr, lr, rr, er⟩ := node_of (T := (rT m T)) (wt_ne (by omega))
  obtain ⟨nrl, qrl, lrl, rrl, erl⟩ := node_of (T := (lT m (rT m T))) (wt_ne (by omega))
  exact do6_any m rt p pl pr pll plr prl prr pa pb w hS ex el er erl Hx Hl Hr Hrl Hrr
 ·replace hc : can7 m T = true := hc
  simp only [can7, Bool.and_eq_true, beq_iff_eq, decide_eq_true_eq] at hc
  obtain ⟨nl, ql, ll, rl, el⟩ := node_of (T := (lT m T)) (wt_ne (by omega))
  obtain ⟨nr, qr, lr, rr, er⟩ := node_of (T := (rT m T)) (wt_ne (by omega))
  obtain ⟨nrl, qrl, lrl, rrl, erl⟩ := node_of (T := (lT m (rT m T))) (wt_ne (by omega))
  obtain ⟨na, qa, la, ra, ea⟩ := node_of (T := (lT m (lT m (rT m T)))) (wt_ne (by omega))
  exact do7_any m rt p pl pr pll plr prl prr pa pb w hS ex el er erl ea Hx Hl Hr Hrl Hrr Ha Hb
 ·replace hc : can8 m T = true := hc
  simp only [can8, Bool.and_eq_true, beq_iff_eq, decide_eq_true_eq] at hc
  obtain ⟨nl, ql, ll, rl, el⟩ := node_of (T := (lT m T)) (wt_ne (by omega))
  obtain ⟨nr, qr, lr, rr, er⟩ := node_of (T := (rT m T)) (wt_ne (by omega))
  obtain ⟨nrl, qrl, lrl, rrl, erl⟩ := node_of (T := (lT m (rT m T))) (wt_ne (by omega))
  obtain ⟨nb, qb, lb, rb, eb⟩ := node_of (T := (rT m (lT m (rT m T)))) (wt_ne (by omega))
  exact do8_any m rt p pl pr pll plr prl prr pa pb w hS ex el er erl eb Hx Hl Hr Hrl Hrr Ha Hb
 ·replace hc : can9 m T = true := hc
  simp only [can9, Bool.and_eq_true, beq_iff_eq, decide_eq_true_eq] at hc
  obtain ⟨nl, ql, ll, rl, el⟩ := node_of (T := (lT m T)) (wt_ne (by omega))
  obtain ⟨nr, qr, lr, rr, er⟩ := node_of (T := (rT m T)) (wt_ne (by omega))
  obtain ⟨nrr, qrr, lrr, rrr, err⟩ := node_of (T := (rT m (rT m T))) (wt_ne (by omega))
  exact do9_any m rt p pl pr pll plr prl prr pa pb w hS ex el er err Hx Hl Hr Hrl Hrr
 ·replace hc : can10 m T = true := hc
  simp only [can10, Bool.and_eq_true, beq_iff_eq, decide_eq_true_eq] at hc
  obtain ⟨nl, ql, ll, rl, el⟩ := node_of (T := (lT m T)) (wt_ne (by omega))
  obtain ⟨nr, qr, lr, rr, er⟩ := node_of (T := (rT m T)) (wt_ne (by omega))
  obtain ⟨nrl, qrl, lrl, rrl, erl⟩ := node_of (T := (lT m (rT m T))) (wt_ne (by omega))
  exact do10_any m rt p pl pr pll plr prl prr pa pb w hS ex el er erl Hx Hl Hr Hrl Hrr Ha Hb
 ·replace hc : can11 m T = true := hc
  simp only [can11, Bool.and_eq_true, beq_iff_eq, decide_eq_true_eq] at hc
  obtain ⟨nl, ql, ll, rl, el⟩ := node_of (T := (lT m T)) (wt_ne (by omega))
  obtain ⟨nr, qr, lr, rr, er⟩ := node_of (T := (rT m T)) (wt_ne (by omega))
  exact do11_any m rt p pl pr pll plr prl prr pa pb w hS ex el er Hx Hl Hr
 ·exact do12_any m rt p pl pr pll plr prl prr pa pb w hS ex Hx
end Go.Proofs.Ytgleaefhflamnaa.T
namespace Go.Proofs.Ytgleaefhflamnaa.T
open Go.RowKit Go.Proofs.YtgleaefhflamnaaW.PrintWords Go.Proofs.YtgleaefhflamnaaW.PrintLast Go.Proofs.YtgleaefhflamnaaW.PrintMore
/-- The tree of a table from a place on; none: it does not end in so many levels. -/
def mkT (t : List S34) : Nat → Nat → Option Tr
 | 0, _ => none
 | k + 1, i => if i < t.length then (if 0 ≤ (t.getD i z34).f4 then (mkT t k (t.getD i z34).f4.toNat).bind fun l => (mkT t k (t.getD i z34).f5.toNat).bind fun r => some (.node (t.getD i z34) i l r) else some (.node (t.getD i z34) i .nil .nil)) else none
/-- The same with another tree in the place of one. -/
def mkR (t : List S34) (c : Nat) (R : Tr) : Nat → Nat → Option Tr
 | 0, _ => none
 | k + 1, i => if i < t.length then (if 0 ≤ (t.getD i z34).f4 then (if (t.getD i z34).f4.toNat = c then some R else mkR t c R k (t.getD i z34).f4.toNat).bind fun l => (if (t.getD i z34).f5.toNat = c then some R else mkR t c R k (t.getD i z34).f5.toNat).bind fun r => some (.node (t.getD i z34) i l r) else some (.node (t.getD i z34) i .nil .nil)) else none
theorem mkT_mono (t : List S34) : ∀ (k i : Nat) (T : Tr), mkT t k i = some T → mkT t (k + 1) i = some T := by
 intro k
 induction k with
 | zero => intro i T h; simp [mkT] at h
 | succ k ih =>
  intro i T h
  rw [mkT] at h ⊢
  split at h
  ·rename_i h1
   rw [if_pos h1]
   split at h
   ·rename_i h2
    rw [if_pos h2]
    obtain ⟨l, hl, h⟩ := Option.bind_eq_some_iff.1 h
    obtain ⟨r, hr, h⟩ := Option.bind_eq_some_iff.1 h
    rw [ih _ _ hl, Option.bind_some, ih _ _ hr, Option.bind_some]
    exact h
   ·rename_i h2
    rw [if_neg h2]
    exact h
  ·exact absurd h (by simp)
theorem mkT_le (t : List S34) {k k' i : Nat} {T : Tr} (hk : k ≤ k') (h : mkT t k i = some T) : mkT t k' i = some T := by
 induction hk with
 | refl => exact h
 | step _ ih => exact mkT_mono t _ _ _ ih
theorem mkT_fun (t : List S34) {k k' i : Nat} {T T' : Tr} (h : mkT t k i = some T) (h' : mkT t k' i = some T') : T = T' := by
 rcases Nat.le_total k k' with hk | hk
 ·have := mkT_le t hk h; rw [this] at h'; exact Option.some.inj h'
 ·have := mkT_le t hk h'; rw [this] at h; exact (Option.some.inj h).symm
def sizeN : Tr → Nat
 | .nil => 0
 | .node _ _ l r => 1 + sizeN l + sizeN r
/-- Is c a child of i? -/
def childOf (t : List S34) (i c : Nat) : Prop := 0 ≤ (t.getD i z34).f4 ∧ ((t.getD i z34).f4.toNat = c ∨ (t.getD i z34).f5.toNat = c)
/-- The blocks of the nodes that are no parent of c. -/
def SetC (B : Nat) (t : List S34) (c : Nat) (b : Nat) : Prop := ∃ j, b = B + 2 + 2 * j ∧ j < t.length ∧ ¬ childOf t j c
theorem forest_rep {wg W : World} {t : List S34} (hf : Forest wg W t t.length t.length) {c K : Nat} {X : Tr} (hX : mkT t K c = some X) :
  ∀ (k i : Nat) (T : Tr), mkT t k i = some T → sizeN T ≤ sizeN X → Rep (SetC wg.heap.size t c) W (.pointer (nb wg.heap.size i)) T := by
 intro k
 induction k with
 | zero => intro i T h; simp [mkT] at h
 | succ k ih =>
  intro i T h hs
  have h0 := h
  rw [mkT] at h
  split at h
  ·rename_i h1
   have hn := hf.nodes i h1
   simp only [if_pos h1] at hn
   split at h
   ·rename_i h2
    obtain ⟨l, hl, h⟩ := Option.bind_eq_some_iff.1 h
    obtain ⟨r, hr, h⟩ := Option.bind_eq_some_iff.1 h
    obtain rfl := Option.some.inj h
    simp only [sizeN] at hs
    refine ⟨_, _, _, rfl, hn, ?_, ?_, i, rfl, h1, ?_⟩
    ·rw [lpV, if_pos h2]; exact ih _ _ hl (by omega)
    ·rw [rpV, if_pos h2]; exact ih _ _ hr (by omega)
    ·rintro ⟨_, hc | hc⟩
     ·rw [hc] at hl; have := mkT_fun t hl hX; subst this; omega
     ·rw [hc] at hr; have := mkT_fun t hr hX; subst this; omega
   ·rename_i h2
    obtain rfl := Option.some.inj h
    refine ⟨_, _, _, rfl, hn, ?_, ?_, i, rfl, h1, fun hc => h2 hc.1⟩
    ·rw [lpV, if_neg h2]; rfl
    ·rw [rpV, if_neg h2]; rfl
  ·exact absurd h (by simp)
/-- The forest behind the loop of Do: so many nodes have been gone by; the pointer q stands in the place of c's. -/
structure Forest2 (w W : World) (t : List S34) (c : Nat) (q : Option Addr) (n2 : Nat) : Prop where
 ptrs : W.rowIs w.heap.size 92 t.length (fun j => .pointer (nb w.heap.size j))
 nodes : ∀ j, j < t.length → W.heap[w.heap.size + 2 + 2 * j]? = some (.cells (ndCells (t.getD j z34) j (.pointer (if j < n2 ∧ 0 ≤ (t.getD j z34).f4 ∧ (t.getD j z34).f4.toNat = c then q else lpV w.heap.size t j)) (.pointer (if j < n2 ∧ 0 ≤ (t.getD j z34).f4 ∧ (t.getD j z34).f5.toNat = c then q else rpV w.heap.size t j))) 116 (0, 0))
 bel : Below w.heap.size w W
theorem forest2_start {w W : World} {t : List S34} (h : Forest w W t t.length t.length) (c : Nat) (q : Option Addr) : Forest2 w W t c q 0 :=
 ⟨rowIs_congr h.ptrs (fun j hj => by simp only [if_pos hj]), fun j hj => by
  have := h.nodes j hj
  simp only [if_pos hj] at this
  rw [this, if_neg (fun h => Nat.not_lt_zero _ h.1), if_neg (fun h => Nat.not_lt_zero _ h.1)], h.bel⟩
theorem rep_repl {w W : World} {t : List S34} {c : Nat} {q : Option Addr} {R : Tr} {S : Nat → Prop} (hf : Forest2 w W t c q t.length) (hR : Rep S W (.pointer q) R) :
  ∀ (k i : Nat) (T : Tr), mkR t c R k i = some T → Rep (fun _ => True) W (.pointer (nb w.heap.size i)) T := by
 intro k
 induction k with
 | zero => intro i T h; simp [mkR] at h
 | succ k ih =>
  intro i T h
  rw [mkR] at h
  split at h
  ·rename_i h1
   have hn := hf.nodes i h1
   split at h
   ·rename_i h2
    obtain ⟨l, hl, h⟩ := Option.bind_eq_some_iff.1 h
    obtain ⟨r, hr, h⟩ := Option.bind_eq_some_iff.1 h
    obtain rfl := Option.some.inj h
    refine ⟨_, _, _, rfl, hn, ?_, ?_, trivial⟩
    ·by_cases e : (t.getD i z34).f4.toNat = c
     ·rw [if_pos e] at hl; obtain rfl := Option.some.inj hl
      rw [if_pos ⟨h1, h2, e⟩]; exact hR.mono (fun _ _ => trivial)
     ·rw [if_neg e] at hl
      rw [if_neg (fun h => e h.2.2), lpV, if_pos h2]; exact ih _ _ hl
    ·by_cases e : (t.getD i z34).f5.toNat = c
     ·rw [if_pos e] at hr; obtain rfl := Option.some.inj hr
      rw [if_pos ⟨h1, h2, e⟩]; exact hR.mono (fun _ _ => trivial)
     ·rw [if_neg e] at hr
      rw [if_neg (fun h => e h.2.2), rpV, if_pos h2]; exact ih _ _ hr
   ·rename_i h2
    obtain rfl := Option.some.inj h
    refine ⟨_, _, _, rfl, hn, ?_, ?_, trivial⟩
    ·rw [if_neg (fun h => h2 h.2.1), lpV, if_neg h2]; rfl
    ·rw [if_neg (fun h => h2 h.2.1), rpV, if_neg h2]; rfl
  ·exact absurd h (by simp)
/-- One round of the loop: nothing to do. -/
theorem forest2_skip {w W : World} {t : List S34} {c : Nat} {q : Option Addr} {i : Nat} (h : Forest2 w W t c q i) (hc : ¬ childOf t i c) : Forest2 w W t c q (i + 1) := by
 refine ⟨h.ptrs, fun j hj => ?_, h.bel⟩
 rw [h.nodes j hj]
 by_cases e : j = i
 ·subst e
  have e1 : ¬ (0 ≤ (t.getD j z34).f4 ∧ (t.getD j z34).f4.toNat = c) := fun h => hc ⟨h.1, .inl h.2⟩
  have e2 : ¬ (0 ≤ (t.getD j z34).f4 ∧ (t.getD j z34).f5.toNat = c) := fun h => hc ⟨h.1, .inr h.2⟩
  simp only [e1, e2, and_false, if_false]
 ·have e3 : j < i + 1 ↔ j < i := by omega
  simp only [e3]
theorem forest2_left {w W : World} {t : List S34} {c : Nat} {q : Option Addr} {i : Nat} (h : Forest2 w W t c q i) (h4 : 0 ≤ (t.getD i z34).f4) (hl : (t.getD i z34).f4.toNat = c) (hr : (t.getD i z34).f5.toNat ≠ c) : Forest2 w (W.setCell ⟨w.heap.size + 2 + 2 * i, 7, none⟩ (.pointer q)) t c q (i + 1) := by
 refine ⟨rowIs_blk h.ptrs (Below.heap_setCell _ _ _ _ (by show _ ≠ _; simp; omega)), fun j hj => ?_, h.bel.setCell (p := ⟨w.heap.size + 2 + 2 * i, 7, none⟩) (by simp; omega) _⟩
 have hn := h.nodes j hj
 by_cases e : j = i
 ·subst e
  rw [put_blk hn 7 _]
  simp only [Nat.lt_irrefl, false_and, if_false, if_pos (show j < j + 1 ∧ 0 ≤ (t.getD j z34).f4 ∧ (t.getD j z34).f4.toNat = c from ⟨by omega, h4, hl⟩), if_neg (show ¬ (j < j + 1 ∧ 0 ≤ (t.getD j z34).f4 ∧ (t.getD j z34).f5.toNat = c) from fun h => hr h.2.2)]
  rfl
 ·rw [Below.heap_setCell _ _ _ _ (by show _ ≠ _; simp; omega), hn]
  have e3 : j < i + 1 ↔ j < i := by omega
  simp only [e3]
theorem forest2_right {w W : World} {t : List S34} {c : Nat} {q : Option Addr} {i : Nat} (h : Forest2 w W t c q i) (h4 : 0 ≤ (t.getD i z34).f4) (hl : (t.getD i z34).f4.toNat ≠ c) (hr : (t.getD i z34).f5.toNat = c) : Forest2 w (W.setCell ⟨w.heap.size + 2 + 2 * i, 8, none⟩ (.pointer q)) t c q (i + 1) := by
 refine ⟨rowIs_blk h.ptrs (Below.heap_setCell _ _ _ _ (by show _ ≠ _; simp; omega)), fun j hj => ?_, h.bel.setCell (p := ⟨w.heap.size + 2 + 2 * i, 8, none⟩) (by simp; omega) _⟩
 have hn := h.nodes j hj
 by_cases e : j = i
 ·subst e
  rw [put_blk hn 8 _]
  simp only [Nat.lt_irrefl, false_and, if_false, if_neg (show ¬ (j < j + 1 ∧ 0 ≤ (t.getD j z34).f4 ∧ (t.getD j z34).f4.toNat = c) from fun h => hl h.2.2), if_pos (show j < j + 1 ∧ 0 ≤ (t.getD j z34).f4 ∧ (t.getD j z34).f5.toNat = c from ⟨by omega, h4, hr⟩)]
  rfl
 ·rw [Below.heap_setCell _ _ _ _ (by show _ ≠ _; simp; omega), hn]
  have e3 : j < i + 1 ↔ j < i := by omega
  simp only [e3]
theorem forest_kept {w W W' : World} {t : List S34} {n1 n2 : Nat} (h : Forest w W t n1 n2) (hb : Below W.heap.size W W') : Forest w W' t n1 n2 :=
 ⟨rowIs_blk h.ptrs (hb.block _ (rowIs_lt h.ptrs)), fun j hj => (hb.block _ (Array.getElem?_eq_some_iff.1 (h.nodes j hj)).1).trans (h.nodes j hj), h.bel.trans (hb.mono h.bel.size)⟩
/-- The same with another weight at the top. -/
def setW : Tr → Int → Tr
 | .nil, _ => .nil
 | .node n p l r, x => .node ⟨n.f0, n.f1, x, n.f3, n.f4, n.f5⟩ p l r
theorem top_set {S : Nat → Prop} {W w' : World} {v : Value} {R : Tr} (h : TopRep S W w' v R) (hb : Below W.heap.size W w') (x : Int) :
  ∃ b, v = .pointer (some ⟨b, 0, none⟩) ∧ W.heap.size ≤ b ∧ (∃ u, w'.cell? ⟨b, 2, none⟩ = some u) ∧ w'.frozen? ⟨b, 2, none⟩ = false ∧ Rep S (w'.setCell ⟨b, 2, none⟩ (.int .i64 x)) v (setW R x) := by
 obtain ⟨b, n, pl, L, R', vl, vr, rfl, rfl, hge, h1, h2, h3, h4⟩ := h
 refine ⟨b, rfl, hge, ⟨_, (cell_of h1 2).trans rfl⟩, frz_of h1 2, b, vl, vr, rfl, put_blk h1 2 _, ?_, ?_, h4⟩
 ·exact ((h2.bound.below hb).keptS (fun k hk _ => Below.heap_setCell _ _ _ _ (by show k ≠ b; have := hk.2; omega))).mono (fun k hk => hk.1)
 ·exact ((h3.bound.below hb).keptS (fun k hk _ => Below.heap_setCell _ _ _ _ (by show k ≠ b; have := hk.2; omega))).mono (fun k hk => hk.1)
end Go.Proofs.Ytgleaefhflamnaa.T
namespace Go.Proofs.Ytgleaefhflamnaa.T
open Go.RowKit Go.Proofs.YtgleaefhflamnaaW.PrintWords Go.Proofs.YtgleaefhflamnaaW.PrintLast Go.Proofs.YtgleaefhflamnaaW.PrintMore
structure OkT (t : List S34) : Prop where
 len : t.length ≤ 100000
 kids : ∀ i, i < t.length → 0 ≤ (t.getD i z34).f4 → (t.getD i z34).f4 < t.length ∧ 0 ≤ (t.getD i z34).f5 ∧ (t.getD i z34).f5 < t.length ∧ (t.getD i z34).f4 ≠ (t.getD i z34).f5
def DoOK (w : World) (xs : List S34) (e : Ending) (w' : World) : Prop := ∃ v0, e = .returned (.tuple #[v0, .int .i64 0]) ∧ Kd.R k34 34 w' w.heap.size (fun _ => True) v0 xs ∧ Below w.heap.size w w'
theorem do_ok_fin (w : World) (T : Tr) : ∀ wg wr v0 w', Below w.heap.size w wg → Below wg.heap.size wg wr → FlatPost wr T (.returned v0) w' → DoOK w (flatT T 0) (.returned (.tuple #[v0, .int .i64 0])) w' := by
 rintro wg wr v0 w' h1 h2 ⟨v1, hv, h3, h4⟩
 injection hv with hv
 subst hv
 have h5 : Below w.heap.size w wr := h1.trans (h2.mono h1.size)
 exact ⟨_, rfl, Kd.R_lower h3 h5.size, h5.trans (h4.mono h5.size)⟩
theorem setc11 {w : World} {g k : Nat} (h : k ≠ g) (v0 v1 v2 v3 v4 v5 v6 v7 v8 v9 v10 : Value) : ((((((((((((w.setCell ⟨g, 0, none⟩ v0).setCell ⟨g, 1, none⟩ v1).setCell ⟨g, 2, none⟩ v2).setCell ⟨g, 3, none⟩ v3).setCell ⟨g, 4, none⟩ v4).setCell ⟨g, 5, none⟩ v5).setCell ⟨g, 6, none⟩ v6).setCell ⟨g, 7, none⟩ v7).setCell ⟨g, 8, none⟩ v8).setCell ⟨g, 9, none⟩ v9).setCell ⟨g, 10, none⟩ v10)).heap[k]? = w.heap[k]? := by
 rw [put_blk_ne h, put_blk_ne h, put_blk_ne h, put_blk_ne h, put_blk_ne h, put_blk_ne h, put_blk_ne h, put_blk_ne h, put_blk_ne h, put_blk_ne h, put_blk_ne h]
theorem size116 : (Try.prog.info? 116).map (fun i => i.size) = some 9 := by kernel_rfl
theorem eqp_same (w : World) (a : Addr) : (binOp .eql 92 (.pointer (some a)) (.pointer (some a))).run Try.prog w = .ok (.bool true) w := by
 obtain ⟨i, hi, _⟩ := Option.map_eq_some_iff.1 size116
 exact run_eql_ptr_same w a Try.underlying92 hi
theorem eqp_other (w : World) {a b : Addr} {ca cb : Array Value} {ta tb : TypeId} (hne : a ≠ b) (ha : w.heap[a.block]? = some (.cells ca ta (0, 0))) (hb : w.heap[b.block]? = some (.cells cb tb (0, 0))) : (binOp .eql 92 (.pointer (some a)) (.pointer (some b))).run Try.prog w = .ok (.bool false) w := by
 obtain ⟨i, hi, hs⟩ := Option.map_eq_some_iff.1 size116
 exact run_eql_ptr_other w Try.underlying92 hi (by rw [hs]; decide) hne ha hb
theorem mkT_nil {t : List S34} {k i : Nat} (h : mkT t k i = some .nil) : False := by
 cases k with
 | zero => simp [mkT] at h
 | succ k =>
  rw [mkT] at h
  split at h
  ·split at h
   ·obtain ⟨l, hl, h⟩ := Option.bind_eq_some_iff.1 h
    obtain ⟨r, hr, h⟩ := Option.bind_eq_some_iff.1 h
    injection h with h
    injection h
   ·injection h with h
    injection h
  ·exact absurd h (by simp)
end Go.Proofs.Ytgleaefhflamnaa.T
namespace Go.Proofs.Ytgleaefhflamnaa.T
open Go.RowKit Go.Proofs.YtgleaefhflamnaaW.PrintWords Go.Proofs.YtgleaefhflamnaaW.PrintLast Go.Proofs.YtgleaefhflamnaaW.PrintMore
set_option maxHeartbeats 8000000 in
set_option maxRecDepth 100000 in
theorem do_nocan (k : Nat) (A0 : Option Addr) (c0 : Nat) (l0 : List S34) (c : Nat) (kind : Int) (mir : Bool) (r1 : Int) (r2 : List Bool) (w : World) (hr0 : Kd.C k34 w A0 l0.length l0) (hc0 : l0.length ≤ c0)
  (h : steps_keys.f k l0 = some (r1, r2, 0)) (hm : steps_Move_is.f kind mir = some true) (hkd : 1 ≤ kind ∧ kind ≤ 12) (hp1 : (c : Int) < l0.length) (hp2 : (c : Int) < r2.length) (hbel : rdOf false r2 c = true) (ht : OkT l0) (K : Nat) (X : Tr) (hX : mkT l0 K c = some X) (rt : Bool) (hrt : ((c : Int) == r1) = rt) (hcan : canT mir rt X kind = false) :
  Calls Try.prog 30 #[.slice A0 l0.length c0, .int .i64 c, .agg #[.int .i64 kind, .bool mir]] w fun e w' => e = .returned (.tuple #[.slice none 0 0, .int .i64 6]) ∧ Below w.heap.size w w' := by
 have HCAN := Am hcan
 clear hcan
 have hu62 := Try.underlying62
 have hu111 := Try.underlying111
 have hu116 := Try.underlying116
 have hu34 := Try.underlying34
 have HR := Am hr0
 have HC := Am hc0
 have H := Am h
 have HM := Am hm
 have HT := Am ht
 have HX := Am hX
 have HKD := Am hkd
 have HBEL := Am hbel
 have hlen : l0.length ≤ 100000 := ht.len
 have hcl : c < l0.length := by omega
 clear hr0 hc0 h hm ht hX hkd hbel
 go_enter Try.func30, Try.ntmps30
 go_wp2_with (fail)
 refine (at_okt k A0 c0 l0 c kind mir r1 r2 _ (Kd.C_below HR.out ((Below.refl _ _).alloc (Nat.le_refl _) _)) HC.out H.out (fun _ => HM.out) (by omega) hp1 hp2 HBEL.out (by omega) (fun i hi h4 => ⟨(HT.out.kids i hi h4).1, (HT.out.kids i hi h4).2.1, (HT.out.kids i hi h4).2.2.1⟩)).mono ?_
 rintro e w2 ⟨wg, rfl, hbg, hfo⟩
 have hbw : Below w.heap.size w wg := ((Below.refl _ _).alloc (Nat.le_refl _) _).trans (hbg.mono (by simp))
 have hg0 : w.heap.size < wg.heap.size := by have h_ := hbg.size; simp at h_; omega
 have hbx0 : wg.cell? ⟨w.heap.size, 0, none⟩ = some (.int .i64 kind) := (hbg.cell (p := ⟨w.heap.size, 0, none⟩) (by simp)).trans (World.cell?_alloc_at _ _ _ _ rfl)
 have hbx1 : wg.cell? ⟨w.heap.size, 1, none⟩ = some (.bool mir) := (hbg.cell (p := ⟨w.heap.size, 1, none⟩) (by simp)).trans (World.cell?_alloc_at _ _ _ _ rfl)
 have HBW := Am hbw
 have HFO := Am hfo
 have HX0 := Am hbx0
 have HX1 := Am hbx1
 have HRX : Aside0 (Rep (fun k_ => SetC wg.heap.size l0 c k_ ∧ k_ < w2.heap.size) w2 (.pointer (some ⟨wg.heap.size + 2 + 2 * c, 0, none⟩)) X) := ⟨(forest_rep hfo HX.out K c X HX.out (Nat.le_refl _)).bound⟩
 have hg2 : wg.heap.size < w2.heap.size := rowIs_lt hfo.ptrs
 have hpc : w2.drew.cell? ⟨wg.heap.size, c, none⟩ = some (.pointer (some ⟨wg.heap.size + 2 + 2 * c, 0, none⟩)) := (rowIs_cell hfo.ptrs c hcl).trans (by rw [if_pos hcl]; rfl)
 have hb0 : w2.drew.cell? ⟨w.heap.size, 0, none⟩ = some (.int .i64 kind) := (hfo.bel.cell (p := ⟨w.heap.size, 0, none⟩) hg0).trans hbx0
 have hb1 : w2.drew.cell? ⟨w.heap.size, 1, none⟩ = some (.bool mir) := (hfo.bel.cell (p := ⟨w.heap.size, 1, none⟩) hg0).trans hbx1
 clear hbg hbw hfo hbx0 hbx1
 go_wp2
 have HPC := Am hpc
 have HB0 := Am hb0
 have HB1 := Am hb1
 refine start_ (n := 11) (S := fun w' => w'.cell? ⟨wg.heap.size, c, none⟩ = some (.pointer (some ⟨wg.heap.size + 2 + 2 * c, 0, none⟩)) ∧ w'.cell? ⟨w.heap.size, 0, none⟩ = some (.int .i64 kind) ∧ w'.cell? ⟨w.heap.size, 1, none⟩ = some (.bool mir)) (ds := [10]) #[false, false, false, false, false, false, false, false, false, false, false] (by kernel_rfl) rfl rfl ⟨hpc, hb0, hb1⟩ (fun hHeld => ?_)
 refine pu 0 26 ?_
 refine pu 1 27 ?_
 refine pu 2 28 ?_
 refine pu 5 31 ?_
 refine pu 6 32 ?_
 refine pu 7 33 ?_
 refine ta 3 29 hHeld ?_
 refine ta 4 30 hHeld ?_
 refine join_ (σ := Nat × Option Addr × Option Addr × Option Addr × Option Addr × Option Addr × Option Addr × Option Addr × Option Addr) 1 #[true, true, true, true, true, true, true, true, true, true, false] (fun s => [(34, .agg #[.bool mir, .pointer (some ⟨wg.heap.size + 2 + 2 * c, 0, none⟩), .pointer s.2.1, .pointer s.2.2.1, .pointer s.2.2.2.1, .pointer s.2.2.2.2.1, .pointer s.2.2.2.2.2.1, .pointer s.2.2.2.2.2.2.1, .pointer s.2.2.2.2.2.2.2.1, .pointer s.2.2.2.2.2.2.2.2, .bool rt]), (11, .pointer (some ⟨s.1, 0, none⟩))]) (fun s w' => Below w2.heap.size w2 w' ∧ w2.heap.size ≤ s.1 ∧ w'.heap[s.1]? = some (.cells #[.bool false, .pointer none, .pointer none, .pointer none, .pointer none, .pointer none, .pointer none, .pointer none, .pointer none, .pointer none, .bool false] 111 (0, 0)) ∧ Rep (fun k_ => SetC wg.heap.size l0 c k_ ∧ k_ < w2.heap.size) w' (.pointer s.2.1) (lT mir X) ∧ Rep (fun k_ => SetC wg.heap.size l0 c k_ ∧ k_ < w2.heap.size) w' (.pointer s.2.2.1) (rT mir X) ∧ Rep (fun k_ => SetC wg.heap.size l0 c k_ ∧ k_ < w2.heap.size) w' (.pointer s.2.2.2.1) (lT mir (lT mir X)) ∧ Rep (fun k_ => SetC wg.heap.size l0 c k_ ∧ k_ < w2.heap.size) w' (.pointer s.2.2.2.2.1) (rT mir (lT mir X)) ∧ Rep (fun k_ => SetC wg.heap.size l0 c k_ ∧ k_ < w2.heap.size) w' (.pointer s.2.2.2.2.2.1) (lT mir (rT mir X)) ∧ Rep (fun k_ => SetC wg.heap.size l0 c k_ ∧ k_ < w2.heap.size) w' (.pointer s.2.2.2.2.2.2.1) (rT mir (rT mir X)) ∧ Rep (fun k_ => SetC wg.heap.size l0 c k_ ∧ k_ < w2.heap.size) w' (.pointer s.2.2.2.2.2.2.2.1) (lT mir (lT mir (rT mir X))) ∧ Rep (fun k_ => SetC wg.heap.size l0 c k_ ∧ k_ < w2.heap.size) w' (.pointer s.2.2.2.2.2.2.2.2) (rT mir (lT mir (rT mir X)))) ?_ ?_
 rotate_left
 ·intro hCont
  refine two_ (i := 8) (j := 9) (Ni := some 34) (Nj := some 11) #[true, true, true, true, true, true, true, true, true, false, false] #[true, true, true, true, true, true, true, true, false, true, false] rfl rfl rfl rfl (by kernel_rfl) (by decide) (by decide) (fun K hK => ?_) (fun K hK => ?_)
  ·skip
   refine goes_ Try.func63 (by kernel_rfl) rfl #[.pointer (some ⟨wg.heap.size + 2 + 2 * c, 0, none⟩), .agg #[.int .i64 kind, .bool mir], .bool rt] (by rfl) rfl rfl (by (try simp only [List.map_toArray, List.map_cons, List.map_nil]); first | done | rfl) ?_
   with_reducible refine (look_any (S := (fun k_ => SetC wg.heap.size l0 c k_ ∧ k_ < w2.heap.size)) _ X _ _ _ _ (by first | exact HRX.out.below ((Below.refl _ _).drew) | exact HRX.out.below HBA.out)).mono ?_
   rintro e wL ⟨pl, pr, pll, plr, prl, prr, pa, pb, rfl, hLb, r1, r2, r3, r4, r5, r6, r7, r8⟩
   refine ⟨_, rfl, ?_⟩
   refine hK.out _ _ ⟨(hLb.cell (blt _ _ hHeld.1)).trans hHeld.1, (hLb.cell (blt _ _ hHeld.2.1)).trans hHeld.2.1, (hLb.cell (blt _ _ hHeld.2.2)).trans hHeld.2.2⟩ (fun hHeld => ?_)
   clear hK K
   refine norm_ (a' := ?_) ?_ ?_
   rotate_left
   ·show Act.put _ (some 34) _ = _
    simp only [Act.put, sI, sZ, sS, i64_w, i32_w]
    rfl
   refine one_ (i := 9) (N := some 11) #[true, true, true, true, true, true, true, true, true, true, false] rfl rfl (by kernel_rfl) (by decide) (fun K hK => ?_)
   refine box_step (by rfl) (N := 11) rfl (cs := #[.bool false, .pointer none, .pointer none, .pointer none, .pointer none, .pointer none, .pointer none, .pointer none, .pointer none, .pointer none, .bool false]) (t := 111) ?hr ?_
   case hr => first | (go_simp; done) | (go_simp; rfl)
   intro g hg wA hbox hbA
   have hgs : w2.heap.size ≤ g := by rw [hg]; exact hLb.size
   refine hK.out _ _ ⟨(hbA.cell (blt _ _ hHeld.1)).trans hHeld.1, (hbA.cell (blt _ _ hHeld.2.1)).trans hHeld.2.1, (hbA.cell (blt _ _ hHeld.2.2)).trans hHeld.2.2⟩ (fun hHeld => ?_)
   clear hK K
   refine norm_ (a' := ?_) ?_ ?_
   rotate_left
   ·show Act.put _ (some 11) _ = _
    simp only [Act.put, sI, sZ, sS, i64_w, i32_w]
    rfl
   exact norm_ (by simp only [putAll, Act.put, sI, sZ, sS]) (hCont (g, pl, pr, pll, plr, prl, prr, pa, pb) _ ⟨((Below.refl w2.heap.size w2).drew.trans (hLb.mono (Nat.le_refl _))).trans (hbA.mono hLb.size), hgs, hbox, (r1.below hLb).below hbA, (r2.below hLb).below hbA, (r3.below hLb).below hbA, (r4.below hLb).below hbA, (r5.below hLb).below hbA, (r6.below hLb).below hbA, (r7.below hLb).below hbA, (r8.below hLb).below hbA⟩)
  ·skip
   refine box_step (by rfl) (N := 11) rfl (cs := #[.bool false, .pointer none, .pointer none, .pointer none, .pointer none, .pointer none, .pointer none, .pointer none, .pointer none, .pointer none, .bool false]) (t := 111) ?hr ?_
   case hr => first | (go_simp; done) | (go_simp; rfl)
   intro g hg wA hbox hbA
   have HBA := Am (((Below.refl w2.heap.size w2).drew).trans (hbA.mono (Nat.le_refl _)))
   have hgs : w2.heap.size ≤ g := by rw [hg]; exact Nat.le_refl _
   refine hK.out _ _ ⟨(hbA.cell (blt _ _ hHeld.1)).trans hHeld.1, (hbA.cell (blt _ _ hHeld.2.1)).trans hHeld.2.1, (hbA.cell (blt _ _ hHeld.2.2)).trans hHeld.2.2⟩ (fun hHeld => ?_)
   clear hK K
   refine norm_ (a' := ?_) ?_ ?_
   rotate_left
   ·show Act.put _ (some 11) _ = _
    simp only [Act.put, sI, sZ, sS, i64_w, i32_w]
    rfl
   refine one_ (i := 8) (N := some 34) #[true, true, true, true, true, true, true, true, true, true, false] rfl rfl (by kernel_rfl) (by decide) (fun K hK => ?_)
   refine goes_ Try.func63 (by kernel_rfl) rfl #[.pointer (some ⟨wg.heap.size + 2 + 2 * c, 0, none⟩), .agg #[.int .i64 kind, .bool mir], .bool rt] (by rfl) rfl rfl (by (try simp only [List.map_toArray, List.map_cons, List.map_nil]); first | done | rfl) ?_
   with_reducible refine (look_any (S := (fun k_ => SetC wg.heap.size l0 c k_ ∧ k_ < w2.heap.size)) _ X _ _ _ _ (by first | exact HRX.out.below ((Below.refl _ _).drew) | exact HRX.out.below HBA.out)).mono ?_
   rintro e wL ⟨pl, pr, pll, plr, prl, prr, pa, pb, rfl, hLb, r1, r2, r3, r4, r5, r6, r7, r8⟩
   refine ⟨_, rfl, ?_⟩
   refine hK.out _ _ ⟨(hLb.cell (blt _ _ hHeld.1)).trans hHeld.1, (hLb.cell (blt _ _ hHeld.2.1)).trans hHeld.2.1, (hLb.cell (blt _ _ hHeld.2.2)).trans hHeld.2.2⟩ (fun hHeld => ?_)
   clear hK K
   refine norm_ (a' := ?_) ?_ ?_
   rotate_left
   ·show Act.put _ (some 34) _ = _
    simp only [Act.put, sI, sZ, sS, i64_w, i32_w]
    rfl
   exact norm_ (by simp only [putAll, Act.put, sI, sZ, sS]) (hCont (g, pl, pr, pll, plr, prl, prr, pa, pb) _ ⟨HBA.out.trans (hLb.mono hbA.size), hgs, (hLb.block _ (Array.getElem?_eq_some_iff.1 hbox).1).trans hbox, r1.below hLb, r2.below hLb, r3.below hLb, r4.below hLb, r5.below hLb, r6.below hLb, r7.below hLb, r8.below hLb⟩)
 rintro ⟨g, pl, pr, pll, plr, prl, prr, pa, pb⟩ w3 ⟨hF1, hF2, hF3, y1, y2, y3, y4, y5, y6, y7, y8⟩
 replace hF2 : w2.heap.size ≤ g := hF2
 replace hF3 : w3.heap[g]? = some (.cells #[.bool false, .pointer none, .pointer none, .pointer none, .pointer none, .pointer none, .pointer none, .pointer none, .pointer none, .pointer none, .bool false] 111 (0, 0)) := hF3
 have HY1 : Aside0 (Rep (fun k_ => SetC wg.heap.size l0 c k_ ∧ k_ < w2.heap.size) w3 (.pointer pl) (lT mir X)) := ⟨y1⟩
 have HY2 : Aside0 (Rep (fun k_ => SetC wg.heap.size l0 c k_ ∧ k_ < w2.heap.size) w3 (.pointer pr) (rT mir X)) := ⟨y2⟩
 have HY3 : Aside0 (Rep (fun k_ => SetC wg.heap.size l0 c k_ ∧ k_ < w2.heap.size) w3 (.pointer pll) (lT mir (lT mir X))) := ⟨y3⟩
 have HY4 : Aside0 (Rep (fun k_ => SetC wg.heap.size l0 c k_ ∧ k_ < w2.heap.size) w3 (.pointer plr) (rT mir (lT mir X))) := ⟨y4⟩
 have HY5 : Aside0 (Rep (fun k_ => SetC wg.heap.size l0 c k_ ∧ k_ < w2.heap.size) w3 (.pointer prl) (lT mir (rT mir X))) := ⟨y5⟩
 have HY6 : Aside0 (Rep (fun k_ => SetC wg.heap.size l0 c k_ ∧ k_ < w2.heap.size) w3 (.pointer prr) (rT mir (rT mir X))) := ⟨y6⟩
 have HY7 : Aside0 (Rep (fun k_ => SetC wg.heap.size l0 c k_ ∧ k_ < w2.heap.size) w3 (.pointer pa) (lT mir (lT mir (rT mir X)))) := ⟨y7⟩
 have HY8 : Aside0 (Rep (fun k_ => SetC wg.heap.size l0 c k_ ∧ k_ < w2.heap.size) w3 (.pointer pb) (rT mir (lT mir (rT mir X)))) := ⟨y8⟩
 have hHeld : w3.cell? ⟨wg.heap.size, c, none⟩ = some (.pointer (some ⟨wg.heap.size + 2 + 2 * c, 0, none⟩)) ∧ w3.cell? ⟨w.heap.size, 0, none⟩ = some (.int .i64 kind) ∧ w3.cell? ⟨w.heap.size, 1, none⟩ = some (.bool mir) := ⟨(hF1.cell (p := ⟨wg.heap.size, c, none⟩) hg2).trans HPC.out, (hF1.cell (p := ⟨w.heap.size, 0, none⟩) (Nat.lt_trans hg0 hg2)).trans HB0.out, (hF1.cell (p := ⟨w.heap.size, 1, none⟩) (Nat.lt_trans hg0 hg2)).trans HB1.out⟩
 have hz0 : w3.cell? ⟨g, 0, none⟩ = some (.bool false) := (cell_of hF3 0).trans rfl
 have hz1 : w3.cell? ⟨g, 1, none⟩ = some (.pointer none) := (cell_of hF3 1).trans rfl
 have hz2 : w3.cell? ⟨g, 2, none⟩ = some (.pointer none) := (cell_of hF3 2).trans rfl
 have hz3 : w3.cell? ⟨g, 3, none⟩ = some (.pointer none) := (cell_of hF3 3).trans rfl
 have hz4 : w3.cell? ⟨g, 4, none⟩ = some (.pointer none) := (cell_of hF3 4).trans rfl
 have hz5 : w3.cell? ⟨g, 5, none⟩ = some (.pointer none) := (cell_of hF3 5).trans rfl
 have hz6 : w3.cell? ⟨g, 6, none⟩ = some (.pointer none) := (cell_of hF3 6).trans rfl
 have hz7 : w3.cell? ⟨g, 7, none⟩ = some (.pointer none) := (cell_of hF3 7).trans rfl
 have hz8 : w3.cell? ⟨g, 8, none⟩ = some (.pointer none) := (cell_of hF3 8).trans rfl
 have hz9 : w3.cell? ⟨g, 9, none⟩ = some (.pointer none) := (cell_of hF3 9).trans rfl
 have hz10 : w3.cell? ⟨g, 10, none⟩ = some (.bool false) := (cell_of hF3 10).trans rfl
 have hfz0 := frz_of hF3 0
 have hfz1 := frz_of hF3 1
 have hfz2 := frz_of hF3 2
 have hfz3 := frz_of hF3 3
 have hfz4 := frz_of hF3 4
 have hfz5 := frz_of hF3 5
 have hfz6 := frz_of hF3 6
 have hfz7 := frz_of hF3 7
 have hfz8 := frz_of hF3 8
 have hfz9 := frz_of hF3 9
 have hfz10 := frz_of hF3 10
 have HF1 := Am hF1
 have HF3 := Am hF3
 clear hF1 hF3 y1 y2 y3 y4 y5 y6 y7 y8
 refine norm_ (a' := ?_) ?_ ?_
 rotate_left
 ·simp only [putAll, Act.put, sI, sZ, sS]
  rfl
 refine last_ (i := 10) (N := none) #[true, true, true, true, true, true, true, true, true, true, true] rfl rfl (by kernel_rfl) (by decide) (fun K hK => ?_)
 refine skip_ (w1 := ?_) (by rfl) rfl ?_ ?_
 rotate_left
 ·go_simp
  rfl
 refine hK.out _ _ ?_
 clear hK K
 refine done_ (by kernel_rfl) ?_
 try clear hHeld
 have hV := put11 HF3.out (.bool mir) (.pointer (some ⟨wg.heap.size + 2 + 2 * c, 0, none⟩)) (.pointer pl) (.pointer pr) (.pointer pll) (.pointer plr) (.pointer prl) (.pointer prr) (.pointer pa) (.pointer pb) (.bool rt)
 have hB := below11 HF1.out hF2 (.bool mir) (.pointer (some ⟨wg.heap.size + 2 + 2 * c, 0, none⟩)) (.pointer pl) (.pointer pr) (.pointer pll) (.pointer plr) (.pointer prl) (.pointer prr) (.pointer pa) (.pointer pb) (.bool rt)
 have hK : ∀ k_, k_ < w2.heap.size → (((((((((((w3.setCell ⟨g, 0, none⟩ (.bool mir)).setCell ⟨g, 1, none⟩ (.pointer (some ⟨wg.heap.size + 2 + 2 * c, 0, none⟩))).setCell ⟨g, 2, none⟩ (.pointer pl)).setCell ⟨g, 3, none⟩ (.pointer pr)).setCell ⟨g, 4, none⟩ (.pointer pll)).setCell ⟨g, 5, none⟩ (.pointer plr)).setCell ⟨g, 6, none⟩ (.pointer prl)).setCell ⟨g, 7, none⟩ (.pointer prr)).setCell ⟨g, 8, none⟩ (.pointer pa)).setCell ⟨g, 9, none⟩ (.pointer pb)).setCell ⟨g, 10, none⟩ (.bool rt)).heap[k_]? = w3.heap[k_]? := fun k_ hk_ => setc11 (by omega) (.bool mir) (.pointer (some ⟨wg.heap.size + 2 + 2 * c, 0, none⟩)) (.pointer pl) (.pointer pr) (.pointer pll) (.pointer plr) (.pointer prl) (.pointer prr) (.pointer pa) (.pointer pb) (.bool rt)
 clear hz0 hfz0 hz1 hfz1 hz2 hfz2 hz3 hfz3 hz4 hfz4 hz5 hfz5 hz6 hfz6 hz7 hfz7 hz8 hfz8 hz9 hfz9 hz10 hfz10 HF3 HF1
 generalize (((((((((((w3.setCell ⟨g, 0, none⟩ (.bool mir)).setCell ⟨g, 1, none⟩ (.pointer (some ⟨wg.heap.size + 2 + 2 * c, 0, none⟩))).setCell ⟨g, 2, none⟩ (.pointer pl)).setCell ⟨g, 3, none⟩ (.pointer pr)).setCell ⟨g, 4, none⟩ (.pointer pll)).setCell ⟨g, 5, none⟩ (.pointer plr)).setCell ⟨g, 6, none⟩ (.pointer prl)).setCell ⟨g, 7, none⟩ (.pointer prr)).setCell ⟨g, 8, none⟩ (.pointer pa)).setCell ⟨g, 9, none⟩ (.pointer pb)).setCell ⟨g, 10, none⟩ (.bool rt)) = w4 at hV hB hK ⊢
 have HRpl := Am (HY1.out.keptS (w' := w4) (fun k_ hk_ _ => hK k_ hk_.2))
 have HRpr := Am (HY2.out.keptS (w' := w4) (fun k_ hk_ _ => hK k_ hk_.2))
 have HRpll := Am (HY3.out.keptS (w' := w4) (fun k_ hk_ _ => hK k_ hk_.2))
 have HRplr := Am (HY4.out.keptS (w' := w4) (fun k_ hk_ _ => hK k_ hk_.2))
 have HRprl := Am (HY5.out.keptS (w' := w4) (fun k_ hk_ _ => hK k_ hk_.2))
 have HRprr := Am (HY6.out.keptS (w' := w4) (fun k_ hk_ _ => hK k_ hk_.2))
 have HRpa := Am (HY7.out.keptS (w' := w4) (fun k_ hk_ _ => hK k_ hk_.2))
 have HRpb := Am (HY8.out.keptS (w' := w4) (fun k_ hk_ _ => hK k_ hk_.2))
 have HRp := Am (HRX.out.below hB)
 have HV := Am hV
 have HB := Am hB
 clear HY1 HY2 HY3 HY4 HY5 HY6 HY7 HY8 hK
 have hk0 : w4.cell? ⟨w.heap.size, 0, none⟩ = some (.int .i64 kind) := (hB.cell (p := ⟨w.heap.size, 0, none⟩) (Nat.lt_trans hg0 hg2)).trans HB0.out
 have HK0 := Am hk0
 have hv0 : w4.cell? ⟨g, 0, none⟩ = some (.bool mir) := (cell_of hV 0).trans rfl
 have hv1 : w4.cell? ⟨g, 1, none⟩ = some (.pointer (some ⟨wg.heap.size + 2 + 2 * c, 0, none⟩)) := (cell_of hV 1).trans rfl
 have hv2 : w4.cell? ⟨g, 2, none⟩ = some (.pointer pl) := (cell_of hV 2).trans rfl
 have hv3 : w4.cell? ⟨g, 3, none⟩ = some (.pointer pr) := (cell_of hV 3).trans rfl
 have hv4 : w4.cell? ⟨g, 4, none⟩ = some (.pointer pll) := (cell_of hV 4).trans rfl
 have hv5 : w4.cell? ⟨g, 5, none⟩ = some (.pointer plr) := (cell_of hV 5).trans rfl
 have hv6 : w4.cell? ⟨g, 6, none⟩ = some (.pointer prl) := (cell_of hV 6).trans rfl
 have hv7 : w4.cell? ⟨g, 7, none⟩ = some (.pointer prr) := (cell_of hV 7).trans rfl
 have hv8 : w4.cell? ⟨g, 8, none⟩ = some (.pointer pa) := (cell_of hV 8).trans rfl
 have hv9 : w4.cell? ⟨g, 9, none⟩ = some (.pointer pb) := (cell_of hV 9).trans rfl
 have hv10 : w4.cell? ⟨g, 10, none⟩ = some (.bool rt) := (cell_of hV 10).trans rfl
 clear hV hB HPC HB0 HB1
 go_wp2_with (fail)
 refine (can_any mir rt (some ⟨wg.heap.size + 2 + 2 * c, 0, none⟩) pl pr pll plr prl prr pa pb X _ HRp HRpl HRpr HRpll HRplr HRprl HRprr HRpa HRpb kind HKD.out).mono ?_
 rw [HCAN.out]
 rintro e w5 ⟨rfl, h5⟩
 have HB5 := Am (HB.out.trans (h5.mono HB.out.size))
 have H5 := Am h5
 have HV5 := Am ((h5.block _ (Array.getElem?_eq_some_iff.1 HV.out).1).trans HV.out)
 have hk5 := (h5.cell (blt _ _ HK0.out)).trans HK0.out
 clear h5 hv0 hv1 hv2 hv3 hv4 hv5 hv6 hv7 hv8 hv9 hv10 hk0 HV
 have hw0 : w5.cell? ⟨g, 0, none⟩ = some (.bool mir) := (cell_of HV5.out 0).trans rfl
 have hw1 : w5.cell? ⟨g, 1, none⟩ = some (.pointer (some ⟨wg.heap.size + 2 + 2 * c, 0, none⟩)) := (cell_of HV5.out 1).trans rfl
 have hw2 : w5.cell? ⟨g, 2, none⟩ = some (.pointer pl) := (cell_of HV5.out 2).trans rfl
 have hw3 : w5.cell? ⟨g, 3, none⟩ = some (.pointer pr) := (cell_of HV5.out 3).trans rfl
 have hw4 : w5.cell? ⟨g, 4, none⟩ = some (.pointer pll) := (cell_of HV5.out 4).trans rfl
 have hw5 : w5.cell? ⟨g, 5, none⟩ = some (.pointer plr) := (cell_of HV5.out 5).trans rfl
 have hw6 : w5.cell? ⟨g, 6, none⟩ = some (.pointer prl) := (cell_of HV5.out 6).trans rfl
 have hw7 : w5.cell? ⟨g, 7, none⟩ = some (.pointer prr) := (cell_of HV5.out 7).trans rfl
 have hw8 : w5.cell? ⟨g, 8, none⟩ = some (.pointer pa) := (cell_of HV5.out 8).trans rfl
 have hw9 : w5.cell? ⟨g, 9, none⟩ = some (.pointer pb) := (cell_of HV5.out 9).trans rfl
 have hw10 : w5.cell? ⟨g, 10, none⟩ = some (.bool rt) := (cell_of HV5.out 10).trans rfl
 go_wp2
 go_ret2
 exact ⟨rfl, HBW.out.trans ((HFO.out.bel.trans (HB5.out.mono HFO.out.bel.size)).mono HBW.out.size)⟩
end Go.Proofs.Ytgleaefhflamnaa.T
namespace Go.Proofs.Ytgleaefhflamnaa.T
open Go.RowKit Go.Proofs.YtgleaefhflamnaaW.PrintWords Go.Proofs.YtgleaefhflamnaaW.PrintLast Go.Proofs.YtgleaefhflamnaaW.PrintMore
set_option maxHeartbeats 8000000 in
set_option maxRecDepth 100000 in
theorem do_big (k : Nat) (A0 : Option Addr) (c0 : Nat) (l0 : List S34) (c : Nat) (kind : Int) (mir : Bool) (r1 : Int) (r2 : List Bool) (w : World) (hr0 : Kd.C k34 w A0 l0.length l0) (hc0 : l0.length ≤ c0)
  (h : steps_keys.f k l0 = some (r1, r2, 0)) (hm : steps_Move_is.f kind mir = some true) (hkd : 1 ≤ kind ∧ kind ≤ 12) (hp1 : (c : Int) < l0.length) (hp2 : (c : Int) < r2.length) (hbel : rdOf false r2 c = true) (ht : OkT l0) (K : Nat) (X : Tr) (hX : mkT l0 K c = some X) (rt : Bool) (hrt : ((c : Int) == r1) = rt) (hrf : rt = false) (hcan : canT mir rt X kind = true) (hbig : 1000000 < wt (doT mir X kind)) :
  Calls Try.prog 30 #[.slice A0 l0.length c0, .int .i64 c, .agg #[.int .i64 kind, .bool mir]] w fun e w' => e = .returned (.tuple #[.slice none 0 0, .int .i64 2]) ∧ Below w.heap.size w w' := by
 have HCAN := Am hcan
 clear hcan
 have hxn : X ≠ .nil := by rintro rfl; exact mkT_nil hX
 have HXN := Am hxn
 clear hxn
 have HRF := Am hrf
 clear hrf
 have hu62 := Try.underlying62
 have hu111 := Try.underlying111
 have hu116 := Try.underlying116
 have hu34 := Try.underlying34
 have HR := Am hr0
 have HC := Am hc0
 have H := Am h
 have HM := Am hm
 have HT := Am ht
 have HX := Am hX
 have HKD := Am hkd
 have HBEL := Am hbel
 have hlen : l0.length ≤ 100000 := ht.len
 have hcl : c < l0.length := by omega
 clear hr0 hc0 h hm ht hX hkd hbel
 go_enter Try.func30, Try.ntmps30
 go_wp2_with (fail)
 refine (at_okt k A0 c0 l0 c kind mir r1 r2 _ (Kd.C_below HR.out ((Below.refl _ _).alloc (Nat.le_refl _) _)) HC.out H.out (fun _ => HM.out) (by omega) hp1 hp2 HBEL.out (by omega) (fun i hi h4 => ⟨(HT.out.kids i hi h4).1, (HT.out.kids i hi h4).2.1, (HT.out.kids i hi h4).2.2.1⟩)).mono ?_
 rintro e w2 ⟨wg, rfl, hbg, hfo⟩
 have hbw : Below w.heap.size w wg := ((Below.refl _ _).alloc (Nat.le_refl _) _).trans (hbg.mono (by simp))
 have hg0 : w.heap.size < wg.heap.size := by have h_ := hbg.size; simp at h_; omega
 have hbx0 : wg.cell? ⟨w.heap.size, 0, none⟩ = some (.int .i64 kind) := (hbg.cell (p := ⟨w.heap.size, 0, none⟩) (by simp)).trans (World.cell?_alloc_at _ _ _ _ rfl)
 have hbx1 : wg.cell? ⟨w.heap.size, 1, none⟩ = some (.bool mir) := (hbg.cell (p := ⟨w.heap.size, 1, none⟩) (by simp)).trans (World.cell?_alloc_at _ _ _ _ rfl)
 have HBW := Am hbw
 have HFO := Am hfo
 have HX0 := Am hbx0
 have HX1 := Am hbx1
 have HRX : Aside0 (Rep (fun k_ => SetC wg.heap.size l0 c k_ ∧ k_ < w2.heap.size) w2 (.pointer (some ⟨wg.heap.size + 2 + 2 * c, 0, none⟩)) X) := ⟨(forest_rep hfo HX.out K c X HX.out (Nat.le_refl _)).bound⟩
 have hg2 : wg.heap.size < w2.heap.size := rowIs_lt hfo.ptrs
 have hpc : w2.drew.cell? ⟨wg.heap.size, c, none⟩ = some (.pointer (some ⟨wg.heap.size + 2 + 2 * c, 0, none⟩)) := (rowIs_cell hfo.ptrs c hcl).trans (by rw [if_pos hcl]; rfl)
 have hb0 : w2.drew.cell? ⟨w.heap.size, 0, none⟩ = some (.int .i64 kind) := (hfo.bel.cell (p := ⟨w.heap.size, 0, none⟩) hg0).trans hbx0
 have hb1 : w2.drew.cell? ⟨w.heap.size, 1, none⟩ = some (.bool mir) := (hfo.bel.cell (p := ⟨w.heap.size, 1, none⟩) hg0).trans hbx1
 clear hbg hbw hfo hbx0 hbx1
 go_wp2
 have HPC := Am hpc
 have HB0 := Am hb0
 have HB1 := Am hb1
 refine start_ (n := 11) (S := fun w' => w'.cell? ⟨wg.heap.size, c, none⟩ = some (.pointer (some ⟨wg.heap.size + 2 + 2 * c, 0, none⟩)) ∧ w'.cell? ⟨w.heap.size, 0, none⟩ = some (.int .i64 kind) ∧ w'.cell? ⟨w.heap.size, 1, none⟩ = some (.bool mir)) (ds := [10]) #[false, false, false, false, false, false, false, false, false, false, false] (by kernel_rfl) rfl rfl ⟨hpc, hb0, hb1⟩ (fun hHeld => ?_)
 refine pu 0 26 ?_
 refine pu 1 27 ?_
 refine pu 2 28 ?_
 refine pu 5 31 ?_
 refine pu 6 32 ?_
 refine pu 7 33 ?_
 refine ta 3 29 hHeld ?_
 refine ta 4 30 hHeld ?_
 refine join_ (σ := Nat × Option Addr × Option Addr × Option Addr × Option Addr × Option Addr × Option Addr × Option Addr × Option Addr) 1 #[true, true, true, true, true, true, true, true, true, true, false] (fun s => [(34, .agg #[.bool mir, .pointer (some ⟨wg.heap.size + 2 + 2 * c, 0, none⟩), .pointer s.2.1, .pointer s.2.2.1, .pointer s.2.2.2.1, .pointer s.2.2.2.2.1, .pointer s.2.2.2.2.2.1, .pointer s.2.2.2.2.2.2.1, .pointer s.2.2.2.2.2.2.2.1, .pointer s.2.2.2.2.2.2.2.2, .bool rt]), (11, .pointer (some ⟨s.1, 0, none⟩))]) (fun s w' => Below w2.heap.size w2 w' ∧ w2.heap.size ≤ s.1 ∧ w'.heap[s.1]? = some (.cells #[.bool false, .pointer none, .pointer none, .pointer none, .pointer none, .pointer none, .pointer none, .pointer none, .pointer none, .pointer none, .bool false] 111 (0, 0)) ∧ Rep (fun k_ => SetC wg.heap.size l0 c k_ ∧ k_ < w2.heap.size) w' (.pointer s.2.1) (lT mir X) ∧ Rep (fun k_ => SetC wg.heap.size l0 c k_ ∧ k_ < w2.heap.size) w' (.pointer s.2.2.1) (rT mir X) ∧ Rep (fun k_ => SetC wg.heap.size l0 c k_ ∧ k_ < w2.heap.size) w' (.pointer s.2.2.2.1) (lT mir (lT mir X)) ∧ Rep (fun k_ => SetC wg.heap.size l0 c k_ ∧ k_ < w2.heap.size) w' (.pointer s.2.2.2.2.1) (rT mir (lT mir X)) ∧ Rep (fun k_ => SetC wg.heap.size l0 c k_ ∧ k_ < w2.heap.size) w' (.pointer s.2.2.2.2.2.1) (lT mir (rT mir X)) ∧ Rep (fun k_ => SetC wg.heap.size l0 c k_ ∧ k_ < w2.heap.size) w' (.pointer s.2.2.2.2.2.2.1) (rT mir (rT mir X)) ∧ Rep (fun k_ => SetC wg.heap.size l0 c k_ ∧ k_ < w2.heap.size) w' (.pointer s.2.2.2.2.2.2.2.1) (lT mir (lT mir (rT mir X))) ∧ Rep (fun k_ => SetC wg.heap.size l0 c k_ ∧ k_ < w2.heap.size) w' (.pointer s.2.2.2.2.2.2.2.2) (rT mir (lT mir (rT mir X)))) ?_ ?_
 rotate_left
 ·intro hCont
  refine two_ (i := 8) (j := 9) (Ni := some 34) (Nj := some 11) #[true, true, true, true, true, true, true, true, true, false, false] #[true, true, true, true, true, true, true, true, false, true, false] rfl rfl rfl rfl (by kernel_rfl) (by decide) (by decide) (fun K hK => ?_) (fun K hK => ?_)
  ·skip
   refine goes_ Try.func63 (by kernel_rfl) rfl #[.pointer (some ⟨wg.heap.size + 2 + 2 * c, 0, none⟩), .agg #[.int .i64 kind, .bool mir], .bool rt] (by rfl) rfl rfl (by (try simp only [List.map_toArray, List.map_cons, List.map_nil]); first | done | rfl) ?_
   with_reducible refine (look_any (S := (fun k_ => SetC wg.heap.size l0 c k_ ∧ k_ < w2.heap.size)) _ X _ _ _ _ (by first | exact HRX.out.below ((Below.refl _ _).drew) | exact HRX.out.below HBA.out)).mono ?_
   rintro e wL ⟨pl, pr, pll, plr, prl, prr, pa, pb, rfl, hLb, r1, r2, r3, r4, r5, r6, r7, r8⟩
   refine ⟨_, rfl, ?_⟩
   refine hK.out _ _ ⟨(hLb.cell (blt _ _ hHeld.1)).trans hHeld.1, (hLb.cell (blt _ _ hHeld.2.1)).trans hHeld.2.1, (hLb.cell (blt _ _ hHeld.2.2)).trans hHeld.2.2⟩ (fun hHeld => ?_)
   clear hK K
   refine norm_ (a' := ?_) ?_ ?_
   rotate_left
   ·show Act.put _ (some 34) _ = _
    simp only [Act.put, sI, sZ, sS, i64_w, i32_w]
    rfl
   refine one_ (i := 9) (N := some 11) #[true, true, true, true, true, true, true, true, true, true, false] rfl rfl (by kernel_rfl) (by decide) (fun K hK => ?_)
   refine box_step (by rfl) (N := 11) rfl (cs := #[.bool false, .pointer none, .pointer none, .pointer none, .pointer none, .pointer none, .pointer none, .pointer none, .pointer none, .pointer none, .bool false]) (t := 111) ?hr ?_
   case hr => first | (go_simp; done) | (go_simp; rfl)
   intro g hg wA hbox hbA
   have hgs : w2.heap.size ≤ g := by rw [hg]; exact hLb.size
   refine hK.out _ _ ⟨(hbA.cell (blt _ _ hHeld.1)).trans hHeld.1, (hbA.cell (blt _ _ hHeld.2.1)).trans hHeld.2.1, (hbA.cell (blt _ _ hHeld.2.2)).trans hHeld.2.2⟩ (fun hHeld => ?_)
   clear hK K
   refine norm_ (a' := ?_) ?_ ?_
   rotate_left
   ·show Act.put _ (some 11) _ = _
    simp only [Act.put, sI, sZ, sS, i64_w, i32_w]
    rfl
   exact norm_ (by simp only [putAll, Act.put, sI, sZ, sS]) (hCont (g, pl, pr, pll, plr, prl, prr, pa, pb) _ ⟨((Below.refl w2.heap.size w2).drew.trans (hLb.mono (Nat.le_refl _))).trans (hbA.mono hLb.size), hgs, hbox, (r1.below hLb).below hbA, (r2.below hLb).below hbA, (r3.below hLb).below hbA, (r4.below hLb).below hbA, (r5.below hLb).below hbA, (r6.below hLb).below hbA, (r7.below hLb).below hbA, (r8.below hLb).below hbA⟩)
  ·skip
   refine box_step (by rfl) (N := 11) rfl (cs := #[.bool false, .pointer none, .pointer none, .pointer none, .pointer none, .pointer none, .pointer none, .pointer none, .pointer none, .pointer none, .bool false]) (t := 111) ?hr ?_
   case hr => first | (go_simp; done) | (go_simp; rfl)
   intro g hg wA hbox hbA
   have HBA := Am (((Below.refl w2.heap.size w2).drew).trans (hbA.mono (Nat.le_refl _)))
   have hgs : w2.heap.size ≤ g := by rw [hg]; exact Nat.le_refl _
   refine hK.out _ _ ⟨(hbA.cell (blt _ _ hHeld.1)).trans hHeld.1, (hbA.cell (blt _ _ hHeld.2.1)).trans hHeld.2.1, (hbA.cell (blt _ _ hHeld.2.2)).trans hHeld.2.2⟩ (fun hHeld => ?_)
   clear hK K
   refine norm_ (a' := ?_) ?_ ?_
   rotate_left
   ·show Act.put _ (some 11) _ = _
    simp only [Act.put, sI, sZ, sS, i64_w, i32_w]
    rfl
   refine one_ (i := 8) (N := some 34) #[true, true, true, true, true, true, true, true, true, true, false] rfl rfl (by kernel_rfl) (by decide) (fun K hK => ?_)
   refine goes_ Try.func63 (by kernel_rfl) rfl #[.pointer (some ⟨wg.heap.size + 2 + 2 * c, 0, none⟩), .agg #[.int .i64 kind, .bool mir], .bool rt] (by rfl) rfl rfl (by (try simp only [List.map_toArray, List.map_cons, List.map_nil]); first | done | rfl) ?_
   with_reducible refine (look_any (S := (fun k_ => SetC wg.heap.size l0 c k_ ∧ k_ < w2.heap.size)) _ X _ _ _ _ (by first | exact HRX.out.below ((Below.refl _ _).drew) | exact HRX.out.below HBA.out)).mono ?_
   rintro e wL ⟨pl, pr, pll, plr, prl, prr, pa, pb, rfl, hLb, r1, r2, r3, r4, r5, r6, r7, r8⟩
   refine ⟨_, rfl, ?_⟩
   refine hK.out _ _ ⟨(hLb.cell (blt _ _ hHeld.1)).trans hHeld.1, (hLb.cell (blt _ _ hHeld.2.1)).trans hHeld.2.1, (hLb.cell (blt _ _ hHeld.2.2)).trans hHeld.2.2⟩ (fun hHeld => ?_)
   clear hK K
   refine norm_ (a' := ?_) ?_ ?_
   rotate_left
   ·show Act.put _ (some 34) _ = _
    simp only [Act.put, sI, sZ, sS, i64_w, i32_w]
    rfl
   exact norm_ (by simp only [putAll, Act.put, sI, sZ, sS]) (hCont (g, pl, pr, pll, plr, prl, prr, pa, pb) _ ⟨HBA.out.trans (hLb.mono hbA.size), hgs, (hLb.block _ (Array.getElem?_eq_some_iff.1 hbox).1).trans hbox, r1.below hLb, r2.below hLb, r3.below hLb, r4.below hLb, r5.below hLb, r6.below hLb, r7.below hLb, r8.below hLb⟩)
 rintro ⟨g, pl, pr, pll, plr, prl, prr, pa, pb⟩ w3 ⟨hF1, hF2, hF3, y1, y2, y3, y4, y5, y6, y7, y8⟩
 replace hF2 : w2.heap.size ≤ g := hF2
 replace hF3 : w3.heap[g]? = some (.cells #[.bool false, .pointer none, .pointer none, .pointer none, .pointer none, .pointer none, .pointer none, .pointer none, .pointer none, .pointer none, .bool false] 111 (0, 0)) := hF3
 have HY1 : Aside0 (Rep (fun k_ => SetC wg.heap.size l0 c k_ ∧ k_ < w2.heap.size) w3 (.pointer pl) (lT mir X)) := ⟨y1⟩
 have HY2 : Aside0 (Rep (fun k_ => SetC wg.heap.size l0 c k_ ∧ k_ < w2.heap.size) w3 (.pointer pr) (rT mir X)) := ⟨y2⟩
 have HY3 : Aside0 (Rep (fun k_ => SetC wg.heap.size l0 c k_ ∧ k_ < w2.heap.size) w3 (.pointer pll) (lT mir (lT mir X))) := ⟨y3⟩
 have HY4 : Aside0 (Rep (fun k_ => SetC wg.heap.size l0 c k_ ∧ k_ < w2.heap.size) w3 (.pointer plr) (rT mir (lT mir X))) := ⟨y4⟩
 have HY5 : Aside0 (Rep (fun k_ => SetC wg.heap.size l0 c k_ ∧ k_ < w2.heap.size) w3 (.pointer prl) (lT mir (rT mir X))) := ⟨y5⟩
 have HY6 : Aside0 (Rep (fun k_ => SetC wg.heap.size l0 c k_ ∧ k_ < w2.heap.size) w3 (.pointer prr) (rT mir (rT mir X))) := ⟨y6⟩
 have HY7 : Aside0 (Rep (fun k_ => SetC wg.heap.size l0 c k_ ∧ k_ < w2.heap.size) w3 (.pointer pa) (lT mir (lT mir (rT mir X)))) := ⟨y7⟩
 have HY8 : Aside0 (Rep (fun k_ => SetC wg.heap.size l0 c k_ ∧ k_ < w2.heap.size) w3 (.pointer pb) (rT mir (lT mir (rT mir X)))) := ⟨y8⟩
 have hHeld : w3.cell? ⟨wg.heap.size, c, none⟩ = some (.pointer (some ⟨wg.heap.size + 2 + 2 * c, 0, none⟩)) ∧ w3.cell? ⟨w.heap.size, 0, none⟩ = some (.int .i64 kind) ∧ w3.cell? ⟨w.heap.size, 1, none⟩ = some (.bool mir) := ⟨(hF1.cell (p := ⟨wg.heap.size, c, none⟩) hg2).trans HPC.out, (hF1.cell (p := ⟨w.heap.size, 0, none⟩) (Nat.lt_trans hg0 hg2)).trans HB0.out, (hF1.cell (p := ⟨w.heap.size, 1, none⟩) (Nat.lt_trans hg0 hg2)).trans HB1.out⟩
 have hz0 : w3.cell? ⟨g, 0, none⟩ = some (.bool false) := (cell_of hF3 0).trans rfl
 have hz1 : w3.cell? ⟨g, 1, none⟩ = some (.pointer none) := (cell_of hF3 1).trans rfl
 have hz2 : w3.cell? ⟨g, 2, none⟩ = some (.pointer none) := (cell_of hF3 2).trans rfl
 have hz3 : w3.cell? ⟨g, 3, none⟩ = some (.pointer none) := (cell_of hF3 3).trans rfl
 have hz4 : w3.cell? ⟨g, 4, none⟩ = some (.pointer none) := (cell_of hF3 4).trans rfl
 have hz5 : w3.cell? ⟨g, 5, none⟩ = some (.pointer none) := (cell_of hF3 5).trans rfl
 have hz6 : w3.cell? ⟨g, 6, none⟩ = some (.pointer none) := (cell_of hF3 6).trans rfl
 have hz7 : w3.cell? ⟨g, 7, none⟩ = some (.pointer none) := (cell_of hF3 7).trans rfl
 have hz8 : w3.cell? ⟨g, 8, none⟩ = some (.pointer none) := (cell_of hF3 8).trans rfl
 have hz9 : w3.cell? ⟨g, 9, none⟩ = some (.pointer none) := (cell_of hF3 9).trans rfl
 have hz10 : w3.cell? ⟨g, 10, none⟩ = some (.bool false) := (cell_of hF3 10).trans rfl
 have hfz0 := frz_of hF3 0
 have hfz1 := frz_of hF3 1
 have hfz2 := frz_of hF3 2
 have hfz3 := frz_of hF3 3
 have hfz4 := frz_of hF3 4
 have hfz5 := frz_of hF3 5
 have hfz6 := frz_of hF3 6
 have hfz7 := frz_of hF3 7
 have hfz8 := frz_of hF3 8
 have hfz9 := frz_of hF3 9
 have hfz10 := frz_of hF3 10
 have HF1 := Am hF1
 have HF3 := Am hF3
 clear hF1 hF3 y1 y2 y3 y4 y5 y6 y7 y8
 refine norm_ (a' := ?_) ?_ ?_
 rotate_left
 ·simp only [putAll, Act.put, sI, sZ, sS]
  rfl
 refine last_ (i := 10) (N := none) #[true, true, true, true, true, true, true, true, true, true, true] rfl rfl (by kernel_rfl) (by decide) (fun K hK => ?_)
 refine skip_ (w1 := ?_) (by rfl) rfl ?_ ?_
 rotate_left
 ·go_simp
  rfl
 refine hK.out _ _ ?_
 clear hK K
 refine done_ (by kernel_rfl) ?_
 try clear hHeld
 have hV := put11 HF3.out (.bool mir) (.pointer (some ⟨wg.heap.size + 2 + 2 * c, 0, none⟩)) (.pointer pl) (.pointer pr) (.pointer pll) (.pointer plr) (.pointer prl) (.pointer prr) (.pointer pa) (.pointer pb) (.bool rt)
 have hB := below11 HF1.out hF2 (.bool mir) (.pointer (some ⟨wg.heap.size + 2 + 2 * c, 0, none⟩)) (.pointer pl) (.pointer pr) (.pointer pll) (.pointer plr) (.pointer prl) (.pointer prr) (.pointer pa) (.pointer pb) (.bool rt)
 have hK : ∀ k_, k_ < w2.heap.size → (((((((((((w3.setCell ⟨g, 0, none⟩ (.bool mir)).setCell ⟨g, 1, none⟩ (.pointer (some ⟨wg.heap.size + 2 + 2 * c, 0, none⟩))).setCell ⟨g, 2, none⟩ (.pointer pl)).setCell ⟨g, 3, none⟩ (.pointer pr)).setCell ⟨g, 4, none⟩ (.pointer pll)).setCell ⟨g, 5, none⟩ (.pointer plr)).setCell ⟨g, 6, none⟩ (.pointer prl)).setCell ⟨g, 7, none⟩ (.pointer prr)).setCell ⟨g, 8, none⟩ (.pointer pa)).setCell ⟨g, 9, none⟩ (.pointer pb)).setCell ⟨g, 10, none⟩ (.bool rt)).heap[k_]? = w3.heap[k_]? := fun k_ hk_ => setc11 (by omega) (.bool mir) (.pointer (some ⟨wg.heap.size + 2 + 2 * c, 0, none⟩)) (.pointer pl) (.pointer pr) (.pointer pll) (.pointer plr) (.pointer prl) (.pointer prr) (.pointer pa) (.pointer pb) (.bool rt)
 clear hz0 hfz0 hz1 hfz1 hz2 hfz2 hz3 hfz3 hz4 hfz4 hz5 hfz5 hz6 hfz6 hz7 hfz7 hz8 hfz8 hz9 hfz9 hz10 hfz10 HF3 HF1
 generalize (((((((((((w3.setCell ⟨g, 0, none⟩ (.bool mir)).setCell ⟨g, 1, none⟩ (.pointer (some ⟨wg.heap.size + 2 + 2 * c, 0, none⟩))).setCell ⟨g, 2, none⟩ (.pointer pl)).setCell ⟨g, 3, none⟩ (.pointer pr)).setCell ⟨g, 4, none⟩ (.pointer pll)).setCell ⟨g, 5, none⟩ (.pointer plr)).setCell ⟨g, 6, none⟩ (.pointer prl)).setCell ⟨g, 7, none⟩ (.pointer prr)).setCell ⟨g, 8, none⟩ (.pointer pa)).setCell ⟨g, 9, none⟩ (.pointer pb)).setCell ⟨g, 10, none⟩ (.bool rt)) = w4 at hV hB hK ⊢
 have HRpl := Am (HY1.out.keptS (w' := w4) (fun k_ hk_ _ => hK k_ hk_.2))
 have HRpr := Am (HY2.out.keptS (w' := w4) (fun k_ hk_ _ => hK k_ hk_.2))
 have HRpll := Am (HY3.out.keptS (w' := w4) (fun k_ hk_ _ => hK k_ hk_.2))
 have HRplr := Am (HY4.out.keptS (w' := w4) (fun k_ hk_ _ => hK k_ hk_.2))
 have HRprl := Am (HY5.out.keptS (w' := w4) (fun k_ hk_ _ => hK k_ hk_.2))
 have HRprr := Am (HY6.out.keptS (w' := w4) (fun k_ hk_ _ => hK k_ hk_.2))
 have HRpa := Am (HY7.out.keptS (w' := w4) (fun k_ hk_ _ => hK k_ hk_.2))
 have HRpb := Am (HY8.out.keptS (w' := w4) (fun k_ hk_ _ => hK k_ hk_.2))
 have HRp := Am (HRX.out.below hB)
 have HV := Am hV
 have HB := Am hB
 clear HY1 HY2 HY3 HY4 HY5 HY6 HY7 HY8 hK
 have hk0 : w4.cell? ⟨w.heap.size, 0, none⟩ = some (.int .i64 kind) := (hB.cell (p := ⟨w.heap.size, 0, none⟩) (Nat.lt_trans hg0 hg2)).trans HB0.out
 have HK0 := Am hk0
 have hv0 : w4.cell? ⟨g, 0, none⟩ = some (.bool mir) := (cell_of hV 0).trans rfl
 have hv1 : w4.cell? ⟨g, 1, none⟩ = some (.pointer (some ⟨wg.heap.size + 2 + 2 * c, 0, none⟩)) := (cell_of hV 1).trans rfl
 have hv2 : w4.cell? ⟨g, 2, none⟩ = some (.pointer pl) := (cell_of hV 2).trans rfl
 have hv3 : w4.cell? ⟨g, 3, none⟩ = some (.pointer pr) := (cell_of hV 3).trans rfl
 have hv4 : w4.cell? ⟨g, 4, none⟩ = some (.pointer pll) := (cell_of hV 4).trans rfl
 have hv5 : w4.cell? ⟨g, 5, none⟩ = some (.pointer plr) := (cell_of hV 5).trans rfl
 have hv6 : w4.cell? ⟨g, 6, none⟩ = some (.pointer prl) := (cell_of hV 6).trans rfl
 have hv7 : w4.cell? ⟨g, 7, none⟩ = some (.pointer prr) := (cell_of hV 7).trans rfl
 have hv8 : w4.cell? ⟨g, 8, none⟩ = some (.pointer pa) := (cell_of hV 8).trans rfl
 have hv9 : w4.cell? ⟨g, 9, none⟩ = some (.pointer pb) := (cell_of hV 9).trans rfl
 have hv10 : w4.cell? ⟨g, 10, none⟩ = some (.bool rt) := (cell_of hV 10).trans rfl
 clear hV hB HPC HB0 HB1
 go_wp2_with (fail)
 refine (can_any mir rt (some ⟨wg.heap.size + 2 + 2 * c, 0, none⟩) pl pr pll plr prl prr pa pb X _ HRp HRpl HRpr HRpll HRplr HRprl HRprr HRpa HRpb kind HKD.out).mono ?_
 rw [HCAN.out]
 rintro e w5 ⟨rfl, h5⟩
 have HB5 := Am (HB.out.trans (h5.mono HB.out.size))
 have H5 := Am h5
 have HV5 := Am ((h5.block _ (Array.getElem?_eq_some_iff.1 HV.out).1).trans HV.out)
 have hk5 := (h5.cell (blt _ _ HK0.out)).trans HK0.out
 clear h5 hv0 hv1 hv2 hv3 hv4 hv5 hv6 hv7 hv8 hv9 hv10 hk0 HV
 have hw0 : w5.cell? ⟨g, 0, none⟩ = some (.bool mir) := (cell_of HV5.out 0).trans rfl
 have hw1 : w5.cell? ⟨g, 1, none⟩ = some (.pointer (some ⟨wg.heap.size + 2 + 2 * c, 0, none⟩)) := (cell_of HV5.out 1).trans rfl
 have hw2 : w5.cell? ⟨g, 2, none⟩ = some (.pointer pl) := (cell_of HV5.out 2).trans rfl
 have hw3 : w5.cell? ⟨g, 3, none⟩ = some (.pointer pr) := (cell_of HV5.out 3).trans rfl
 have hw4 : w5.cell? ⟨g, 4, none⟩ = some (.pointer pll) := (cell_of HV5.out 4).trans rfl
 have hw5 : w5.cell? ⟨g, 5, none⟩ = some (.pointer plr) := (cell_of HV5.out 5).trans rfl
 have hw6 : w5.cell? ⟨g, 6, none⟩ = some (.pointer prl) := (cell_of HV5.out 6).trans rfl
 have hw7 : w5.cell? ⟨g, 7, none⟩ = some (.pointer prr) := (cell_of HV5.out 7).trans rfl
 have hw8 : w5.cell? ⟨g, 8, none⟩ = some (.pointer pa) := (cell_of HV5.out 8).trans rfl
 have hw9 : w5.cell? ⟨g, 9, none⟩ = some (.pointer pb) := (cell_of HV5.out 9).trans rfl
 have hw10 : w5.cell? ⟨g, 10, none⟩ = some (.bool rt) := (cell_of HV5.out 10).trans rfl
 go_wp2_with (fail)
 refine (do_any (S := (fun k_ => (fun k_ => SetC wg.heap.size l0 c k_ ∧ k_ < w2.heap.size) k_ ∨ w5.heap.size ≤ k_)) mir rt (some ⟨wg.heap.size + 2 + 2 * c, 0, none⟩) pl pr pll plr prl prr pa pb X _ (fun _ hk_ => .inr hk_) ⟨(HRp.out.below H5.out).mono (fun _ hk_ => .inl hk_)⟩ ⟨(HRpl.out.below H5.out).mono (fun _ hk_ => .inl hk_)⟩ ⟨(HRpr.out.below H5.out).mono (fun _ hk_ => .inl hk_)⟩ ⟨(HRpll.out.below H5.out).mono (fun _ hk_ => .inl hk_)⟩ ⟨(HRplr.out.below H5.out).mono (fun _ hk_ => .inl hk_)⟩ ⟨(HRprl.out.below H5.out).mono (fun _ hk_ => .inl hk_)⟩ ⟨(HRprr.out.below H5.out).mono (fun _ hk_ => .inl hk_)⟩ ⟨(HRpa.out.below H5.out).mono (fun _ hk_ => .inl hk_)⟩ ⟨(HRpb.out.below H5.out).mono (fun _ hk_ => .inl hk_)⟩ kind HKD.out HXN.out HCAN.out).mono ?_
 rintro e w6 ⟨q, W6, rfl, h6a, h6b, h6c⟩
 have HB6 := Am ((HB5.out.trans (h6a.mono HB5.out.size)).trans (h6b.mono (Nat.le_trans HB5.out.size h6a.size)))
 have hge6 : w5.heap.size ≤ W6.heap.size := h6a.size
 have HTOP := Am h6c
 have HTB := Am h6b
 clear h6a h6b h6c hw0 hw1 hw2 hw3 hw4 hw5 hw6 hw7 hw8 hw9 hw10
 have hrf := HRF.out
 subst hrf
 obtain ⟨b6, n6, q6, L6, R6, vl6, vr6, hq6, hdo6, hge6b, hcl6, _, _, _⟩ := HTOP.out
 injection hq6 with hq6
 subst hq6
 have hcu6 : w6.cell? ⟨b6, 2, none⟩ = some (.int .i64 n6.f2) := (cell_of hcl6 2).trans rfl
 have hwt : wt (doT mir X kind) = n6.f2 := by rw [hdo6]; rfl
 have HREP := Am (HTOP.out.rep HTB.out)
 rw [hwt] at hbig
 clear hdo6 hcl6 hwt
 have HB7 := HB6
 have dbig : decide (1000000 < n6.f2) = true := decide_eq_true hbig
 clear hbig
 go_wp2
 go_ret2
 exact ⟨rfl, HBW.out.trans ((HFO.out.bel.trans (HB6.out.mono HFO.out.bel.size)).mono HBW.out.size)⟩
end Go.Proofs.Ytgleaefhflamnaa.T
namespace Go.Proofs.Ytgleaefhflamnaa.T
open Go.RowKit Go.Proofs.YtgleaefhflamnaaW.PrintWords Go.Proofs.YtgleaefhflamnaaW.PrintLast Go.Proofs.YtgleaefhflamnaaW.PrintMore
set_option maxHeartbeats 8000000 in
set_option maxRecDepth 100000 in
theorem do_ok0 (k : Nat) (A0 : Option Addr) (c0 : Nat) (l0 : List S34) (c : Nat) (kind : Int) (mir : Bool) (r1 : Int) (r2 : List Bool) (w : World) (hr0 : Kd.C k34 w A0 l0.length l0) (hc0 : l0.length ≤ c0)
  (h : steps_keys.f k l0 = some (r1, r2, 0)) (hm : steps_Move_is.f kind mir = some true) (hkd : 1 ≤ kind ∧ kind ≤ 12) (hp1 : (c : Int) < l0.length) (hp2 : (c : Int) < r2.length) (hbel : rdOf false r2 c = true) (ht : OkT l0) (K : Nat) (X : Tr) (hX : mkT l0 K c = some X) (rt : Bool) (hrt : ((c : Int) == r1) = rt) (hrf : rt = false) (hcan : canT mir rt X kind = true) (hbig : ¬ 1000000 < wt (doT mir X kind)) (K1 : Nat) (T1 : Tr) (hT1 : mkR l0 c (doT mir X kind) K1 0 = some T1) (hfull : Full T1) (hsz : sizeT T1 ≤ 1000000) :
  Calls Try.prog 30 #[.slice A0 l0.length c0, .int .i64 c, .agg #[.int .i64 kind, .bool mir]] w fun e w' => DoOK w (flatT T1 0) e w' := by
 have HCAN := Am hcan
 clear hcan
 have HT1 := Am hT1
 have HFULL := Am hfull
 have HSZ := Am hsz
 clear hT1 hfull hsz
 have hxn : X ≠ .nil := by rintro rfl; exact mkT_nil hX
 have HXN := Am hxn
 clear hxn
 have HRF := Am hrf
 clear hrf
 have hu62 := Try.underlying62
 have hu111 := Try.underlying111
 have hu116 := Try.underlying116
 have hu34 := Try.underlying34
 have HR := Am hr0
 have HC := Am hc0
 have H := Am h
 have HM := Am hm
 have HT := Am ht
 have HX := Am hX
 have HKD := Am hkd
 have HBEL := Am hbel
 have hlen : l0.length ≤ 100000 := ht.len
 have hcl : c < l0.length := by omega
 clear hr0 hc0 h hm ht hX hkd hbel
 go_enter Try.func30, Try.ntmps30
 go_wp2_with (fail)
 refine (at_okt k A0 c0 l0 c kind mir r1 r2 _ (Kd.C_below HR.out ((Below.refl _ _).alloc (Nat.le_refl _) _)) HC.out H.out (fun _ => HM.out) (by omega) hp1 hp2 HBEL.out (by omega) (fun i hi h4 => ⟨(HT.out.kids i hi h4).1, (HT.out.kids i hi h4).2.1, (HT.out.kids i hi h4).2.2.1⟩)).mono ?_
 rintro e w2 ⟨wg, rfl, hbg, hfo⟩
 have hbw : Below w.heap.size w wg := ((Below.refl _ _).alloc (Nat.le_refl _) _).trans (hbg.mono (by simp))
 have hg0 : w.heap.size < wg.heap.size := by have h_ := hbg.size; simp at h_; omega
 have hbx0 : wg.cell? ⟨w.heap.size, 0, none⟩ = some (.int .i64 kind) := (hbg.cell (p := ⟨w.heap.size, 0, none⟩) (by simp)).trans (World.cell?_alloc_at _ _ _ _ rfl)
 have hbx1 : wg.cell? ⟨w.heap.size, 1, none⟩ = some (.bool mir) := (hbg.cell (p := ⟨w.heap.size, 1, none⟩) (by simp)).trans (World.cell?_alloc_at _ _ _ _ rfl)
 have HBW := Am hbw
 have HFO := Am hfo
 have HX0 := Am hbx0
 have HX1 := Am hbx1
 have HRX : Aside0 (Rep (fun k_ => SetC wg.heap.size l0 c k_ ∧ k_ < w2.heap.size) w2 (.pointer (some ⟨wg.heap.size + 2 + 2 * c, 0, none⟩)) X) := ⟨(forest_rep hfo HX.out K c X HX.out (Nat.le_refl _)).bound⟩
 have hg2 : wg.heap.size < w2.heap.size := rowIs_lt hfo.ptrs
 have hpc : w2.drew.cell? ⟨wg.heap.size, c, none⟩ = some (.pointer (some ⟨wg.heap.size + 2 + 2 * c, 0, none⟩)) := (rowIs_cell hfo.ptrs c hcl).trans (by rw [if_pos hcl]; rfl)
 have hb0 : w2.drew.cell? ⟨w.heap.size, 0, none⟩ = some (.int .i64 kind) := (hfo.bel.cell (p := ⟨w.heap.size, 0, none⟩) hg0).trans hbx0
 have hb1 : w2.drew.cell? ⟨w.heap.size, 1, none⟩ = some (.bool mir) := (hfo.bel.cell (p := ⟨w.heap.size, 1, none⟩) hg0).trans hbx1
 clear hbg hbw hfo hbx0 hbx1
 go_wp2
 have HPC := Am hpc
 have HB0 := Am hb0
 have HB1 := Am hb1
 refine start_ (n := 11) (S := fun w' => w'.cell? ⟨wg.heap.size, c, none⟩ = some (.pointer (some ⟨wg.heap.size + 2 + 2 * c, 0, none⟩)) ∧ w'.cell? ⟨w.heap.size, 0, none⟩ = some (.int .i64 kind) ∧ w'.cell? ⟨w.heap.size, 1, none⟩ = some (.bool mir)) (ds := [10]) #[false, false, false, false, false, false, false, false, false, false, false] (by kernel_rfl) rfl rfl ⟨hpc, hb0, hb1⟩ (fun hHeld => ?_)
 refine pu 0 26 ?_
 refine pu 1 27 ?_
 refine pu 2 28 ?_
 refine pu 5 31 ?_
 refine pu 6 32 ?_
 refine pu 7 33 ?_
 refine ta 3 29 hHeld ?_
 refine ta 4 30 hHeld ?_
 refine join_ (σ := Nat × Option Addr × Option Addr × Option Addr × Option Addr × Option Addr × Option Addr × Option Addr × Option Addr) 1 #[true, true, true, true, true, true, true, true, true, true, false] (fun s => [(34, .agg #[.bool mir, .pointer (some ⟨wg.heap.size + 2 + 2 * c, 0, none⟩), .pointer s.2.1, .pointer s.2.2.1, .pointer s.2.2.2.1, .pointer s.2.2.2.2.1, .pointer s.2.2.2.2.2.1, .pointer s.2.2.2.2.2.2.1, .pointer s.2.2.2.2.2.2.2.1, .pointer s.2.2.2.2.2.2.2.2, .bool rt]), (11, .pointer (some ⟨s.1, 0, none⟩))]) (fun s w' => Below w2.heap.size w2 w' ∧ w2.heap.size ≤ s.1 ∧ w'.heap[s.1]? = some (.cells #[.bool false, .pointer none, .pointer none, .pointer none, .pointer none, .pointer none, .pointer none, .pointer none, .pointer none, .pointer none, .bool false] 111 (0, 0)) ∧ Rep (fun k_ => SetC wg.heap.size l0 c k_ ∧ k_ < w2.heap.size) w' (.pointer s.2.1) (lT mir X) ∧ Rep (fun k_ => SetC wg.heap.size l0 c k_ ∧ k_ < w2.heap.size) w' (.pointer s.2.2.1) (rT mir X) ∧ Rep (fun k_ => SetC wg.heap.size l0 c k_ ∧ k_ < w2.heap.size) w' (.pointer s.2.2.2.1) (lT mir (lT mir X)) ∧ Rep (fun k_ => SetC wg.heap.size l0 c k_ ∧ k_ < w2.heap.size) w' (.pointer s.2.2.2.2.1) (rT mir (lT mir X)) ∧ Rep (fun k_ => SetC wg.heap.size l0 c k_ ∧ k_ < w2.heap.size) w' (.pointer s.2.2.2.2.2.1) (lT mir (rT mir X)) ∧ Rep (fun k_ => SetC wg.heap.size l0 c k_ ∧ k_ < w2.heap.size) w' (.pointer s.2.2.2.2.2.2.1) (rT mir (rT mir X)) ∧ Rep (fun k_ => SetC wg.heap.size l0 c k_ ∧ k_ < w2.heap.size) w' (.pointer s.2.2.2.2.2.2.2.1) (lT mir (lT mir (rT mir X))) ∧ Rep (fun k_ => SetC wg.heap.size l0 c k_ ∧ k_ < w2.heap.size) w' (.pointer s.2.2.2.2.2.2.2.2) (rT mir (lT mir (rT mir X)))) ?_ ?_
 rotate_left
 ·intro hCont
  refine two_ (i := 8) (j := 9) (Ni := some 34) (Nj := some 11) #[true, true, true, true, true, true, true, true, true, false, false] #[true, true, true, true, true, true, true, true, false, true, false] rfl rfl rfl rfl (by kernel_rfl) (by decide) (by decide) (fun K hK => ?_) (fun K hK => ?_)
  ·skip
   refine goes_ Try.func63 (by kernel_rfl) rfl #[.pointer (some ⟨wg.heap.size + 2 + 2 * c, 0, none⟩), .agg #[.int .i64 kind, .bool mir], .bool rt] (by rfl) rfl rfl (by (try simp only [List.map_toArray, List.map_cons, List.map_nil]); first | done | rfl) ?_
   with_reducible refine (look_any (S := (fun k_ => SetC wg.heap.size l0 c k_ ∧ k_ < w2.heap.size)) _ X _ _ _ _ (by first | exact HRX.out.below ((Below.refl _ _).drew) | exact HRX.out.below HBA.out)).mono ?_
   rintro e wL ⟨pl, pr, pll, plr, prl, prr, pa, pb, rfl, hLb, r1, r2, r3, r4, r5, r6, r7, r8⟩
   refine ⟨_, rfl, ?_⟩
   refine hK.out _ _ ⟨(hLb.cell (blt _ _ hHeld.1)).trans hHeld.1, (hLb.cell (blt _ _ hHeld.2.1)).trans hHeld.2.1, (hLb.cell (blt _ _ hHeld.2.2)).trans hHeld.2.2⟩ (fun hHeld => ?_)
   clear hK K
   refine norm_ (a' := ?_) ?_ ?_
   rotate_left
   ·show Act.put _ (some 34) _ = _
    simp only [Act.put, sI, sZ, sS, i64_w, i32_w]
    rfl
   refine one_ (i := 9) (N := some 11) #[true, true, true, true, true, true, true, true, true, true, false] rfl rfl (by kernel_rfl) (by decide) (fun K hK => ?_)
   refine box_step (by rfl) (N := 11) rfl (cs := #[.bool false, .pointer none, .pointer none, .pointer none, .pointer none, .pointer none, .pointer none, .pointer none, .pointer none, .pointer none, .bool false]) (t := 111) ?hr ?_
   case hr => first | (go_simp; done) | (go_simp; rfl)
   intro g hg wA hbox hbA
   have hgs : w2.heap.size ≤ g := by rw [hg]; exact hLb.size
   refine hK.out _ _ ⟨(hbA.cell (blt _ _ hHeld.1)).trans hHeld.1, (hbA.cell (blt _ _ hHeld.2.1)).trans hHeld.2.1, (hbA.cell (blt _ _ hHeld.2.2)).trans hHeld.2.2⟩ (fun hHeld => ?_)
   clear hK K
   refine norm_ (a' := ?_) ?_ ?_
   rotate_left
   ·show Act.put _ (some 11) _ = _
    simp only [Act.put, sI, sZ, sS, i64_w, i32_w]
    rfl
   exact norm_ (by simp only [putAll, Act.put, sI, sZ, sS]) (hCont (g, pl, pr, pll, plr, prl, prr, pa, pb) _ ⟨((Below.refl w2.heap.size w2).drew.trans (hLb.mono (Nat.le_refl _))).trans (hbA.mono hLb.size), hgs, hbox, (r1.below hLb).below hbA, (r2.below hLb).below hbA, (r3.below hLb).below hbA, (r4.below hLb).below hbA, (r5.below hLb).below hbA, (r6.below hLb).below hbA, (r7.below hLb).below hbA, (r8.below hLb).below hbA⟩)
  ·skip
   refine box_step (by rfl) (N := 11) rfl (cs := #[.bool false, .pointer none, .pointer none, .pointer none, .pointer none, .pointer none, .pointer none, .pointer none, .pointer none, .pointer none, .bool false]) (t := 111) ?hr ?_
   case hr => first | (go_simp; done) | (go_simp; rfl)
   intro g hg wA hbox hbA
   have HBA := Am (((Below.refl w2.heap.size w2).drew).trans (hbA.mono (Nat.le_refl _)))
   have hgs : w2.heap.size ≤ g := by rw [hg]; exact Nat.le_refl _
   refine hK.out _ _ ⟨(hbA.cell (blt _ _ hHeld.1)).trans hHeld.1, (hbA.cell (blt _ _ hHeld.2.1)).trans hHeld.2.1, (hbA.cell (blt _ _ hHeld.2.2)).trans hHeld.2.2⟩ (fun hHeld => ?_)
   clear hK K
   refine norm_ (a' := ?_) ?_ ?_
   rotate_left
   ·show Act.put _ (some 11) _ = _
    simp only [Act.put, sI, sZ, sS, i64_w, i32_w]
    rfl
   refine one_ (i := 8) (N := some 34) #[true, true, true, true, true, true, true, true, true, true, false] rfl rfl (by kernel_rfl) (by decide) (fun K hK => ?_)
   refine goes_ Try.func63 (by kernel_rfl) rfl #[.pointer (some ⟨wg.heap.size + 2 + 2 * c, 0, none⟩), .agg #[.int .i64 kind, .bool mir], .bool rt] (by rfl) rfl rfl (by (try simp only [List.map_toArray, List.map_cons, List.map_nil]); first | done | rfl) ?_
   with_reducible refine (look_any (S := (fun k_ => SetC wg.heap.size l0 c k_ ∧ k_ < w2.heap.size)) _ X _ _ _ _ (by first | exact HRX.out.below ((Below.refl _ _).drew) | exact HRX.out.below HBA.out)).mono ?_
   rintro e wL ⟨pl, pr, pll, plr, prl, prr, pa, pb, rfl, hLb, r1, r2, r3, r4, r5, r6, r7, r8⟩
   refine ⟨_, rfl, ?_⟩
   refine hK.out _ _ ⟨(hLb.cell (blt _ _ hHeld.1)).trans hHeld.1, (hLb.cell (blt _ _ hHeld.2.1)).trans hHeld.2.1, (hLb.cell (blt _ _ hHeld.2.2)).trans hHeld.2.2⟩ (fun hHeld => ?_)
   clear hK K
   refine norm_ (a' := ?_) ?_ ?_
   rotate_left
   ·show Act.put _ (some 34) _ = _
    simp only [Act.put, sI, sZ, sS, i64_w, i32_w]
    rfl
   exact norm_ (by simp only [putAll, Act.put, sI, sZ, sS]) (hCont (g, pl, pr, pll, plr, prl, prr, pa, pb) _ ⟨HBA.out.trans (hLb.mono hbA.size), hgs, (hLb.block _ (Array.getElem?_eq_some_iff.1 hbox).1).trans hbox, r1.below hLb, r2.below hLb, r3.below hLb, r4.below hLb, r5.below hLb, r6.below hLb, r7.below hLb, r8.below hLb⟩)
 rintro ⟨g, pl, pr, pll, plr, prl, prr, pa, pb⟩ w3 ⟨hF1, hF2, hF3, y1, y2, y3, y4, y5, y6, y7, y8⟩
 replace hF2 : w2.heap.size ≤ g := hF2
 replace hF3 : w3.heap[g]? = some (.cells #[.bool false, .pointer none, .pointer none, .pointer none, .pointer none, .pointer none, .pointer none, .pointer none, .pointer none, .pointer none, .bool false] 111 (0, 0)) := hF3
 have HY1 : Aside0 (Rep (fun k_ => SetC wg.heap.size l0 c k_ ∧ k_ < w2.heap.size) w3 (.pointer pl) (lT mir X)) := ⟨y1⟩
 have HY2 : Aside0 (Rep (fun k_ => SetC wg.heap.size l0 c k_ ∧ k_ < w2.heap.size) w3 (.pointer pr) (rT mir X)) := ⟨y2⟩
 have HY3 : Aside0 (Rep (fun k_ => SetC wg.heap.size l0 c k_ ∧ k_ < w2.heap.size) w3 (.pointer pll) (lT mir (lT mir X))) := ⟨y3⟩
 have HY4 : Aside0 (Rep (fun k_ => SetC wg.heap.size l0 c k_ ∧ k_ < w2.heap.size) w3 (.pointer plr) (rT mir (lT mir X))) := ⟨y4⟩
 have HY5 : Aside0 (Rep (fun k_ => SetC wg.heap.size l0 c k_ ∧ k_ < w2.heap.size) w3 (.pointer prl) (lT mir (rT mir X))) := ⟨y5⟩
 have HY6 : Aside0 (Rep (fun k_ => SetC wg.heap.size l0 c k_ ∧ k_ < w2.heap.size) w3 (.pointer prr) (rT mir (rT mir X))) := ⟨y6⟩
 have HY7 : Aside0 (Rep (fun k_ => SetC wg.heap.size l0 c k_ ∧ k_ < w2.heap.size) w3 (.pointer pa) (lT mir (lT mir (rT mir X)))) := ⟨y7⟩
 have HY8 : Aside0 (Rep (fun k_ => SetC wg.heap.size l0 c k_ ∧ k_ < w2.heap.size) w3 (.pointer pb) (rT mir (lT mir (rT mir X)))) := ⟨y8⟩
 have hHeld : w3.cell? ⟨wg.heap.size, c, none⟩ = some (.pointer (some ⟨wg.heap.size + 2 + 2 * c, 0, none⟩)) ∧ w3.cell? ⟨w.heap.size, 0, none⟩ = some (.int .i64 kind) ∧ w3.cell? ⟨w.heap.size, 1, none⟩ = some (.bool mir) := ⟨(hF1.cell (p := ⟨wg.heap.size, c, none⟩) hg2).trans HPC.out, (hF1.cell (p := ⟨w.heap.size, 0, none⟩) (Nat.lt_trans hg0 hg2)).trans HB0.out, (hF1.cell (p := ⟨w.heap.size, 1, none⟩) (Nat.lt_trans hg0 hg2)).trans HB1.out⟩
 have hz0 : w3.cell? ⟨g, 0, none⟩ = some (.bool false) := (cell_of hF3 0).trans rfl
 have hz1 : w3.cell? ⟨g, 1, none⟩ = some (.pointer none) := (cell_of hF3 1).trans rfl
 have hz2 : w3.cell? ⟨g, 2, none⟩ = some (.pointer none) := (cell_of hF3 2).trans rfl
 have hz3 : w3.cell? ⟨g, 3, none⟩ = some (.pointer none) := (cell_of hF3 3).trans rfl
 have hz4 : w3.cell? ⟨g, 4, none⟩ = some (.pointer none) := (cell_of hF3 4).trans rfl
 have hz5 : w3.cell? ⟨g, 5, none⟩ = some (.pointer none) := (cell_of hF3 5).trans rfl
 have hz6 : w3.cell? ⟨g, 6, none⟩ = some (.pointer none) := (cell_of hF3 6).trans rfl
 have hz7 : w3.cell? ⟨g, 7, none⟩ = some (.pointer none) := (cell_of hF3 7).trans rfl
 have hz8 : w3.cell? ⟨g, 8, none⟩ = some (.pointer none) := (cell_of hF3 8).trans rfl
 have hz9 : w3.cell? ⟨g, 9, none⟩ = some (.pointer none) := (cell_of hF3 9).trans rfl
 have hz10 : w3.cell? ⟨g, 10, none⟩ = some (.bool false) := (cell_of hF3 10).trans rfl
 have hfz0 := frz_of hF3 0
 have hfz1 := frz_of hF3 1
 have hfz2 := frz_of hF3 2
 have hfz3 := frz_of hF3 3
 have hfz4 := frz_of hF3 4
 have hfz5 := frz_of hF3 5
 have hfz6 := frz_of hF3 6
 have hfz7 := frz_of hF3 7
 have hfz8 := frz_of hF3 8
 have hfz9 := frz_of hF3 9
 have hfz10 := frz_of hF3 10
 have HF1 := Am hF1
 have HF3 := Am hF3
 clear hF1 hF3 y1 y2 y3 y4 y5 y6 y7 y8
 refine norm_ (a' := ?_) ?_ ?_
 rotate_left
 ·simp only [putAll, Act.put, sI, sZ, sS]
  rfl
 refine last_ (i := 10) (N := none) #[true, true, true, true, true, true, true, true, true, true, true] rfl rfl (by kernel_rfl) (by decide) (fun K hK => ?_)
 refine skip_ (w1 := ?_) (by rfl) rfl ?_ ?_
 rotate_left
 ·go_simp
  rfl
 refine hK.out _ _ ?_
 clear hK K
 refine done_ (by kernel_rfl) ?_
 try clear hHeld
 have hV := put11 HF3.out (.bool mir) (.pointer (some ⟨wg.heap.size + 2 + 2 * c, 0, none⟩)) (.pointer pl) (.pointer pr) (.pointer pll) (.pointer plr) (.pointer prl) (.pointer prr) (.pointer pa) (.pointer pb) (.bool rt)
 have hB := below11 HF1.out hF2 (.bool mir) (.pointer (some ⟨wg.heap.size + 2 + 2 * c, 0, none⟩)) (.pointer pl) (.pointer pr) (.pointer pll) (.pointer plr) (.pointer prl) (.pointer prr) (.pointer pa) (.pointer pb) (.bool rt)
 have hK : ∀ k_, k_ < w2.heap.size → (((((((((((w3.setCell ⟨g, 0, none⟩ (.bool mir)).setCell ⟨g, 1, none⟩ (.pointer (some ⟨wg.heap.size + 2 + 2 * c, 0, none⟩))).setCell ⟨g, 2, none⟩ (.pointer pl)).setCell ⟨g, 3, none⟩ (.pointer pr)).setCell ⟨g, 4, none⟩ (.pointer pll)).setCell ⟨g, 5, none⟩ (.pointer plr)).setCell ⟨g, 6, none⟩ (.pointer prl)).setCell ⟨g, 7, none⟩ (.pointer prr)).setCell ⟨g, 8, none⟩ (.pointer pa)).setCell ⟨g, 9, none⟩ (.pointer pb)).setCell ⟨g, 10, none⟩ (.bool rt)).heap[k_]? = w3.heap[k_]? := fun k_ hk_ => setc11 (by omega) (.bool mir) (.pointer (some ⟨wg.heap.size + 2 + 2 * c, 0, none⟩)) (.pointer pl) (.pointer pr) (.pointer pll) (.pointer plr) (.pointer prl) (.pointer prr) (.pointer pa) (.pointer pb) (.bool rt)
 clear hz0 hfz0 hz1 hfz1 hz2 hfz2 hz3 hfz3 hz4 hfz4 hz5 hfz5 hz6 hfz6 hz7 hfz7 hz8 hfz8 hz9 hfz9 hz10 hfz10 HF3 HF1
 generalize (((((((((((w3.setCell ⟨g, 0, none⟩ (.bool mir)).setCell ⟨g, 1, none⟩ (.pointer (some ⟨wg.heap.size + 2 + 2 * c, 0, none⟩))).setCell ⟨g, 2, none⟩ (.pointer pl)).setCell ⟨g, 3, none⟩ (.pointer pr)).setCell ⟨g, 4, none⟩ (.pointer pll)).setCell ⟨g, 5, none⟩ (.pointer plr)).setCell ⟨g, 6, none⟩ (.pointer prl)).setCell ⟨g, 7, none⟩ (.pointer prr)).setCell ⟨g, 8, none⟩ (.pointer pa)).setCell ⟨g, 9, none⟩ (.pointer pb)).setCell ⟨g, 10, none⟩ (.bool rt)) = w4 at hV hB hK ⊢
 have HRpl := Am (HY1.out.keptS (w' := w4) (fun k_ hk_ _ => hK k_ hk_.2))
 have HRpr := Am (HY2.out.keptS (w' := w4) (fun k_ hk_ _ => hK k_ hk_.2))
 have HRpll := Am (HY3.out.keptS (w' := w4) (fun k_ hk_ _ => hK k_ hk_.2))
 have HRplr := Am (HY4.out.keptS (w' := w4) (fun k_ hk_ _ => hK k_ hk_.2))
 have HRprl := Am (HY5.out.keptS (w' := w4) (fun k_ hk_ _ => hK k_ hk_.2))
 have HRprr := Am (HY6.out.keptS (w' := w4) (fun k_ hk_ _ => hK k_ hk_.2))
 have HRpa := Am (HY7.out.keptS (w' := w4) (fun k_ hk_ _ => hK k_ hk_.2))
 have HRpb := Am (HY8.out.keptS (w' := w4) (fun k_ hk_ _ => hK k_ hk_.2))
 have HRp := Am (HRX.out.below hB)
 have HV := Am hV
 have HB := Am hB
 clear HY1 HY2 HY3 HY4 HY5 HY6 HY7 HY8 hK
 have hk0 : w4.cell? ⟨w.heap.size, 0, none⟩ = some (.int .i64 kind) := (hB.cell (p := ⟨w.heap.size, 0, none⟩) (Nat.lt_trans hg0 hg2)).trans HB0.out
 have HK0 := Am hk0
 have hv0 : w4.cell? ⟨g, 0, none⟩ = some (.bool mir) := (cell_of hV 0).trans rfl
 have hv1 : w4.cell? ⟨g, 1, none⟩ = some (.pointer (some ⟨wg.heap.size + 2 + 2 * c, 0, none⟩)) := (cell_of hV 1).trans rfl
 have hv2 : w4.cell? ⟨g, 2, none⟩ = some (.pointer pl) := (cell_of hV 2).trans rfl
 have hv3 : w4.cell? ⟨g, 3, none⟩ = some (.pointer pr) := (cell_of hV 3).trans rfl
 have hv4 : w4.cell? ⟨g, 4, none⟩ = some (.pointer pll) := (cell_of hV 4).trans rfl
 have hv5 : w4.cell? ⟨g, 5, none⟩ = some (.pointer plr) := (cell_of hV 5).trans rfl
 have hv6 : w4.cell? ⟨g, 6, none⟩ = some (.pointer prl) := (cell_of hV 6).trans rfl
 have hv7 : w4.cell? ⟨g, 7, none⟩ = some (.pointer prr) := (cell_of hV 7).trans rfl
 have hv8 : w4.cell? ⟨g, 8, none⟩ = some (.pointer pa) := (cell_of hV 8).trans rfl
 have hv9 : w4.cell? ⟨g, 9, none⟩ = some (.pointer pb) := (cell_of hV 9).trans rfl
 have hv10 : w4.cell? ⟨g, 10, none⟩ = some (.bool rt) := (cell_of hV 10).trans rfl
 clear hV hB HPC HB0 HB1
 go_wp2_with (fail)
 refine (can_any mir rt (some ⟨wg.heap.size + 2 + 2 * c, 0, none⟩) pl pr pll plr prl prr pa pb X _ HRp HRpl HRpr HRpll HRplr HRprl HRprr HRpa HRpb kind HKD.out).mono ?_
 rw [HCAN.out]
 rintro e w5 ⟨rfl, h5⟩
 have HB5 := Am (HB.out.trans (h5.mono HB.out.size))
 have H5 := Am h5
 have HV5 := Am ((h5.block _ (Array.getElem?_eq_some_iff.1 HV.out).1).trans HV.out)
 have hk5 := (h5.cell (blt _ _ HK0.out)).trans HK0.out
 clear h5 hv0 hv1 hv2 hv3 hv4 hv5 hv6 hv7 hv8 hv9 hv10 hk0 HV
 have hw0 : w5.cell? ⟨g, 0, none⟩ = some (.bool mir) := (cell_of HV5.out 0).trans rfl
 have hw1 : w5.cell? ⟨g, 1, none⟩ = some (.pointer (some ⟨wg.heap.size + 2 + 2 * c, 0, none⟩)) := (cell_of HV5.out 1).trans rfl
 have hw2 : w5.cell? ⟨g, 2, none⟩ = some (.pointer pl) := (cell_of HV5.out 2).trans rfl
 have hw3 : w5.cell? ⟨g, 3, none⟩ = some (.pointer pr) := (cell_of HV5.out 3).trans rfl
 have hw4 : w5.cell? ⟨g, 4, none⟩ = some (.pointer pll) := (cell_of HV5.out 4).trans rfl
 have hw5 : w5.cell? ⟨g, 5, none⟩ = some (.pointer plr) := (cell_of HV5.out 5).trans rfl
 have hw6 : w5.cell? ⟨g, 6, none⟩ = some (.pointer prl) := (cell_of HV5.out 6).trans rfl
 have hw7 : w5.cell? ⟨g, 7, none⟩ = some (.pointer prr) := (cell_of HV5.out 7).trans rfl
 have hw8 : w5.cell? ⟨g, 8, none⟩ = some (.pointer pa) := (cell_of HV5.out 8).trans rfl
 have hw9 : w5.cell? ⟨g, 9, none⟩ = some (.pointer pb) := (cell_of HV5.out 9).trans rfl
 have hw10 : w5.cell? ⟨g, 10, none⟩ = some (.bool rt) := (cell_of HV5.out 10).trans rfl
 go_wp2_with (fail)
 refine (do_any (S := (fun k_ => (fun k_ => SetC wg.heap.size l0 c k_ ∧ k_ < w2.heap.size) k_ ∨ w5.heap.size ≤ k_)) mir rt (some ⟨wg.heap.size + 2 + 2 * c, 0, none⟩) pl pr pll plr prl prr pa pb X _ (fun _ hk_ => .inr hk_) ⟨(HRp.out.below H5.out).mono (fun _ hk_ => .inl hk_)⟩ ⟨(HRpl.out.below H5.out).mono (fun _ hk_ => .inl hk_)⟩ ⟨(HRpr.out.below H5.out).mono (fun _ hk_ => .inl hk_)⟩ ⟨(HRpll.out.below H5.out).mono (fun _ hk_ => .inl hk_)⟩ ⟨(HRplr.out.below H5.out).mono (fun _ hk_ => .inl hk_)⟩ ⟨(HRprl.out.below H5.out).mono (fun _ hk_ => .inl hk_)⟩ ⟨(HRprr.out.below H5.out).mono (fun _ hk_ => .inl hk_)⟩ ⟨(HRpa.out.below H5.out).mono (fun _ hk_ => .inl hk_)⟩ ⟨(HRpb.out.below H5.out).mono (fun _ hk_ => .inl hk_)⟩ kind HKD.out HXN.out HCAN.out).mono ?_
 rintro e w6 ⟨q, W6, rfl, h6a, h6b, h6c⟩
 have HB6 := Am ((HB5.out.trans (h6a.mono HB5.out.size)).trans (h6b.mono (Nat.le_trans HB5.out.size h6a.size)))
 have hge6 : w5.heap.size ≤ W6.heap.size := h6a.size
 have HTOP := Am h6c
 have HTB := Am h6b
 clear h6a h6b h6c hw0 hw1 hw2 hw3 hw4 hw5 hw6 hw7 hw8 hw9 hw10
 have hrf := HRF.out
 subst hrf
 obtain ⟨b6, n6, q6, L6, R6, vl6, vr6, hq6, hdo6, hge6b, hcl6, _, _, _⟩ := HTOP.out
 injection hq6 with hq6
 subst hq6
 have hcu6 : w6.cell? ⟨b6, 2, none⟩ = some (.int .i64 n6.f2) := (cell_of hcl6 2).trans rfl
 have hwt : wt (doT mir X kind) = n6.f2 := by rw [hdo6]; rfl
 have HREP := Am (HTOP.out.rep HTB.out)
 rw [hwt] at hbig
 clear hdo6 hcl6 hwt
 have HB7 := HB6
 have dbig : decide (1000000 < n6.f2) = false := decide_eq_false (by omega)
 clear hbig
 go_wp2
 have hf2 := forest2_start (forest_kept HFO.out HB7.out) c (some ⟨b6, 0, none⟩)
 have HF2 := Am hf2
 clear hf2
 have hfin := do_ok_fin w T1
 have HFIN := Am hfin
 clear hfin
 generalize w6 = w7 at HB7 HF2 HREP ⊢
 go_loopg [59] l0.length (fun gk vi wr => ∃ i : Nat, vi = .int .i64 (i : Int) ∧ i ≤ l0.length ∧ Aside0 (gk + i = l0.length) ∧ Aside0 (Forest2 wg wr l0 c (some ⟨b6, 0, none⟩) i) ∧ Aside0 (Rep (fun k_ => (fun k_ => SetC wg.heap.size l0 c k_ ∧ k_ < w2.heap.size) k_ ∨ w5.heap.size ≤ k_) wr (.pointer (some ⟨b6, 0, none⟩)) (doT mir X kind)))
 case atStart => exact ⟨0, rfl, Nat.zero_le _, ⟨by omega⟩, HF2, HREP⟩
 case round =>
  clear HF2 HREP
  obtain ⟨i, rfl, hil, HK, HF2, HREP⟩ := hrel
  have hpc : wr.cell? ⟨wg.heap.size, c, none⟩ = some (.pointer (some ⟨wg.heap.size + 2 + 2 * c, 0, none⟩)) := rowIs_cell HF2.out.ptrs c hcl
  by_cases hlt : i < l0.length
  ·have dlt : decide (i < l0.length) = true := decide_eq_true hlt
   have hpi : wr.cell? ⟨wg.heap.size, i, none⟩ = some (.pointer (some ⟨wg.heap.size + 2 + 2 * i, 0, none⟩)) := rowIs_cell HF2.out.ptrs i hlt
   have hni := HF2.out.nodes i hlt
   simp only [Nat.lt_irrefl, false_and, if_false] at hni
   have hf7 := frz_of hni 7
   have hf8 := frz_of hni 8
   have hc7 : wr.cell? ⟨wg.heap.size + 2 + 2 * i, 7, none⟩ = some (.pointer (lpV wg.heap.size l0 i)) := (cell_of hni 7).trans rfl
   have hc8 : wr.cell? ⟨wg.heap.size + 2 + 2 * i, 8, none⟩ = some (.pointer (rpV wg.heap.size l0 i)) := (cell_of hni 8).trans rfl
   clear hni
   by_cases h4 : 0 ≤ (l0.getD i z34).f4
   ·rw [lpV, if_pos h4, nb] at hc7
    rw [rpV, if_pos h4, nb] at hc8
    have hk := HT.out.kids i hlt h4
    have hnc := HF2.out.nodes c hcl
    have hnl := HF2.out.nodes (l0.getD i z34).f4.toNat (by omega)
    have hnr := HF2.out.nodes (l0.getD i z34).f5.toNat (by omega)
    have hes := eqp_same wr ⟨wg.heap.size + 2 + 2 * c, 0, none⟩
    by_cases el : (l0.getD i z34).f4.toNat = c
    ·have er : (l0.getD i z34).f5.toNat ≠ c := fun e_ => hk.2.2.2 (by omega)
     have hst := forest2_left HF2.out h4 el er
     have hrp := HREP.out.keptS (w' := wr.setCell ⟨wg.heap.size + 2 + 2 * i, 7, none⟩ (.pointer (some ⟨b6, 0, none⟩))) (fun k_ hk_ _ => Below.heap_setCell _ _ _ _ (by show k_ ≠ wg.heap.size + 2 + 2 * i; rcases hk_ with ⟨⟨j_, hj1, _, hj3⟩, _⟩ | hk_; rintro rfl; exact hj3 (by rw [show j_ = i by omega]; exact ⟨h4, .inl el⟩); have hz_ := (Array.getElem?_eq_some_iff.1 (HFO.out.nodes i hlt)).1; have hz2 := HB5.out.size; omega))
     have HST := Am hst
     have HRP := Am hrp
     rw [el] at hc7
     clear hst hrp hk er el h4 hc8 hnc hnl hnr
     go_wp2
     go_roundg (gk - 1)
     case measure => have := HK.out; omega
     case rel => exact ⟨i + 1, by go_num, by omega, ⟨by have := HK.out; omega⟩, HST, HRP⟩
    ·have hel := eqp_other wr (a := ⟨wg.heap.size + 2 + 2 * c, 0, none⟩) (b := ⟨wg.heap.size + 2 + 2 * (l0.getD i z34).f4.toNat, 0, none⟩) (fun e_ => by injection e_ with e_; omega) hnc hnl
     by_cases er : (l0.getD i z34).f5.toNat = c
     ·have hst := forest2_right HF2.out h4 el er
      have hrp := HREP.out.keptS (w' := wr.setCell ⟨wg.heap.size + 2 + 2 * i, 8, none⟩ (.pointer (some ⟨b6, 0, none⟩))) (fun k_ hk_ _ => Below.heap_setCell _ _ _ _ (by show k_ ≠ wg.heap.size + 2 + 2 * i; rcases hk_ with ⟨⟨j_, hj1, _, hj3⟩, _⟩ | hk_; rintro rfl; exact hj3 (by rw [show j_ = i by omega]; exact ⟨h4, .inr er⟩); have hz_ := (Array.getElem?_eq_some_iff.1 (HFO.out.nodes i hlt)).1; have hz2 := HB5.out.size; omega))
      have HST := Am hst
      have HRP := Am hrp
      rw [er] at hc8
      clear hst hrp hk h4 hnc hnl hnr er el
      generalize (l0.getD i z34).f4.toNat = cl at hc7 hel
      go_wp2
      go_roundg (gk - 1)
      case measure => have := HK.out; omega
      case rel => exact ⟨i + 1, by go_num, by omega, ⟨by have := HK.out; omega⟩, HST, HRP⟩
     ·have her := eqp_other wr (a := ⟨wg.heap.size + 2 + 2 * c, 0, none⟩) (b := ⟨wg.heap.size + 2 + 2 * (l0.getD i z34).f5.toNat, 0, none⟩) (fun e_ => by injection e_ with e_; omega) hnc hnr
      have hst := forest2_skip HF2.out (fun hc_ => by rcases hc_.2 with e_ | e_; exact el e_; exact er e_)
      have HST := Am hst
      clear hst hk h4 el er hnc hnl hnr
      generalize (l0.getD i z34).f4.toNat = cl at hc7 hel
      generalize (l0.getD i z34).f5.toNat = cr at hc8 her
      go_wp2
      go_roundg (gk - 1)
      case measure => have := HK.out; omega
      case rel => exact ⟨i + 1, by go_num, by omega, ⟨by have := HK.out; omega⟩, HST, HREP⟩
   ·rw [lpV, if_neg h4] at hc7
    rw [rpV, if_neg h4] at hc8
    have hst := forest2_skip HF2.out (fun hc_ => h4 hc_.1)
    have HST := Am hst
    clear hst h4
    go_wp2
    go_roundg (gk - 1)
    case measure => have := HK.out; omega
    case rel => exact ⟨i + 1, by go_num, by omega, ⟨by have := HK.out; omega⟩, HST, HREP⟩
  ·obtain rfl : i = l0.length := by omega
   have dlt : decide (l0.length < l0.length) = false := decide_eq_false (Nat.lt_irrefl _)
   have hp0 : wr.cell? ⟨wg.heap.size, 0, none⟩ = some (.pointer (some ⟨wg.heap.size + 2 + 2 * 0, 0, none⟩)) := rowIs_cell HF2.out.ptrs 0 (by omega)
   have h0l : 0 < l0.length := by omega
   clear hlt hpc
   go_wp2_with (fail)
   refine (flat_any _ T1 _ (rep_repl HF2.out HREP.out K1 0 T1 HT1.out) HFULL.out HSZ.out).mono ?_
   rintro e w8 ⟨v8, rfl, h8a, h8b⟩
   have HFP := Am (HFIN.out wg wr v8 w8 HBW.out HF2.out.bel ⟨v8, rfl, h8a, h8b⟩)
   obtain ⟨A8, c8, rfl⟩ := Kd.R_slice h8a
   clear h8a h8b
   go_wp2
   go_ret2
   exact HFP.out
end Go.Proofs.Ytgleaefhflamnaa.T
namespace Go.Proofs.Ytgleaefhflamnaa.T
open Go.RowKit Go.Proofs.YtgleaefhflamnaaW.PrintWords Go.Proofs.YtgleaefhflamnaaW.PrintLast Go.Proofs.YtgleaefhflamnaaW.PrintMore
set_option maxHeartbeats 8000000 in
set_option maxRecDepth 100000 in
theorem do_ok1 (k : Nat) (A0 : Option Addr) (c0 : Nat) (l0 : List S34) (c : Nat) (kind : Int) (mir : Bool) (r1 : Int) (r2 : List Bool) (w : World) (hr0 : Kd.C k34 w A0 l0.length l0) (hc0 : l0.length ≤ c0)
  (h : steps_keys.f k l0 = some (r1, r2, 0)) (hm : steps_Move_is.f kind mir = some true) (hkd : 1 ≤ kind ∧ kind ≤ 12) (hp1 : (c : Int) < l0.length) (hp2 : (c : Int) < r2.length) (hbel : rdOf false r2 c = true) (ht : OkT l0) (K : Nat) (X : Tr) (hX : mkT l0 K c = some X) (rt : Bool) (hrt : ((c : Int) == r1) = rt) (hrf : rt = true) (hcan : canT mir rt X kind = true) (K1 : Nat) (T1 : Tr) (hT1 : mkR l0 c (setW (doT mir X kind) 1) K1 0 = some T1) (hfull : Full T1) (hsz : sizeT T1 ≤ 1000000) :
  Calls Try.prog 30 #[.slice A0 l0.length c0, .int .i64 c, .agg #[.int .i64 kind, .bool mir]] w fun e w' => DoOK w (flatT T1 0) e w' := by
 have HCAN := Am hcan
 clear hcan
 have HT1 := Am hT1
 have HFULL := Am hfull
 have HSZ := Am hsz
 clear hT1 hfull hsz
 have hxn : X ≠ .nil := by rintro rfl; exact mkT_nil hX
 have HXN := Am hxn
 clear hxn
 have HRF := Am hrf
 clear hrf
 have hu62 := Try.underlying62
 have hu111 := Try.underlying111
 have hu116 := Try.underlying116
 have hu34 := Try.underlying34
 have HR := Am hr0
 have HC := Am hc0
 have H := Am h
 have HM := Am hm
 have HT := Am ht
 have HX := Am hX
 have HKD := Am hkd
 have HBEL := Am hbel
 have hlen : l0.length ≤ 100000 := ht.len
 have hcl : c < l0.length := by omega
 clear hr0 hc0 h hm ht hX hkd hbel
 go_enter Try.func30, Try.ntmps30
 go_wp2_with (fail)
 refine (at_okt k A0 c0 l0 c kind mir r1 r2 _ (Kd.C_below HR.out ((Below.refl _ _).alloc (Nat.le_refl _) _)) HC.out H.out (fun _ => HM.out) (by omega) hp1 hp2 HBEL.out (by omega) (fun i hi h4 => ⟨(HT.out.kids i hi h4).1, (HT.out.kids i hi h4).2.1, (HT.out.kids i hi h4).2.2.1⟩)).mono ?_
 rintro e w2 ⟨wg, rfl, hbg, hfo⟩
 have hbw : Below w.heap.size w wg := ((Below.refl _ _).alloc (Nat.le_refl _) _).trans (hbg.mono (by simp))
 have hg0 : w.heap.size < wg.heap.size := by have h_ := hbg.size; simp at h_; omega
 have hbx0 : wg.cell? ⟨w.heap.size, 0, none⟩ = some (.int .i64 kind) := (hbg.cell (p := ⟨w.heap.size, 0, none⟩) (by simp)).trans (World.cell?_alloc_at _ _ _ _ rfl)
 have hbx1 : wg.cell? ⟨w.heap.size, 1, none⟩ = some (.bool mir) := (hbg.cell (p := ⟨w.heap.size, 1, none⟩) (by simp)).trans (World.cell?_alloc_at _ _ _ _ rfl)
 have HBW := Am hbw
 have HFO := Am hfo
 have HX0 := Am hbx0
 have HX1 := Am hbx1
 have HRX : Aside0 (Rep (fun k_ => SetC wg.heap.size l0 c k_ ∧ k_ < w2.heap.size) w2 (.pointer (some ⟨wg.heap.size + 2 + 2 * c, 0, none⟩)) X) := ⟨(forest_rep hfo HX.out K c X HX.out (Nat.le_refl _)).bound⟩
 have hg2 : wg.heap.size < w2.heap.size := rowIs_lt hfo.ptrs
 have hpc : w2.drew.cell? ⟨wg.heap.size, c, none⟩ = some (.pointer (some ⟨wg.heap.size + 2 + 2 * c, 0, none⟩)) := (rowIs_cell hfo.ptrs c hcl).trans (by rw [if_pos hcl]; rfl)
 have hb0 : w2.drew.cell? ⟨w.heap.size, 0, none⟩ = some (.int .i64 kind) := (hfo.bel.cell (p := ⟨w.heap.size, 0, none⟩) hg0).trans hbx0
 have hb1 : w2.drew.cell? ⟨w.heap.size, 1, none⟩ = some (.bool mir) := (hfo.bel.cell (p := ⟨w.heap.size, 1, none⟩) hg0).trans hbx1
 clear hbg hbw hfo hbx0 hbx1
 go_wp2
 have HPC := Am hpc
 have HB0 := Am hb0
 have HB1 := Am hb1
 refine start_ (n := 11) (S := fun w' => w'.cell? ⟨wg.heap.size, c, none⟩ = some (.pointer (some ⟨wg.heap.size + 2 + 2 * c, 0, none⟩)) ∧ w'.cell? ⟨w.heap.size, 0, none⟩ = some (.int .i64 kind) ∧ w'.cell? ⟨w.heap.size, 1, none⟩ = some (.bool mir)) (ds := [10]) #[false, false, false, false, false, false, false, false, false, false, false] (by kernel_rfl) rfl rfl ⟨hpc, hb0, hb1⟩ (fun hHeld => ?_)
 refine pu 0 26 ?_
 refine pu 1 27 ?_
 refine pu 2 28 ?_
 refine pu 5 31 ?_
 refine pu 6 32 ?_
 refine pu 7 33 ?_
 refine ta 3 29 hHeld ?_
 refine ta 4 30 hHeld ?_
 refine join_ (σ := Nat × Option Addr × Option Addr × Option Addr × Option Addr × Option Addr × Option Addr × Option Addr × Option Addr) 1 #[true, true, true, true, true, true, true, true, true, true, false] (fun s => [(34, .agg #[.bool mir, .pointer (some ⟨wg.heap.size + 2 + 2 * c, 0, none⟩), .pointer s.2.1, .pointer s.2.2.1, .pointer s.2.2.2.1, .pointer s.2.2.2.2.1, .pointer s.2.2.2.2.2.1, .pointer s.2.2.2.2.2.2.1, .pointer s.2.2.2.2.2.2.2.1, .pointer s.2.2.2.2.2.2.2.2, .bool rt]), (11, .pointer (some ⟨s.1, 0, none⟩))]) (fun s w' => Below w2.heap.size w2 w' ∧ w2.heap.size ≤ s.1 ∧ w'.heap[s.1]? = some (.cells #[.bool false, .pointer none, .pointer none, .pointer none, .pointer none, .pointer none, .pointer none, .pointer none, .pointer none, .pointer none, .bool false] 111 (0, 0)) ∧ Rep (fun k_ => SetC wg.heap.size l0 c k_ ∧ k_ < w2.heap.size) w' (.pointer s.2.1) (lT mir X) ∧ Rep (fun k_ => SetC wg.heap.size l0 c k_ ∧ k_ < w2.heap.size) w' (.pointer s.2.2.1) (rT mir X) ∧ Rep (fun k_ => SetC wg.heap.size l0 c k_ ∧ k_ < w2.heap.size) w' (.pointer s.2.2.2.1) (lT mir (lT mir X)) ∧ Rep (fun k_ => SetC wg.heap.size l0 c k_ ∧ k_ < w2.heap.size) w' (.pointer s.2.2.2.2.1) (rT mir (lT mir X)) ∧ Rep (fun k_ => SetC wg.heap.size l0 c k_ ∧ k_ < w2.heap.size) w' (.pointer s.2.2.2.2.2.1) (lT mir (rT mir X)) ∧ Rep (fun k_ => SetC wg.heap.size l0 c k_ ∧ k_ < w2.heap.size) w' (.pointer s.2.2.2.2.2.2.1) (rT mir (rT mir X)) ∧ Rep (fun k_ => SetC wg.heap.size l0 c k_ ∧ k_ < w2.heap.size) w' (.pointer s.2.2.2.2.2.2.2.1) (lT mir (lT mir (rT mir X))) ∧ Rep (fun k_ => SetC wg.heap.size l0 c k_ ∧ k_ < w2.heap.size) w' (.pointer s.2.2.2.2.2.2.2.2) (rT mir (lT mir (rT mir X)))) ?_ ?_
 rotate_left
 ·intro hCont
  refine two_ (i := 8) (j := 9) (Ni := some 34) (Nj := some 11) #[true, true, true, true, true, true, true, true, true, false, false] #[true, true, true, true, true, true, true, true, false, true, false] rfl rfl rfl rfl (by kernel_rfl) (by decide) (by decide) (fun K hK => ?_) (fun K hK => ?_)
  ·skip
   refine goes_ Try.func63 (by kernel_rfl) rfl #[.pointer (some ⟨wg.heap.size + 2 + 2 * c, 0, none⟩), .agg #[.int .i64 kind, .bool mir], .bool rt] (by rfl) rfl rfl (by (try simp only [List.map_toArray, List.map_cons, List.map_nil]); first | done | rfl) ?_
   with_reducible refine (look_any (S := (fun k_ => SetC wg.heap.size l0 c k_ ∧ k_ < w2.heap.size)) _ X _ _ _ _ (by first | exact HRX.out.below ((Below.refl _ _).drew) | exact HRX.out.below HBA.out)).mono ?_
   rintro e wL ⟨pl, pr, pll, plr, prl, prr, pa, pb, rfl, hLb, r1, r2, r3, r4, r5, r6, r7, r8⟩
   refine ⟨_, rfl, ?_⟩
   refine hK.out _ _ ⟨(hLb.cell (blt _ _ hHeld.1)).trans hHeld.1, (hLb.cell (blt _ _ hHeld.2.1)).trans hHeld.2.1, (hLb.cell (blt _ _ hHeld.2.2)).trans hHeld.2.2⟩ (fun hHeld => ?_)
   clear hK K
   refine norm_ (a' := ?_) ?_ ?_
   rotate_left
   ·show Act.put _ (some 34) _ = _
    simp only [Act.put, sI, sZ, sS, i64_w, i32_w]
    rfl
   refine one_ (i := 9) (N := some 11) #[true, true, true, true, true, true, true, true, true, true, false] rfl rfl (by kernel_rfl) (by decide) (fun K hK => ?_)
   refine box_step (by rfl) (N := 11) rfl (cs := #[.bool false, .pointer none, .pointer none, .pointer none, .pointer none, .pointer none, .pointer none, .pointer none, .pointer none, .pointer none, .bool false]) (t := 111) ?hr ?_
   case hr => first | (go_simp; done) | (go_simp; rfl)
   intro g hg wA hbox hbA
   have hgs : w2.heap.size ≤ g := by rw [hg]; exact hLb.size
   refine hK.out _ _ ⟨(hbA.cell (blt _ _ hHeld.1)).trans hHeld.1, (hbA.cell (blt _ _ hHeld.2.1)).trans hHeld.2.1, (hbA.cell (blt _ _ hHeld.2.2)).trans hHeld.2.2⟩ (fun hHeld => ?_)
   clear hK K
   refine norm_ (a' := ?_) ?_ ?_
   rotate_left
   ·show Act.put _ (some 11) _ = _
    simp only [Act.put, sI, sZ, sS, i64_w, i32_w]
    rfl
   exact norm_ (by simp only [putAll, Act.put, sI, sZ, sS]) (hCont (g, pl, pr, pll, plr, prl, prr, pa, pb) _ ⟨((Below.refl w2.heap.size w2).drew.trans (hLb.mono (Nat.le_refl _))).trans (hbA.mono hLb.size), hgs, hbox, (r1.below hLb).below hbA, (r2.below hLb).below hbA, (r3.below hLb).below hbA, (r4.below hLb).below hbA, (r5.below hLb).below hbA, (r6.below hLb).below hbA, (r7.below hLb).below hbA, (r8.below hLb).below hbA⟩)
  ·skip
   refine box_step (by rfl) (N := 11) rfl (cs := #[.bool false, .pointer none, .pointer none, .pointer none, .pointer none, .pointer none, .pointer none, .pointer none, .pointer none, .pointer none, .bool false]) (t := 111) ?hr ?_
   case hr => first | (go_simp; done) | (go_simp; rfl)
   intro g hg wA hbox hbA
   have HBA := Am (((Below.refl w2.heap.size w2).drew).trans (hbA.mono (Nat.le_refl _)))
   have hgs : w2.heap.size ≤ g := by rw [hg]; exact Nat.le_refl _
   refine hK.out _ _ ⟨(hbA.cell (blt _ _ hHeld.1)).trans hHeld.1, (hbA.cell (blt _ _ hHeld.2.1)).trans hHeld.2.1, (hbA.cell (blt _ _ hHeld.2.2)).trans hHeld.2.2⟩ (fun hHeld => ?_)
   clear hK K
   refine norm_ (a' := ?_) ?_ ?_
   rotate_left
   ·show Act.put _ (some 11) _ = _
    simp only [Act.put, sI, sZ, sS, i64_w, i32_w]
    rfl
   refine one_ (i := 8) (N := some 34) #[true, true, true, true, true, true, true, true, true, true, false] rfl rfl (by kernel_rfl) (by decide) (fun K hK => ?_)
   refine goes_ Try.func63 (by kernel_rfl) rfl #[.pointer (some ⟨wg.heap.size + 2 + 2 * c, 0, none⟩), .agg #[.int .i64 kind, .bool mir], .bool rt] (by rfl) rfl rfl (by (try simp only [List.map_toArray, List.map_cons, List.map_nil]); first | done | rfl) ?_
   with_reducible refine (look_any (S := (fun k_ => SetC wg.heap.size l0 c k_ ∧ k_ < w2.heap.size)) _ X _ _ _ _ (by first | exact HRX.out.below ((Below.refl _ _).drew) | exact HRX.out.below HBA.out)).mono ?_
   rintro e wL ⟨pl, pr, pll, plr, prl, prr, pa, pb, rfl, hLb, r1, r2, r3, r4, r5, r6, r7, r8⟩
   refine ⟨_, rfl, ?_⟩
   refine hK.out _ _ ⟨(hLb.cell (blt _ _ hHeld.1)).trans hHeld.1, (hLb.cell (blt _ _ hHeld.2.1)).trans hHeld.2.1, (hLb.cell (blt _ _ hHeld.2.2)).trans hHeld.2.2⟩ (fun hHeld => ?_)
   clear hK K
   refine norm_ (a' := ?_) ?_ ?_
   rotate_left
   ·show Act.put _ (some 34) _ = _
    simp only [Act.put, sI, sZ, sS, i64_w, i32_w]
    rfl
   exact norm_ (by simp only [putAll, Act.put, sI, sZ, sS]) (hCont (g, pl, pr, pll, plr, prl, prr, pa, pb) _ ⟨HBA.out.trans (hLb.mono hbA.size), hgs, (hLb.block _ (Array.getElem?_eq_some_iff.1 hbox).1).trans hbox, r1.below hLb, r2.below hLb, r3.below hLb, r4.below hLb, r5.below hLb, r6.below hLb, r7.below hLb, r8.below hLb⟩)
 rintro ⟨g, pl, pr, pll, plr, prl, prr, pa, pb⟩ w3 ⟨hF1, hF2, hF3, y1, y2, y3, y4, y5, y6, y7, y8⟩
 replace hF2 : w2.heap.size ≤ g := hF2
 replace hF3 : w3.heap[g]? = some (.cells #[.bool false, .pointer none, .pointer none, .pointer none, .pointer none, .pointer none, .pointer none, .pointer none, .pointer none, .pointer none, .bool false] 111 (0, 0)) := hF3
 have HY1 : Aside0 (Rep (fun k_ => SetC wg.heap.size l0 c k_ ∧ k_ < w2.heap.size) w3 (.pointer pl) (lT mir X)) := ⟨y1⟩
 have HY2 : Aside0 (Rep (fun k_ => SetC wg.heap.size l0 c k_ ∧ k_ < w2.heap.size) w3 (.pointer pr) (rT mir X)) := ⟨y2⟩
 have HY3 : Aside0 (Rep (fun k_ => SetC wg.heap.size l0 c k_ ∧ k_ < w2.heap.size) w3 (.pointer pll) (lT mir (lT mir X))) := ⟨y3⟩
 have HY4 : Aside0 (Rep (fun k_ => SetC wg.heap.size l0 c k_ ∧ k_ < w2.heap.size) w3 (.pointer plr) (rT mir (lT mir X))) := ⟨y4⟩
 have HY5 : Aside0 (Rep (fun k_ => SetC wg.heap.size l0 c k_ ∧ k_ < w2.heap.size) w3 (.pointer prl) (lT mir (rT mir X))) := ⟨y5⟩
 have HY6 : Aside0 (Rep (fun k_ => SetC wg.heap.size l0 c k_ ∧ k_ < w2.heap.size) w3 (.pointer prr) (rT mir (rT mir X))) := ⟨y6⟩
 have HY7 : Aside0 (Rep (fun k_ => SetC wg.heap.size l0 c k_ ∧ k_ < w2.heap.size) w3 (.pointer pa) (lT mir (lT mir (rT mir X)))) := ⟨y7⟩
 have HY8 : Aside0 (Rep (fun k_ => SetC wg.heap.size l0 c k_ ∧ k_ < w2.heap.size) w3 (.pointer pb) (rT mir (lT mir (rT mir X)))) := ⟨y8⟩
 have hHeld : w3.cell? ⟨wg.heap.size, c, none⟩ = some (.pointer (some ⟨wg.heap.size + 2 + 2 * c, 0, none⟩)) ∧ w3.cell? ⟨w.heap.size, 0, none⟩ = some (.int .i64 kind) ∧ w3.cell? ⟨w.heap.size, 1, none⟩ = some (.bool mir) := ⟨(hF1.cell (p := ⟨wg.heap.size, c, none⟩) hg2).trans HPC.out, (hF1.cell (p := ⟨w.heap.size, 0, none⟩) (Nat.lt_trans hg0 hg2)).trans HB0.out, (hF1.cell (p := ⟨w.heap.size, 1, none⟩) (Nat.lt_trans hg0 hg2)).trans HB1.out⟩
 have hz0 : w3.cell? ⟨g, 0, none⟩ = some (.bool false) := (cell_of hF3 0).trans rfl
 have hz1 : w3.cell? ⟨g, 1, none⟩ = some (.pointer none) := (cell_of hF3 1).trans rfl
 have hz2 : w3.cell? ⟨g, 2, none⟩ = some (.pointer none) := (cell_of hF3 2).trans rfl
 have hz3 : w3.cell? ⟨g, 3, none⟩ = some (.pointer none) := (cell_of hF3 3).trans rfl
 have hz4 : w3.cell? ⟨g, 4, none⟩ = some (.pointer none) := (cell_of hF3 4).trans rfl
 have hz5 : w3.cell? ⟨g, 5, none⟩ = some (.pointer none) := (cell_of hF3 5).trans rfl
 have hz6 : w3.cell? ⟨g, 6, none⟩ = some (.pointer none) := (cell_of hF3 6).trans rfl
 have hz7 : w3.cell? ⟨g, 7, none⟩ = some (.pointer none) := (cell_of hF3 7).trans rfl
 have hz8 : w3.cell? ⟨g, 8, none⟩ = some (.pointer none) := (cell_of hF3 8).trans rfl
 have hz9 : w3.cell? ⟨g, 9, none⟩ = some (.pointer none) := (cell_of hF3 9).trans rfl
 have hz10 : w3.cell? ⟨g, 10, none⟩ = some (.bool false) := (cell_of hF3 10).trans rfl
 have hfz0 := frz_of hF3 0
 have hfz1 := frz_of hF3 1
 have hfz2 := frz_of hF3 2
 have hfz3 := frz_of hF3 3
 have hfz4 := frz_of hF3 4
 have hfz5 := frz_of hF3 5
 have hfz6 := frz_of hF3 6
 have hfz7 := frz_of hF3 7
 have hfz8 := frz_of hF3 8
 have hfz9 := frz_of hF3 9
 have hfz10 := frz_of hF3 10
 have HF1 := Am hF1
 have HF3 := Am hF3
 clear hF1 hF3 y1 y2 y3 y4 y5 y6 y7 y8
 refine norm_ (a' := ?_) ?_ ?_
 rotate_left
 ·simp only [putAll, Act.put, sI, sZ, sS]
  rfl
 refine last_ (i := 10) (N := none) #[true, true, true, true, true, true, true, true, true, true, true] rfl rfl (by kernel_rfl) (by decide) (fun K hK => ?_)
 refine skip_ (w1 := ?_) (by rfl) rfl ?_ ?_
 rotate_left
 ·go_simp
  rfl
 refine hK.out _ _ ?_
 clear hK K
 refine done_ (by kernel_rfl) ?_
 try clear hHeld
 have hV := put11 HF3.out (.bool mir) (.pointer (some ⟨wg.heap.size + 2 + 2 * c, 0, none⟩)) (.pointer pl) (.pointer pr) (.pointer pll) (.pointer plr) (.pointer prl) (.pointer prr) (.pointer pa) (.pointer pb) (.bool rt)
 have hB := below11 HF1.out hF2 (.bool mir) (.pointer (some ⟨wg.heap.size + 2 + 2 * c, 0, none⟩)) (.pointer pl) (.pointer pr) (.pointer pll) (.pointer plr) (.pointer prl) (.pointer prr) (.pointer pa) (.pointer pb) (.bool rt)
 have hK : ∀ k_, k_ < w2.heap.size → (((((((((((w3.setCell ⟨g, 0, none⟩ (.bool mir)).setCell ⟨g, 1, none⟩ (.pointer (some ⟨wg.heap.size + 2 + 2 * c, 0, none⟩))).setCell ⟨g, 2, none⟩ (.pointer pl)).setCell ⟨g, 3, none⟩ (.pointer pr)).setCell ⟨g, 4, none⟩ (.pointer pll)).setCell ⟨g, 5, none⟩ (.pointer plr)).setCell ⟨g, 6, none⟩ (.pointer prl)).setCell ⟨g, 7, none⟩ (.pointer prr)).setCell ⟨g, 8, none⟩ (.pointer pa)).setCell ⟨g, 9, none⟩ (.pointer pb)).setCell ⟨g, 10, none⟩ (.bool rt)).heap[k_]? = w3.heap[k_]? := fun k_ hk_ => setc11 (by omega) (.bool mir) (.pointer (some ⟨wg.heap.size + 2 + 2 * c, 0, none⟩)) (.pointer pl) (.pointer pr) (.pointer pll) (.pointer plr) (.pointer prl) (.pointer prr) (.pointer pa) (.pointer pb) (.bool rt)
 clear hz0 hfz0 hz1 hfz1 hz2 hfz2 hz3 hfz3 hz4 hfz4 hz5 hfz5 hz6 hfz6 hz7 hfz7 hz8 hfz8 hz9 hfz9 hz10 hfz10 HF3 HF1
 generalize (((((((((((w3.setCell ⟨g, 0, none⟩ (.bool mir)).setCell ⟨g, 1, none⟩ (.pointer (some ⟨wg.heap.size + 2 + 2 * c, 0, none⟩))).setCell ⟨g, 2, none⟩ (.pointer pl)).setCell ⟨g, 3, none⟩ (.pointer pr)).setCell ⟨g, 4, none⟩ (.pointer pll)).setCell ⟨g, 5, none⟩ (.pointer plr)).setCell ⟨g, 6, none⟩ (.pointer prl)).setCell ⟨g, 7, none⟩ (.pointer prr)).setCell ⟨g, 8, none⟩ (.pointer pa)).setCell ⟨g, 9, none⟩ (.pointer pb)).setCell ⟨g, 10, none⟩ (.bool rt)) = w4 at hV hB hK ⊢
 have HRpl := Am (HY1.out.keptS (w' := w4) (fun k_ hk_ _ => hK k_ hk_.2))
 have HRpr := Am (HY2.out.keptS (w' := w4) (fun k_ hk_ _ => hK k_ hk_.2))
 have HRpll := Am (HY3.out.keptS (w' := w4) (fun k_ hk_ _ => hK k_ hk_.2))
 have HRplr := Am (HY4.out.keptS (w' := w4) (fun k_ hk_ _ => hK k_ hk_.2))
 have HRprl := Am (HY5.out.keptS (w' := w4) (fun k_ hk_ _ => hK k_ hk_.2))
 have HRprr := Am (HY6.out.keptS (w' := w4) (fun k_ hk_ _ => hK k_ hk_.2))
 have HRpa := Am (HY7.out.keptS (w' := w4) (fun k_ hk_ _ => hK k_ hk_.2))
 have HRpb := Am (HY8.out.keptS (w' := w4) (fun k_ hk_ _ => hK k_ hk_.2))
 have HRp := Am (HRX.out.below hB)
 have HV := Am hV
 have HB := Am hB
 clear HY1 HY2 HY3 HY4 HY5 HY6 HY7 HY8 hK
 have hk0 : w4.cell? ⟨w.heap.size, 0, none⟩ = some (.int .i64 kind) := (hB.cell (p := ⟨w.heap.size, 0, none⟩) (Nat.lt_trans hg0 hg2)).trans HB0.out
 have HK0 := Am hk0
 have hv0 : w4.cell? ⟨g, 0, none⟩ = some (.bool mir) := (cell_of hV 0).trans rfl
 have hv1 : w4.cell? ⟨g, 1, none⟩ = some (.pointer (some ⟨wg.heap.size + 2 + 2 * c, 0, none⟩)) := (cell_of hV 1).trans rfl
 have hv2 : w4.cell? ⟨g, 2, none⟩ = some (.pointer pl) := (cell_of hV 2).trans rfl
 have hv3 : w4.cell? ⟨g, 3, none⟩ = some (.pointer pr) := (cell_of hV 3).trans rfl
 have hv4 : w4.cell? ⟨g, 4, none⟩ = some (.pointer pll) := (cell_of hV 4).trans rfl
 have hv5 : w4.cell? ⟨g, 5, none⟩ = some (.pointer plr) := (cell_of hV 5).trans rfl
 have hv6 : w4.cell? ⟨g, 6, none⟩ = some (.pointer prl) := (cell_of hV 6).trans rfl
 have hv7 : w4.cell? ⟨g, 7, none⟩ = some (.pointer prr) := (cell_of hV 7).trans rfl
 have hv8 : w4.cell? ⟨g, 8, none⟩ = some (.pointer pa) := (cell_of hV 8).trans rfl
 have hv9 : w4.cell? ⟨g, 9, none⟩ = some (.pointer pb) := (cell_of hV 9).trans rfl
 have hv10 : w4.cell? ⟨g, 10, none⟩ = some (.bool rt) := (cell_of hV 10).trans rfl
 clear hV hB HPC HB0 HB1
 go_wp2_with (fail)
 refine (can_any mir rt (some ⟨wg.heap.size + 2 + 2 * c, 0, none⟩) pl pr pll plr prl prr pa pb X _ HRp HRpl HRpr HRpll HRplr HRprl HRprr HRpa HRpb kind HKD.out).mono ?_
 rw [HCAN.out]
 rintro e w5 ⟨rfl, h5⟩
 have HB5 := Am (HB.out.trans (h5.mono HB.out.size))
 have H5 := Am h5
 have HV5 := Am ((h5.block _ (Array.getElem?_eq_some_iff.1 HV.out).1).trans HV.out)
 have hk5 := (h5.cell (blt _ _ HK0.out)).trans HK0.out
 clear h5 hv0 hv1 hv2 hv3 hv4 hv5 hv6 hv7 hv8 hv9 hv10 hk0 HV
 have hw0 : w5.cell? ⟨g, 0, none⟩ = some (.bool mir) := (cell_of HV5.out 0).trans rfl
 have hw1 : w5.cell? ⟨g, 1, none⟩ = some (.pointer (some ⟨wg.heap.size + 2 + 2 * c, 0, none⟩)) := (cell_of HV5.out 1).trans rfl
 have hw2 : w5.cell? ⟨g, 2, none⟩ = some (.pointer pl) := (cell_of HV5.out 2).trans rfl
 have hw3 : w5.cell? ⟨g, 3, none⟩ = some (.pointer pr) := (cell_of HV5.out 3).trans rfl
 have hw4 : w5.cell? ⟨g, 4, none⟩ = some (.pointer pll) := (cell_of HV5.out 4).trans rfl
 have hw5 : w5.cell? ⟨g, 5, none⟩ = some (.pointer plr) := (cell_of HV5.out 5).trans rfl
 have hw6 : w5.cell? ⟨g, 6, none⟩ = some (.pointer prl) := (cell_of HV5.out 6).trans rfl
 have hw7 : w5.cell? ⟨g, 7, none⟩ = some (.pointer prr) := (cell_of HV5.out 7).trans rfl
 have hw8 : w5.cell? ⟨g, 8, none⟩ = some (.pointer pa) := (cell_of HV5.out 8).trans rfl
 have hw9 : w5.cell? ⟨g, 9, none⟩ = some (.pointer pb) := (cell_of HV5.out 9).trans rfl
 have hw10 : w5.cell? ⟨g, 10, none⟩ = some (.bool rt) := (cell_of HV5.out 10).trans rfl
 go_wp2_with (fail)
 refine (do_any (S := (fun k_ => (fun k_ => SetC wg.heap.size l0 c k_ ∧ k_ < w2.heap.size) k_ ∨ w5.heap.size ≤ k_)) mir rt (some ⟨wg.heap.size + 2 + 2 * c, 0, none⟩) pl pr pll plr prl prr pa pb X _ (fun _ hk_ => .inr hk_) ⟨(HRp.out.below H5.out).mono (fun _ hk_ => .inl hk_)⟩ ⟨(HRpl.out.below H5.out).mono (fun _ hk_ => .inl hk_)⟩ ⟨(HRpr.out.below H5.out).mono (fun _ hk_ => .inl hk_)⟩ ⟨(HRpll.out.below H5.out).mono (fun _ hk_ => .inl hk_)⟩ ⟨(HRplr.out.below H5.out).mono (fun _ hk_ => .inl hk_)⟩ ⟨(HRprl.out.below H5.out).mono (fun _ hk_ => .inl hk_)⟩ ⟨(HRprr.out.below H5.out).mono (fun _ hk_ => .inl hk_)⟩ ⟨(HRpa.out.below H5.out).mono (fun _ hk_ => .inl hk_)⟩ ⟨(HRpb.out.below H5.out).mono (fun _ hk_ => .inl hk_)⟩ kind HKD.out HXN.out HCAN.out).mono ?_
 rintro e w6 ⟨q, W6, rfl, h6a, h6b, h6c⟩
 have HB6 := Am ((HB5.out.trans (h6a.mono HB5.out.size)).trans (h6b.mono (Nat.le_trans HB5.out.size h6a.size)))
 have hge6 : w5.heap.size ≤ W6.heap.size := h6a.size
 have HTOP := Am h6c
 have HTB := Am h6b
 clear h6a h6b h6c hw0 hw1 hw2 hw3 hw4 hw5 hw6 hw7 hw8 hw9 hw10
 have hrf := HRF.out
 subst hrf
 obtain ⟨b6, hq6, hb6, ⟨u6, hcu6⟩, hfu6, hrep6⟩ := top_set HTOP.out HTB.out 1
 injection hq6 with hq6
 subst hq6
 have HREP := Am hrep6
 clear hrep6
 have hge : w2.heap.size ≤ b6 := Nat.le_trans (Nat.le_trans HB5.out.size hge6) hb6
 have HB7 := Am (HB6.out.setCell (p := ⟨b6, 2, none⟩) hge (.int .i64 1))
 go_wp2
 have hf2 := forest2_start (forest_kept HFO.out HB7.out) c (some ⟨b6, 0, none⟩)
 have HF2 := Am hf2
 clear hf2
 have hfin := do_ok_fin w T1
 have HFIN := Am hfin
 clear hfin
 generalize (w6.setCell ⟨b6, 2, none⟩ (.int .i64 1)) = w7 at HB7 HF2 HREP ⊢
 go_loopg [59] l0.length (fun gk vi wr => ∃ i : Nat, vi = .int .i64 (i : Int) ∧ i ≤ l0.length ∧ Aside0 (gk + i = l0.length) ∧ Aside0 (Forest2 wg wr l0 c (some ⟨b6, 0, none⟩) i) ∧ Aside0 (Rep (fun k_ => (fun k_ => SetC wg.heap.size l0 c k_ ∧ k_ < w2.heap.size) k_ ∨ w5.heap.size ≤ k_) wr (.pointer (some ⟨b6, 0, none⟩)) (setW (doT mir X kind) 1)))
 case atStart => exact ⟨0, rfl, Nat.zero_le _, ⟨by omega⟩, HF2, HREP⟩
 case round =>
  clear HF2 HREP
  obtain ⟨i, rfl, hil, HK, HF2, HREP⟩ := hrel
  have hpc : wr.cell? ⟨wg.heap.size, c, none⟩ = some (.pointer (some ⟨wg.heap.size + 2 + 2 * c, 0, none⟩)) := rowIs_cell HF2.out.ptrs c hcl
  by_cases hlt : i < l0.length
  ·have dlt : decide (i < l0.length) = true := decide_eq_true hlt
   have hpi : wr.cell? ⟨wg.heap.size, i, none⟩ = some (.pointer (some ⟨wg.heap.size + 2 + 2 * i, 0, none⟩)) := rowIs_cell HF2.out.ptrs i hlt
   have hni := HF2.out.nodes i hlt
   simp only [Nat.lt_irrefl, false_and, if_false] at hni
   have hf7 := frz_of hni 7
   have hf8 := frz_of hni 8
   have hc7 : wr.cell? ⟨wg.heap.size + 2 + 2 * i, 7, none⟩ = some (.pointer (lpV wg.heap.size l0 i)) := (cell_of hni 7).trans rfl
   have hc8 : wr.cell? ⟨wg.heap.size + 2 + 2 * i, 8, none⟩ = some (.pointer (rpV wg.heap.size l0 i)) := (cell_of hni 8).trans rfl
   clear hni
   by_cases h4 : 0 ≤ (l0.getD i z34).f4
   ·rw [lpV, if_pos h4, nb] at hc7
    rw [rpV, if_pos h4, nb] at hc8
    have hk := HT.out.kids i hlt h4
    have hnc := HF2.out.nodes c hcl
    have hnl := HF2.out.nodes (l0.getD i z34).f4.toNat (by omega)
    have hnr := HF2.out.nodes (l0.getD i z34).f5.toNat (by omega)
    have hes := eqp_same wr ⟨wg.heap.size + 2 + 2 * c, 0, none⟩
    by_cases el : (l0.getD i z34).f4.toNat = c
    ·have er : (l0.getD i z34).f5.toNat ≠ c := fun e_ => hk.2.2.2 (by omega)
     have hst := forest2_left HF2.out h4 el er
     have hrp := HREP.out.keptS (w' := wr.setCell ⟨wg.heap.size + 2 + 2 * i, 7, none⟩ (.pointer (some ⟨b6, 0, none⟩))) (fun k_ hk_ _ => Below.heap_setCell _ _ _ _ (by show k_ ≠ wg.heap.size + 2 + 2 * i; rcases hk_ with ⟨⟨j_, hj1, _, hj3⟩, _⟩ | hk_; rintro rfl; exact hj3 (by rw [show j_ = i by omega]; exact ⟨h4, .inl el⟩); have hz_ := (Array.getElem?_eq_some_iff.1 (HFO.out.nodes i hlt)).1; have hz2 := HB5.out.size; omega))
     have HST := Am hst
     have HRP := Am hrp
     rw [el] at hc7
     clear hst hrp hk er el h4 hc8 hnc hnl hnr
     go_wp2
     go_roundg (gk - 1)
     case measure => have := HK.out; omega
     case rel => exact ⟨i + 1, by go_num, by omega, ⟨by have := HK.out; omega⟩, HST, HRP⟩
    ·have hel := eqp_other wr (a := ⟨wg.heap.size + 2 + 2 * c, 0, none⟩) (b := ⟨wg.heap.size + 2 + 2 * (l0.getD i z34).f4.toNat, 0, none⟩) (fun e_ => by injection e_ with e_; omega) hnc hnl
     by_cases er : (l0.getD i z34).f5.toNat = c
     ·have hst := forest2_right HF2.out h4 el er
      have hrp := HREP.out.keptS (w' := wr.setCell ⟨wg.heap.size + 2 + 2 * i, 8, none⟩ (.pointer (some ⟨b6, 0, none⟩))) (fun k_ hk_ _ => Below.heap_setCell _ _ _ _ (by show k_ ≠ wg.heap.size + 2 + 2 * i; rcases hk_ with ⟨⟨j_, hj1, _, hj3⟩, _⟩ | hk_; rintro rfl; exact hj3 (by rw [show j_ = i by omega]; exact ⟨h4, .inr er⟩); have hz_ := (Array.getElem?_eq_some_iff.1 (HFO.out.nodes i hlt)).1; have hz2 := HB5.out.size; omega))
      have HST := Am hst
      have HRP := Am hrp
      rw [er] at hc8
      clear hst hrp hk h4 hnc hnl hnr er el
      generalize (l0.getD i z34).f4.toNat = cl at hc7 hel
      go_wp2
      go_roundg (gk - 1)
      case measure => have := HK.out; omega
      case rel => exact ⟨i + 1, by go_num, by omega, ⟨by have := HK.out; omega⟩, HST, HRP⟩
     ·have her := eqp_other wr (a := ⟨wg.heap.size + 2 + 2 * c, 0, none⟩) (b := ⟨wg.heap.size + 2 + 2 * (l0.getD i z34).f5.toNat, 0, none⟩) (fun e_ => by injection e_ with e_; omega) hnc hnr
      have hst := forest2_skip HF2.out (fun hc_ => by rcases hc_.2 with e_ | e_; exact el e_; exact er e_)
      have HST := Am hst
      clear hst hk h4 el er hnc hnl hnr
      generalize (l0.getD i z34).f4.toNat = cl at hc7 hel
      generalize (l0.getD i z34).f5.toNat = cr at hc8 her
      go_wp2
      go_roundg (gk - 1)
      case measure => have := HK.out; omega
      case rel => exact ⟨i + 1, by go_num, by omega, ⟨by have := HK.out; omega⟩, HST, HREP⟩
   ·rw [lpV, if_neg h4] at hc7
    rw [rpV, if_neg h4] at hc8
    have hst := forest2_skip HF2.out (fun hc_ => h4 hc_.1)
    have HST := Am hst
    clear hst h4
    go_wp2
    go_roundg (gk - 1)
    case measure => have := HK.out; omega
    case rel => exact ⟨i + 1, by go_num, by omega, ⟨by have := HK.out; omega⟩, HST, HREP⟩
  ·obtain rfl : i = l0.length := by omega
   have dlt : decide (l0.length < l0.length) = false := decide_eq_false (Nat.lt_irrefl _)
   have hp0 : wr.cell? ⟨wg.heap.size, 0, none⟩ = some (.pointer (some ⟨wg.heap.size + 2 + 2 * 0, 0, none⟩)) := rowIs_cell HF2.out.ptrs 0 (by omega)
   have h0l : 0 < l0.length := by omega
   clear hlt hpc
   go_wp2_with (fail)
   refine (flat_any _ T1 _ (rep_repl HF2.out HREP.out K1 0 T1 HT1.out) HFULL.out HSZ.out).mono ?_
   rintro e w8 ⟨v8, rfl, h8a, h8b⟩
   have HFP := Am (HFIN.out wg wr v8 w8 HBW.out HF2.out.bel ⟨v8, rfl, h8a, h8b⟩)
   obtain ⟨A8, c8, rfl⟩ := Kd.R_slice h8a
   clear h8a h8b
   go_wp2
   go_ret2
   exact HFP.out
end Go.Proofs.Ytgleaefhflamnaa.T
namespace Go.Proofs.Ytgleaefhflamnaa.T
open Go.RowKit Go.Proofs.YtgleaefhflamnaaW.PrintWords Go.Proofs.YtgleaefhflamnaaW.PrintLast Go.Proofs.YtgleaefhflamnaaW.PrintMore
set_option maxHeartbeats 8000000 in
set_option maxRecDepth 100000 in
theorem do_err1 (k : Nat) (A0 : Option Addr) (c0 : Nat) (l0 : List S34) (a1 kind : Int) (mir : Bool) (r1 : Int) (r2 : List Bool) (r3 : Int) (w : World) (hr0 : Kd.C k34 w A0 l0.length l0) (hc0 : l0.length ≤ c0)
  (h : steps_keys.f k l0 = some (r1, r2, r3)) (h3 : r3 ≠ 0) :
  Calls Try.prog 30 #[.slice A0 l0.length c0, .int .i64 a1, .agg #[.int .i64 kind, .bool mir]] w fun e w' => e = .returned (.tuple #[.slice none 0 0, .int .i64 r3]) ∧ Below w.heap.size w w' := by
 have hu62 := Try.underlying62
 have hu111 := Try.underlying111
 have hu116 := Try.underlying116
 have hu34 := Try.underlying34
 have HR := Am hr0
 have HC := Am hc0
 have d3 : (r3 != 0) = true := bne_iff_ne.mpr h3
 have H_h := Am h
 clear h
 have H_h3 := Am h3
 clear h3
 clear hr0 hc0
 go_enter Try.func30, Try.ntmps30
 go_wp2_with (fail)
 refine (at_err1 k A0 c0 l0 a1 kind mir true r1 r2 r3 _ (Kd.C_below HR.out ((Below.refl _ _).alloc (Nat.le_refl _) _)) HC.out H_h.out H_h3.out).mono ?_
 rintro e w2 ⟨rfl, hbg⟩
 have hbw : Below w.heap.size w w2 := ((Below.refl _ _).alloc (Nat.le_refl _) _).trans (hbg.mono (by simp))
 have HBW := Am hbw
 clear hbg hbw
 go_wp2
 go_ret2
 exact ⟨rfl, HBW.out⟩
set_option maxHeartbeats 8000000 in
set_option maxRecDepth 100000 in
theorem do_err2 (k : Nat) (A0 : Option Addr) (c0 : Nat) (l0 : List S34) (a1 kind : Int) (mir : Bool) (r1 : Int) (r2 : List Bool) (w : World) (hr0 : Kd.C k34 w A0 l0.length l0) (hc0 : l0.length ≤ c0)
  (h : steps_keys.f k l0 = some (r1, r2, 0)) (hm : steps_Move_is.f kind mir = some false) :
  Calls Try.prog 30 #[.slice A0 l0.length c0, .int .i64 a1, .agg #[.int .i64 kind, .bool mir]] w fun e w' => e = .returned (.tuple #[.slice none 0 0, .int .i64 5]) ∧ Below w.heap.size w w' := by
 have hu62 := Try.underlying62
 have hu111 := Try.underlying111
 have hu116 := Try.underlying116
 have hu34 := Try.underlying34
 have HR := Am hr0
 have HC := Am hc0
 have H_h := Am h
 clear h
 have H_hm := Am hm
 clear hm
 clear hr0 hc0
 go_enter Try.func30, Try.ntmps30
 go_wp2_with (fail)
 refine (at_err2 k A0 c0 l0 a1 kind mir r1 r2 _ (Kd.C_below HR.out ((Below.refl _ _).alloc (Nat.le_refl _) _)) HC.out H_h.out H_hm.out).mono ?_
 rintro e w2 ⟨rfl, hbg⟩
 have hbw : Below w.heap.size w w2 := ((Below.refl _ _).alloc (Nat.le_refl _) _).trans (hbg.mono (by simp))
 have HBW := Am hbw
 clear hbg hbw
 go_wp2
 go_ret2
 exact ⟨rfl, HBW.out⟩
set_option maxHeartbeats 8000000 in
set_option maxRecDepth 100000 in
theorem do_err3 (k : Nat) (A0 : Option Addr) (c0 : Nat) (l0 : List S34) (a1 kind : Int) (mir : Bool) (r1 : Int) (r2 : List Bool) (w : World) (hr0 : Kd.C k34 w A0 l0.length l0) (hc0 : l0.length ≤ c0)
  (h : steps_keys.f k l0 = some (r1, r2, 0)) (hm : steps_Move_is.f kind mir = some true) (hp : a1 < 0 ∨ (l0.length : Int) ≤ a1) :
  Calls Try.prog 30 #[.slice A0 l0.length c0, .int .i64 a1, .agg #[.int .i64 kind, .bool mir]] w fun e w' => e = .returned (.tuple #[.slice none 0 0, .int .i64 1]) ∧ Below w.heap.size w w' := by
 have hu62 := Try.underlying62
 have hu111 := Try.underlying111
 have hu116 := Try.underlying116
 have hu34 := Try.underlying34
 have HR := Am hr0
 have HC := Am hc0
 have H_h := Am h
 clear h
 have H_hm := Am hm
 clear hm
 have H_hp := Am hp
 clear hp
 clear hr0 hc0
 go_enter Try.func30, Try.ntmps30
 go_wp2_with (fail)
 refine (at_err3t k A0 c0 l0 a1 kind mir r1 r2 _ (Kd.C_below HR.out ((Below.refl _ _).alloc (Nat.le_refl _) _)) HC.out H_h.out (fun _ => H_hm.out) H_hp.out).mono ?_
 rintro e w2 ⟨rfl, hbg⟩
 have hbw : Below w.heap.size w w2 := ((Below.refl _ _).alloc (Nat.le_refl _) _).trans (hbg.mono (by simp))
 have HBW := Am hbw
 clear hbg hbw
 go_wp2
 go_ret2
 exact ⟨rfl, HBW.out⟩
set_option maxHeartbeats 8000000 in
set_option maxRecDepth 100000 in
theorem do_err4 (k : Nat) (A0 : Option Addr) (c0 : Nat) (l0 : List S34) (a1 kind : Int) (mir : Bool) (r1 : Int) (r2 : List Bool) (w : World) (hr0 : Kd.C k34 w A0 l0.length l0) (hc0 : l0.length ≤ c0)
  (h : steps_keys.f k l0 = some (r1, r2, 0)) (hm : steps_Move_is.f kind mir = some true) (hp0 : 0 ≤ a1) (hp1 : a1 < l0.length) (hp2 : a1 < r2.length) (hbel : rdOf false r2 a1 = false) :
  Calls Try.prog 30 #[.slice A0 l0.length c0, .int .i64 a1, .agg #[.int .i64 kind, .bool mir]] w fun e w' => e = .returned (.tuple #[.slice none 0 0, .int .i64 1]) ∧ Below w.heap.size w w' := by
 have hu62 := Try.underlying62
 have hu111 := Try.underlying111
 have hu116 := Try.underlying116
 have hu34 := Try.underlying34
 have HR := Am hr0
 have HC := Am hc0
 have H_h := Am h
 clear h
 have H_hm := Am hm
 clear hm
 have H_hbel := Am hbel
 clear hbel
 have H_hp0 := Am hp0
 clear hp0
 have H_hp1 := Am hp1
 clear hp1
 have H_hp2 := Am hp2
 clear hp2
 clear hr0 hc0
 go_enter Try.func30, Try.ntmps30
 go_wp2_with (fail)
 refine (at_err4t k A0 c0 l0 a1 kind mir r1 r2 _ (Kd.C_below HR.out ((Below.refl _ _).alloc (Nat.le_refl _) _)) HC.out H_h.out (fun _ => H_hm.out) H_hp0.out H_hp1.out H_hp2.out H_hbel.out).mono ?_
 rintro e w2 ⟨rfl, hbg⟩
 have hbw : Below w.heap.size w w2 := ((Below.refl _ _).alloc (Nat.le_refl _) _).trans (hbg.mono (by simp))
 have HBW := Am hbw
 clear hbg hbw
 go_wp2
 go_ret2
 exact ⟨rfl, HBW.out⟩
def okB (t : List S34) : Bool := decide (t.length ≤ 100000) && t.all (fun n => decide (n.f4 < 0) || (decide (n.f4 < t.length) && decide (0 ≤ n.f5) && decide (n.f5 < t.length) && decide (n.f4 ≠ n.f5)))
theorem okT_of {t : List S34} (h : okB t = true) : OkT t := by
 simp only [okB, Bool.and_eq_true, decide_eq_true_eq, List.all_eq_true] at h
 refine ⟨h.1, fun i hi h4 => ?_⟩
 have hm : t.getD i z34 ∈ t := by rw [List.getD, List.getElem?_eq_getElem hi, Option.getD_some]; exact List.getElem_mem hi
 have := h.2 _ hm
 simp only [Bool.or_eq_true, Bool.and_eq_true, decide_eq_true_eq] at this
 omega
def fullB : Tr → Bool
 | .nil => false
 | .node _ _ .nil .nil => true
 | .node _ _ .nil (.node ..) => false
 | .node _ _ (.node ..) .nil => false
 | .node _ _ (.node n p l r) (.node n' p' l' r') => fullB (.node n p l r) && fullB (.node n' p' l' r')
theorem full_of : ∀ {T : Tr}, fullB T = true → Full T
 | .nil, h => by simp [fullB] at h
 | .node _ _ .nil .nil, _ => by unfold Full; trivial
 | .node _ _ .nil (.node ..), h => by simp [fullB] at h
 | .node _ _ (.node ..) .nil, h => by simp [fullB] at h
 | .node _ _ (.node n p l r) (.node n' p' l' r'), h => by
  rw [fullB, Bool.and_eq_true] at h
  unfold Full
  exact ⟨full_of h.1, full_of h.2⟩
/-- The table, where the tree of it is in form. -/
def outT (T1 : Tr) : Option (List S34 × Int) := if fullB T1 = true then (if sizeT T1 ≤ 1000000 then some (flatT T1 0, 0) else none) else none
def doGood (l0 : List S34) (rt : Bool) (c : Nat) (kind : Int) (mir : Bool) : Option (List S34 × Int) :=
 if okB l0 = true then (mkT l0 l0.length c).bind fun X =>
  if canT mir rt X kind = true then
   (if rt = true then (mkR l0 c (setW (doT mir X kind) 1) l0.length 0).bind outT
   else if 1000000 < wt (doT mir X kind) then some ([], 2) else (mkR l0 c (doT mir X kind) l0.length 0).bind outT)
  else some ([], 6)
 else none
def steps_Do.f (k : Nat) (l0 : List S34) (a1 a2_0 : Int) (a2_1 : Bool) : Option (List S34 × Int) :=
 (steps_keys.f k l0).bind fun bt => if bt.2.2 = 0 then ((steps_Move_is.f a2_0 a2_1).bind fun t => if t = true then (if a1 < 0 ∨ (l0.length : Int) ≤ a1 then some ([], 1) else (if a1 < bt.2.1.length then (if rdOf false bt.2.1 a1 = true then doGood l0 (a1 == bt.1) a1.toNat a2_0 a2_1 else some ([], 1)) else none)) else some ([], 5)) else some ([], bt.2.2)
theorem steps_Do.mono : ∀ a0 a1 a2_0 a2_1 k, LeO (steps_Do.f k a0 a1 a2_0 a2_1) (steps_Do.f (k + 1) a0 a1 a2_0 a2_1) := by
 intro a0 a1 a2_0 a2_1 k r h
 unfold steps_Do.f at h ⊢
 obtain ⟨bt, hb, h⟩ := Option.bind_eq_some_iff.1 h
 rw [steps_keys.mono a0 k bt hb]
 exact h
theorem move_kind {kind : Int} {mir : Bool} (h : steps_Move_is.f kind mir = some true) : 1 ≤ kind ∧ kind ≤ 12 := by
 unfold steps_Move_is.f at h
 split at h
 ·split at h
  ·omega
  ·exact absurd h (by simp)
 ·exact absurd h (by simp)
theorem outT_some {T1 : Tr} {r1 : List S34} {r2 : Int} (h : outT T1 = some (r1, r2)) : Full T1 ∧ sizeT T1 ≤ 1000000 ∧ r1 = flatT T1 0 ∧ r2 = 0 := by
 unfold outT at h
 split at h
 ·rename_i h1
  split at h
  ·rename_i h2
   injection h with h
   injection h with ha hb
   exact ⟨full_of h1, h2, ha.symm, hb.symm⟩
  ·exact absurd h (by simp)
 ·exact absurd h (by simp)
theorem do_nil {w : World} (x : Int) : ∀ (e : Ending) (w' : World), e = .returned (.tuple #[.slice none 0 0, .int .i64 x]) ∧ Below w.heap.size w w' → ∃ v0_ : Value, e = .returned (.tuple #[v0_, .int .i64 x]) ∧ Kd.R k34 34 w' w.heap.size (fun _ => True) v0_ [] ∧ Below w.heap.size w w' :=
 fun _ _ ⟨h1, h2⟩ => ⟨_, h1, Kd.R_nil _ _ _ _ _, h2⟩
theorem steps_Do.calls (k : Nat) (A0 : Option Addr) (c0 : Nat) (l0 : List S34) (a1 a2_0 : Int) (a2_1 : Bool) (r1 : List S34) (r2 : Int) (w : World) (hr0 : Kd.C k34 w A0 l0.length l0) (hc0 : l0.length ≤ c0) (h : steps_Do.f k l0 a1 a2_0 a2_1 = some (r1, r2)) :
  Calls Try.prog 30 #[.slice A0 l0.length c0, .int .i64 a1, .agg #[.int .i64 a2_0, .bool a2_1]] w fun e w' => ∃ v0_ : Value, e = .returned (.tuple #[v0_, .int .i64 r2]) ∧ Kd.R k34 34 w' w.heap.size (fun _ => True) v0_ r1 ∧ Below w.heap.size w w' := by
 unfold steps_Do.f at h
 obtain ⟨⟨q1, q2, q3⟩, hb, h⟩ := Option.bind_eq_some_iff.1 h
 dsimp only at h
 split at h
 ·rename_i h3
  subst h3
  obtain ⟨t, hm, h⟩ := Option.bind_eq_some_iff.1 h
  split at h
  ·rename_i ht
   subst ht
   split at h
   ·rename_i hp
    injection h with h
    injection h with ha hb'
    subst ha hb'
    exact (do_err3 k A0 c0 l0 a1 a2_0 a2_1 q1 q2 w hr0 hc0 hb hm hp).mono (do_nil 1)
   ·rename_i hp
    split at h
    ·rename_i hp2
     split at h
     ·rename_i hbel
      obtain ⟨c, rfl⟩ : ∃ c : Nat, a1 = c := ⟨a1.toNat, by omega⟩
      rw [Int.toNat_natCast] at h
      unfold doGood at h
      split at h
      ·rename_i hok
       obtain ⟨X, hX, h⟩ := Option.bind_eq_some_iff.1 h
       split at h
       ·rename_i hcan
        split at h
        ·rename_i hrt
         obtain ⟨T1, hT1, h⟩ := Option.bind_eq_some_iff.1 h
         obtain ⟨g1, g2, rfl, rfl⟩ := outT_some h
         exact do_ok1 k A0 c0 l0 c a2_0 a2_1 q1 q2 w hr0 hc0 hb hm (move_kind hm) (by omega) hp2 hbel (okT_of hok) _ X hX _ rfl hrt hcan _ T1 hT1 g1 g2
        ·rename_i hrt
         split at h
         ·rename_i hbig
          injection h with h
          injection h with ha hb'
          subst ha hb'
          exact (do_big k A0 c0 l0 c a2_0 a2_1 q1 q2 w hr0 hc0 hb hm (move_kind hm) (by omega) hp2 hbel (okT_of hok) _ X hX _ rfl (Bool.eq_false_iff.2 hrt) hcan hbig).mono (do_nil 2)
         ·rename_i hbig
          obtain ⟨T1, hT1, h⟩ := Option.bind_eq_some_iff.1 h
          obtain ⟨g1, g2, rfl, rfl⟩ := outT_some h
          exact do_ok0 k A0 c0 l0 c a2_0 a2_1 q1 q2 w hr0 hc0 hb hm (move_kind hm) (by omega) hp2 hbel (okT_of hok) _ X hX _ rfl (Bool.eq_false_iff.2 hrt) hcan hbig _ T1 hT1 g1 g2
       ·rename_i hcan
        injection h with h
        injection h with ha hb'
        subst ha hb'
        exact (do_nocan k A0 c0 l0 c a2_0 a2_1 q1 q2 w hr0 hc0 hb hm (move_kind hm) (by omega) hp2 hbel (okT_of hok) _ X hX _ rfl (Bool.eq_false_iff.2 hcan)).mono (do_nil 6)
      ·exact absurd h (by simp)
     ·rename_i hbel
      injection h with h
      injection h with ha hb'
      subst ha hb'
      exact (do_err4 k A0 c0 l0 a1 a2_0 a2_1 q1 q2 w hr0 hc0 hb hm (by omega) (by omega) hp2 (Bool.eq_false_iff.2 hbel)).mono (do_nil 1)
    ·exact absurd h (by simp)
  ·rename_i ht
   injection h with h
   injection h with ha hb'
   subst ha hb'
   exact (do_err2 k A0 c0 l0 a1 a2_0 a2_1 q1 q2 w hr0 hc0 hb (by rw [hm, Bool.eq_false_iff.2 ht])).mono (do_nil 5)
 ·rename_i h3
  injection h with h
  injection h with ha hb'
  subst ha hb'
  exact (do_err1 k A0 c0 l0 a1 a2_0 a2_1 q1 q2 q3 w hr0 hc0 hb h3).mono (do_nil q3)
end Go.Proofs.Ytgleaefhflamnaa.T
namespace Go.Proofs.Ytgleaefhflamnaa.T
open Go.RowKit Go.Proofs.YtgleaefhflamnaaW.PrintWords Go.Proofs.YtgleaefhflamnaaW.PrintLast Go.Proofs.YtgleaefhflamnaaW.PrintMore
attribute [local go_sem] max2_int min2_int max_two min_two max_three min_three max_four min_four   -- for this text's walks alone
set_option linter.unusedVariables false
set_option linter.unusedSimpArgs false
-- BREAK Derived.Test.YtgleaefhflamnaaHN
-- steps_Do.f, .mono, .calls stand in the module named above.
def larchlaw18_some.f  : Option ((List (S34)) × Int) := some ((([(⟨0, 1, 1, 0, 1, 6⟩ : S34), (⟨0, 1, 1, 0, 2, 5⟩ : S34), (⟨2, 0, 1, 0, 3, 4⟩ : S34), (⟨1, 0, 2, 0, (-1), (-1)⟩ : S34), (⟨2, 0, 2, 0, (-1), (-1)⟩ : S34), (⟨0, 1, 1, 0, (-1), (-1)⟩ : S34), (⟨0, 1, 1, 0, (-1), (-1)⟩ : S34)] : List (S34))), 2)
def larchlaw18_awake.f (k : Nat)  : Option (Bool) := (larchlaw18_some.f).bind fun bt193 => ((steps_Do.f k bt193.1 bt193.2 11 false).bind fun bt197 => (if 3 < (bt193.1.length : Int) then ((some (bt193.1.set (3 : Int).toNat (⟨(rd_T34 bt193.1 3).f0, (rd_T34 bt193.1 3).f1, 1, (rd_T34 bt193.1 3).f3, (rd_T34 bt193.1 3).f4, (rd_T34 bt193.1 3).f5⟩ : S34) : List (S34))).bind fun y201 => (if 4 < (bt193.1.length : Int) then (if bt197.2 = 0 then ((larchref18_SameTable.f k bt197.1 (y201.set (4 : Int).toNat (⟨(rd_T34 y201 4).f0, (rd_T34 y201 4).f1, 1, (rd_T34 y201 4).f3, (rd_T34 y201 4).f4, (rd_T34 y201 4).f5⟩ : S34))).bind fun t203 => (some t203)) else (some false)) else (none))) else (none)))
def larchlaw18_to.f (a0_0 : Int) (a0_1 : Bool) : Option (Int × Bool) := some (a0_0, a0_1)
set_option maxHeartbeats 8000000 in
set_option maxRecDepth 100000 in
theorem larchlaw18_to.calls (a0_0 : Int) (a0_1 : Bool) (r1 : Int) (r2 : Bool) (w : World) (h : larchlaw18_to.f a0_0 a0_1 = some (r1, r2)) :
  Calls Try.prog 29 #[.agg #[.int .i64 a0_0, .bool a0_1]] w fun e w' => e = .returned (.agg #[.int .i64 r1, .bool r2]) ∧ Below w.heap.size w w' := by
 have hu24 := Try.underlying24
 have hu62 := Try.underlying62
 have HB := Am (Below.refl w.heap.size w)
 have H : (some (a0_0, a0_1)) = some (r1, r2) := h
 clear h
 simp only [Option.some.injEq, Prod.mk.injEq] at H
 obtain ⟨rfl, rfl⟩ := H
 go_enter Try.func29, Try.ntmps29
 go_wp2_with (first | ((with_reducible refine gate_dst (N := 1) rfl ?_); refine box_event ?hg (N := 1) ?hd (cs := #[.int .i64 a0_0, .bool a0_1]) (t := 24) ?hr ?_; (case hd => rfl); (case hg => rfl); (case hr => first | (go_simp; done) | (go_simp; rfl)); intro gb204 hg w2 hbox hb; have n0_ := Am (below_step (by repeat (first | (with_reducible first | exact HB.out | apply ba | apply bn | apply bd) | exact HB.out)) hb); have n1_ := Am (hbox); have n2_ := Am ((by rw [hg]; exact (below_size (by repeat (first | (with_reducible first | exact HB.out | apply ba | apply bn | apply bd) | exact HB.out))) : w.heap.size ≤ gb204)); have n3_ := Am ((by rw [hg]; exact (below_size (by repeat (first | (with_reducible first | exact HB.out | apply ba | apply bn | apply bd) | exact HB.out))) : w.heap.size ≤ gb204)); clear HB; have HB := n0_; have BK204 := n1_; have GW204 := n2_; have GE204 := n3_; clear n0_ n1_ n2_ n3_; clear hb hbox hg) | ((with_reducible refine gate_dst (N := 2) rfl ?_); refine box_event ?hg (N := 2) ?hd (cs := #[.int .i64 0, .bool false]) (t := 62) ?hr ?_; (case hd => rfl); (case hg => rfl); (case hr => first | (go_simp; done) | (go_simp; rfl)); intro gb205 hg w3 hbox hb; have n0_ := Am (blk_below (g := gb204) (o := .cells #[.int .i64 a0_0, .bool a0_1] 24 (0, 0)) (by (with_reducible repeat (first | refine blk_drewN ?_ _ | refine blk_drew ?_ | refine blk_alloc ?_ _)); exact BK204.out) hb); have n1_ := Am (below_step (by repeat (first | (with_reducible first | exact HB.out | apply ba | apply bn | apply bd | refine below_set ?_ GE204.out) | exact HB.out)) hb); have n2_ := Am (hbox); have n3_ := Am ((by rw [hg]; exact (below_size (by repeat (first | (with_reducible first | exact HB.out | apply ba | apply bn | apply bd | refine below_set ?_ GE204.out) | exact HB.out))) : w.heap.size ≤ gb205)); have n4_ := Am ((by rw [hg]; exact (below_size (by repeat (first | (with_reducible first | exact HB.out | apply ba | apply bn | apply bd | refine below_set ?_ GE204.out) | exact HB.out))) : w.heap.size ≤ gb205)); have n5_ := Am ((by rw [hg]; exact Nat.ne_of_lt (blk_lt (g := gb204) (o := .cells #[.int .i64 a0_0, .bool a0_1] 24 (0, 0)) (by (with_reducible repeat (first | refine blk_drewN ?_ _ | refine blk_drew ?_ | refine blk_alloc ?_ _)); exact BK204.out)) : gb204 ≠ gb205)); have n6_ := Am ((by rw [hg]; exact Nat.ne_of_gt (blk_lt (g := gb204) (o := .cells #[.int .i64 a0_0, .bool a0_1] 24 (0, 0)) (by (with_reducible repeat (first | refine blk_drewN ?_ _ | refine blk_drew ?_ | refine blk_alloc ?_ _)); exact BK204.out)) : gb205 ≠ gb204)); clear BK204; clear HB; have BK204 := n0_; have HB := n1_; have BK205 := n2_; have GW205 := n3_; have GE205 := n4_; have NB204_205 := n5_; have NB205_204 := n6_; clear n0_ n1_ n2_ n3_ n4_ n5_ n6_; clear hb hbox hg; have hnb4 := NB204_205.out; have hnc4 := NB205_204.out; have hcz5_0 : w3.cell? ⟨gb204, 0, none⟩ = some (.int .i64 a0_0) := (blk_cell BK204.out 0).trans rfl; have hcz5_1 : w3.cell? ⟨gb204, 1, none⟩ = some (.bool a0_1) := (blk_cell BK204.out 1).trans rfl; have hfz5_0 := blk_frozen BK204.out 0; have hfz5_1 := blk_frozen BK204.out 1; have hcz6_0 : w3.cell? ⟨gb205, 0, none⟩ = some (.int .i64 0) := (blk_cell BK205.out 0).trans rfl; have hcz6_1 : w3.cell? ⟨gb205, 1, none⟩ = some (.bool false) := (blk_cell BK205.out 1).trans rfl; have hfz6_0 := blk_frozen BK205.out 0; have hfz6_1 := blk_frozen BK205.out 1))
 refine bodyPost_ret (results_cell_row rfl _ _ gb205 62 #[.int .i64 a0_0, .bool a0_1] (0, 0) _ rfl (by (with_reducible repeat (first | refine blk_drewN ?_ _ | refine blk_drew ?_ | refine blk_alloc ?_ _)); refine blk_put (cs := #[.int .i64 a0_0, .bool false]) ?_ 1 _ rfl; (with_reducible repeat (first | refine blk_drewN ?_ _ | refine blk_drew ?_ | refine blk_alloc ?_ _)); refine blk_put (cs := #[.int .i64 0, .bool false]) ?_ 0 _ rfl; (with_reducible repeat (first | refine blk_drewN ?_ _ | refine blk_drew ?_ | refine blk_alloc ?_ _)); exact BK205.out) Try.underlying62 rfl (by kernel_rfl)) rfl ?_
 exact ⟨by first | rfl | (simp [errW_none, errW_some] <;> rfl) | (simp [*, errW_none, errW_some] <;> rfl), by repeat (first | (with_reducible first | exact HB.out | apply ba | apply bn | apply bd | refine below_set ?_ GE204.out | refine below_set ?_ GE205.out) | exact HB.out)⟩
def larchlaw18_done.f (k : Nat) (l0 : List (S34)) (a1 : Int) (a2_0 : Int) (a2_1 : Bool) : Option ((List (S34)) × Bool) := (larchlaw18_to.f a2_0 a2_1).bind fun bt207 => ((steps_Do.f k l0 a1 bt207.1 bt207.2).bind fun bt209 => (some (bt209.1, (bt209.2 == 0))))
theorem larchlaw18_done.mono : ∀ a0 a1 a2 a3 k, LeO (larchlaw18_done.f k a0 a1 a2 a3) (larchlaw18_done.f (k + 1) a0 a1 a2 a3) := by
 intro a0 a1 a2 a3 k
 unfold larchlaw18_done.f
 repeat' first
   | (with_reducible exact steps_Do.mono _ _ _ _ _)
   | (with_reducible exact LeO.refl _)
   | (with_reducible exact LeO.none _)
   | (with_reducible refine LeO.ite ?_ ?_)
   | (with_reducible refine LeO.bind ?_ (fun _ => ?_))
   | exact steps_Do.mono _ _ _ _ _
   | exact LeO.none _
   | refine LeO.ite ?_ ?_
   | refine LeO.bind ?_ (fun _ => ?_)
set_option maxHeartbeats 8000000 in
set_option maxRecDepth 100000 in
theorem larchlaw18_done.calls (k : Nat) (A0 : Option Addr) (c0 : Nat) (l0 : List (S34)) (a1 : Int) (a2_0 : Int) (a2_1 : Bool) (r1 : List (S34)) (r2 : Bool) (w : World) (hr0 : Kd.C k34 w A0 l0.length l0) (hc0 : l0.length ≤ c0) (h : larchlaw18_done.f k l0 a1 a2_0 a2_1 = some (r1, r2)) :
  Calls Try.prog 11 #[.slice A0 l0.length c0, .int .i64 a1, .agg #[.int .i64 a2_0, .bool a2_1]] w fun e w' => ∃ v0_ : Value, e = .returned (.tuple #[v0_, .bool r2]) ∧ Kd.R k34 34 w' w.heap.size (fun _ => True) v0_ r1 ∧ Below w.heap.size w w' := by
 have hu24 := Try.underlying24
 have HR0 := Am hr0
 have HC0 := Am hc0
 clear hr0 hc0
 have HB := Am (Below.refl w.heap.size w)
 have H : ((larchlaw18_to.f a2_0 a2_1).bind fun bt207 => ((steps_Do.f k l0 a1 bt207.1 bt207.2).bind fun bt209 => (some (bt209.1, (bt209.2 == 0))))) = some (r1, r2) := h
 clear h
 replace H := Option.bind_eq_some_iff.mp H
 obtain ⟨⟨t207, t208⟩, A40, H⟩ := H
 replace H : ((steps_Do.f k l0 a1 t207 t208).bind fun bt209 => (some (bt209.1, (bt209.2 == 0)))) = some (r1, r2) := H
 have A4 := Am A40
 clear A40
 replace H := Option.bind_eq_some_iff.mp H
 obtain ⟨⟨t209, t212⟩, A50, H⟩ := H
 replace H : (some (t209, (t212 == 0))) = some (r1, r2) := H
 have A5 := Am A50
 clear A50
 simp only [Option.some.injEq, Prod.mk.injEq] at H
 obtain ⟨rfl, rfl⟩ := H
 go_enter Try.func11, Try.ntmps11
 go_wp2_with (first | ((with_reducible refine gate_dst (N := 5) rfl ?_); refine box_event ?hg (N := 5) ?hd (cs := #[.int .i64 a2_0, .bool a2_1]) (t := 24) ?hr ?_; (case hd => rfl); (case hg => rfl); (case hr => first | (go_simp; done) | (go_simp; rfl)); intro gb206 hg w6 hbox hb; have n0_ := Am (below_step (by repeat (first | (with_reducible first | exact HB.out | apply ba | apply bn | apply bd) | exact HB.out)) hb); have n1_ := Am (hbox); have n2_ := Am ((by rw [hg]; exact (below_size (by repeat (first | (with_reducible first | exact HB.out | apply ba | apply bn | apply bd) | exact HB.out))) : w.heap.size ≤ gb206)); have n3_ := Am ((by rw [hg]; exact (below_size (by repeat (first | (with_reducible first | exact HB.out | apply ba | apply bn | apply bd) | exact HB.out))) : w.heap.size ≤ gb206)); clear HB; have HB := n0_; have BK206 := n1_; have GW206 := n2_; have GE206 := n3_; clear n0_ n1_ n2_ n3_; clear hb hbox hg; have hcz7_0 : w6.cell? ⟨gb206, 0, none⟩ = some (.int .i64 a2_0) := (blk_cell BK206.out 0).trans rfl; have hcz7_1 : w6.cell? ⟨gb206, 1, none⟩ = some (.bool a2_1) := (blk_cell BK206.out 1).trans rfl; have hfz7_0 := blk_frozen BK206.out 0; have hfz7_1 := blk_frozen BK206.out 1) | ((with_reducible refine gate_callee (f := 29) rfl ?_); refine goesL_ (some 14) rfl rfl Try.func29 (by kernel_rfl) rfl #[.agg #[.int .i64 a2_0, .bool a2_1]] rfl (by (try simp only [List.map_toArray, List.map_cons, List.map_nil]); first | done | rfl | (simp only [List.length_drop, List.length_take]; rfl)) ?_; (with_reducible refine (larchlaw18_to.calls a2_0 a2_1 t207 t208 _ A4.out).mono ?_); rintro e w8 ⟨rfl, hb⟩; refine ⟨_, rfl, ?_⟩; have n0_ := Am (blk_below (g := gb206) (o := .cells #[.int .i64 a2_0, .bool a2_1] 24 (0, 0)) (by (with_reducible repeat (first | refine blk_drewN ?_ _ | refine blk_drew ?_ | refine blk_alloc ?_ _)); exact BK206.out) hb); have n1_ := Am (below_step (by repeat (first | (with_reducible first | exact HB.out | apply ba | apply bn | apply bd | refine below_set ?_ GE206.out) | exact HB.out)) hb); clear BK206; clear HB; have BK206 := n0_; have HB := n1_; clear n0_ n1_; (try clear hb); (try clear hb2); (try clear hk); (try clear hi)) | ((with_reducible refine gate_callee (f := 30) rfl ?_); refine goesL_ (some 15) rfl rfl Try.func30 (by kernel_rfl) rfl #[.slice A0 l0.length c0, .int .i64 a1, .agg #[.int .i64 t207, .bool t208]] rfl (by (try simp only [List.map_toArray, List.map_cons, List.map_nil]); first | done | rfl | (simp only [List.length_drop, List.length_take]; rfl)) ?_; (with_reducible refine (steps_Do.calls k _ _ l0 a1 t207 t208 t209 t212 _ ?side1 ?side2 A5.out).mono ?_); (case side1 => repeat (first | exact (Kd.C_below HR0.out HB.out) | (with_reducible refine Kd.C_alloc ?_ _) | (with_reducible refine Kd.C_drewN ?_ _) | (with_reducible refine Kd.C_drew ?_))); (case side2 => exact HC0.out); rintro e w9 ⟨v210, rfl, ho0, hb⟩; refine ⟨_, rfl, ?_⟩; have n0_ := Am (Kd.R_lower ho0 (below_size (by repeat (first | (with_reducible first | exact HB.out | apply ba | apply bn | apply bd | refine below_set ?_ GE206.out) | exact HB.out)))); have n1_ := Am (blk_below (g := gb206) (o := .cells #[.int .i64 a2_0, .bool a2_1] 24 (0, 0)) (by (with_reducible repeat (first | refine blk_drewN ?_ _ | refine blk_drew ?_ | refine blk_alloc ?_ _)); exact BK206.out) hb); have n2_ := Am (below_step (by repeat (first | (with_reducible first | exact HB.out | apply ba | apply bn | apply bd | refine below_set ?_ GE206.out) | exact HB.out)) hb); clear BK206; clear HB; have HO211 := n0_; have BK206 := n1_; have HB := n2_; clear n0_ n1_ n2_; (try clear hb); (try clear hb2); (try clear hk); (try clear hi); (try clear ho0)))
 go_ret2
 exact ⟨_, by first | rfl | (simp [errW_none, errW_some] <;> rfl) | (simp [*, errW_none, errW_some] <;> rfl), by (with_reducible repeat (first | apply Kd.R_alloc | apply Kd.R_drewN | apply Kd.R_drew)); exact HO211.out, by repeat (first | (with_reducible first | exact HB.out | apply ba | apply bn | apply bd | refine below_set ?_ GE206.out) | exact HB.out)⟩
def larchlaw18_sums.f : Nat → List (S34) → Int → Int → List Int → Option (List Int)
 | 0, _, _, _, _ => none
 | k + 1, l0, a1, a2, l3 => if 0 ≤ a1 then (if a1 < (l0.length : Int) then (if ((rd_T34 l0 a1).f4) < 0 then (if l3.length < 17592186044416 then (some (l3 ++ [wrap64 (a2 + ((rd_T34 l0 a1).f2))])) else (none)) else ((larchlaw18_sums.f k l0 ((rd_T34 l0 a1).f4) (wrap64 (a2 + ((rd_T34 l0 a1).f2))) l3).bind fun t220 => ((larchlaw18_sums.f k l0 ((rd_T34 l0 a1).f5) (wrap64 (a2 + ((rd_T34 l0 a1).f2))) t220).bind fun t223 => (some t223)))) else (none)) else (none)
end Go.Proofs.Ytgleaefhflamnaa.T
namespace Go.Proofs.Ytgleaefhflamnaa.T
open Go.RowKit Go.Proofs.YtgleaefhflamnaaW.PrintWords Go.Proofs.YtgleaefhflamnaaW.PrintLast Go.Proofs.YtgleaefhflamnaaW.PrintMore
def table_Mirror.l0 : Nat → List (S34) → List (S34) → Int → Int → Option ((List (S34)) × Int)
 | 0, _, _, _, _ => none
 | k + 1, x5, x16, x17, x18 => if x18 < x17 then (if 0 ≤ x18 then (if x18 < (x16.length : Int) then (if x5.length < 2932031007402 then (table_Mirror.l0 k (x5 ++ [(⟨(rd_T34 x16 x18).f0, (rd_T34 x16 x18).f1, (rd_T34 x16 x18).f2, (rd_T34 x16 x18).f3, (rd_T34 x16 x18).f5, (rd_T34 x16 x18).f4⟩ : S34)]) x16 x17 (wrap64 (x18 + 1))) else (none)) else (none)) else (none)) else ((table_sub.f k x5 0).bind fun t469 => (some (t469, 0)))
def table_Mirror.f (k : Nat) (l0 : List (S34)) : Option ((List (S34)) × Int) := (table_Check.f k l0).bind fun t460 => (if t460 = 0 then (if 0 ≤ (l0.length : Int) then (if ((l0.length : Int) : Int).toNat ≤ 5864062014805 then (table_Mirror.l0 k (([] : List (S34))) l0 (l0.length : Int) 0) else (none)) else (none)) else (some (([] : List (S34)), t460)))
def larchlaw18_flipped.f (k : Nat) (l0 : List (S34)) (a1 : Int) : Option ((List (S34)) × Bool) := (table_Sub.f k l0 a1).bind fun bt472 => ((table_Mirror.f k bt472.1).bind fun bt476 => ((table_Graft.f k l0 a1 bt476.1).bind fun bt480 => (if bt472.2 = 0 then (if bt476.2 = 0 then (some (bt480.1, (bt480.2 == 0))) else (some (bt480.1, false))) else (some (bt480.1, false)))))
def larchlaw18_mirrored.l0 : Nat → List (S34) → Bool → List (S34) → Bool → Int → Int → Option ((List (S34)) × Int × Bool)
 | 0, _, _, _, _, _, _ => none
 | k + 1, x10, x11, x12, x13, x42, x43 => if x43 < x42 then (if x11 = true then (if x13 = true then (if 0 ≤ x43 then (if x43 < (x12.length : Int) then (if x43 < (x10.length : Int) then (if ((rd_T34 x12 x43).f2) = ((rd_T34 x10 x43).f2) then (larchlaw18_mirrored.l0 k x10 x11 x12 x13 x42 (wrap64 (x43 + 1))) else (some (x10, x43, true))) else (none)) else (none)) else (none)) else (larchlaw18_mirrored.l0 k x10 x11 x12 x13 x42 (wrap64 (x43 + 1)))) else (larchlaw18_mirrored.l0 k x10 x11 x12 x13 x42 (wrap64 (x43 + 1)))) else (some (([] : List (S34)), 0, false))
def larchlaw18_mirrored.f (k : Nat) (l0 : List (S34)) (a1 : Int) : Option ((List (S34)) × Int × Bool) := (table_Root.f k l0).bind fun bt484 => (if bt484.2 = 0 then ((some (([] : List (S34)) : List (S34))).bind fun y486 => (if y486.length + l0.length < 2932031007402 then ((some (y486 ++ l0 : List (S34))).bind fun y489 => (if 0 ≤ a1 then (if a1 < (y489.length : Int) then ((larchlaw18_flipped.f k l0 bt484.1).bind fun bt493 => ((larchlaw18_flipped.f k (y489.set (a1 : Int).toNat (⟨(rd_T34 y489 a1).f0, (rd_T34 y489 a1).f1, 1000000, (rd_T34 y489 a1).f3, (rd_T34 y489 a1).f4, (rd_T34 y489 a1).f5⟩ : S34)) bt484.1).bind fun bt497 => (larchlaw18_mirrored.l0 k bt493.1 bt493.2 bt497.1 bt497.2 (bt497.1.length : Int) 0))) else (none)) else (none))) else (none))) else (some (([] : List (S34)), 0, false)))
mutual
def larchlaw18_StepsMirrors.j0 : Nat → List (S34) → Int → List (S34) → Bool → Bool → Int → Bool → Option (Bool)
 | 0, _, _, _, _, _, _, _ => none
 | k + 1, x0, x1, x7, x8, x35, x504000, x504001 => if x35 = true then (if x8 = true then (some (decide ((x7.length : Int) > 0))) else (some true)) else ((larchlaw18_mirrored.f k x0 x1).bind fun bt510 => (if bt510.2.2 = true then (if x504000 = 1 then (larchlaw18_StepsMirrors.j1 k x7 bt510.1 bt510.2.1 false x504000 x504001 x504000 x504001) else (if x504000 = 11 then (larchlaw18_StepsMirrors.j1 k x7 bt510.1 bt510.2.1 false x504000 x504001 x504000 x504001) else (larchlaw18_StepsMirrors.j1 k x7 bt510.1 bt510.2.1 (x504000 != 12) x504000 x504001 x504000 x504001))) else (some false)))
def larchlaw18_StepsMirrors.j1 : Nat → List (S34) → List (S34) → Int → Bool → Int → Bool → Int → Bool → Option (Bool)
 | 0, _, _, _, _, _, _, _, _ => none
 | k + 1, x7, x9, x10, x65, x504000, x504001, x516000, x516001 => if x65 = true then (larchlaw18_StepsMirrors.j2 k x7 x9 x10 x516000 (!x504001)) else (larchlaw18_StepsMirrors.j2 k x7 x9 x10 x516000 x516001)
def larchlaw18_StepsMirrors.j2 : Nat → List (S34) → List (S34) → Int → Int → Bool → Option (Bool)
 | 0, _, _, _, _, _ => none
 | k + 1, x7, x9, x10, x516000, x516001 => (larchlaw18_done.f k x9 x10 x516000 x516001).bind fun bt516 => ((table_Root.f k x7).bind fun bt520 => ((larchlaw18_flipped.f k x7 bt520.1).bind fun bt522 => (if bt516.2 = true then (if bt520.2 = 0 then (if bt522.2 = true then ((larchref18_SameTable.f k bt516.1 bt522.1).bind fun t526 => (some t526)) else (some false)) else (some false)) else (some false))))
end
def larchlaw18_StepsMirrors.f (k : Nat) (l0 : List (S34)) (a1 : Int) (a2_0 : Int) (a2_1 : Bool) : Option (Bool) := (larchlaw18_awake.f k).bind fun t504 => (if t504 = true then ((larchlaw18_done.f k l0 a1 a2_0 a2_1).bind fun bt505 => (if bt505.2 = true then (if 0 ≤ a1 then (if a1 < (l0.length : Int) then (larchlaw18_StepsMirrors.j0 k l0 a1 bt505.1 bt505.2 (((rd_T34 l0 a1).f2) == 1000000) a2_0 a2_1) else (none)) else (none)) else (larchlaw18_StepsMirrors.j0 k l0 a1 bt505.1 bt505.2 true a2_0 a2_1))) else (some false))
end Go.Proofs.Ytgleaefhflamnaa.T
/- table.Mirror. -/
namespace Go.Proofs.Ytgleaefhflamnaa.T
open Go.RowKit Go.Proofs.YtgleaefhflamnaaW.PrintWords Go.Proofs.YtgleaefhflamnaaW.PrintLast Go.Proofs.YtgleaefhflamnaaW.PrintMore
set_option linter.unusedVariables false
set_option linter.unusedSimpArgs false
abbrev zN : Value := .agg #[.int .i64 0, .int .i64 0, .int .i64 0, .int .i64 0, .int .i64 0, .int .i64 0]
theorem rd_cells {w : World} {A : Option Addr} {l : List S34} (h : Kd.C k34 w A l.length l) {i : Nat} (hi : i < l.length) : ∃ ad, A = some ad ∧ ∀ w', Below w.heap.size w w' → w'.cell? (ad.add (i * 6)) = some (.int .i64 (l.getD i z34).f0) ∧ w'.cell? ⟨(ad.add (i * 6)).block, (ad.add (i * 6)).off + 1, none⟩ = some (.int .i64 (l.getD i z34).f1) ∧ w'.cell? ⟨(ad.add (i * 6)).block, (ad.add (i * 6)).off + 2, none⟩ = some (.int .i64 (l.getD i z34).f2) ∧ w'.cell? ⟨(ad.add (i * 6)).block, (ad.add (i * 6)).off + 3, none⟩ = some (.int .i64 (l.getD i z34).f3) ∧ w'.cell? ⟨(ad.add (i * 6)).block, (ad.add (i * 6)).off + 4, none⟩ = some (.int .i64 (l.getD i z34).f4) ∧ w'.cell? ⟨(ad.add (i * 6)).block, (ad.add (i * 6)).off + 5, none⟩ = some (.int .i64 (l.getD i z34).f5) := by
 obtain ⟨ad, e, h0, h1, h2, h3, h4, h5⟩ := at_T34 h (i : Int) (by omega) (by omega)
 have t : ∀ (w' : World) (a : Addr) (v : Value), Below w.heap.size w w' → w.cell? a = some v → w'.cell? a = some v := fun w' a v hb h => (hb.cell (blt w a h)).trans h
 exact ⟨ad, e, fun w' hb => ⟨t _ _ _ hb h0, t _ _ _ hb h1, t _ _ _ hb h2, t _ _ _ hb h3, t _ _ _ hb h4, t _ _ _ hb h5⟩⟩
end Go.Proofs.Ytgleaefhflamnaa.T
namespace Go.Proofs.Ytgleaefhflamnaa.T
open Go.RowKit Go.Proofs.YtgleaefhflamnaaW.PrintWords Go.Proofs.YtgleaefhflamnaaW.PrintLast Go.Proofs.YtgleaefhflamnaaW.PrintMore
/-- The places of a tree, from the root on. -/
def plT : Tr → List Int
 | .nil => []
 | .node _ p l r => p :: (plT l ++ plT r)
/-- The places of a row of trees. -/
def plF (t : List S34) (k : Nat) : List Int → Option (List Int)
 | [] => some []
 | i :: s => if 0 ≤ i then (mkT t k i.toNat).bind fun T => (plF t k s).map (plT T ++ ·) else none
/-- Each node has two children in the table, or none. -/
def FormT (t : List S34) : Prop := ∀ i, i < t.length → ((t.getD i z34).f4 = -1 ∧ (t.getD i z34).f5 = -1) ∨ (0 ≤ (t.getD i z34).f4 ∧ (t.getD i z34).f4 < t.length ∧ 0 ≤ (t.getD i z34).f5 ∧ (t.getD i z34).f5 < t.length)
theorem plF_mono {t : List S34} {k : Nat} : ∀ {s ps : List Int}, plF t k s = some ps → plF t (k + 1) s = some ps := by
 intro s
 induction s with
 | nil => intro ps h; exact h
 | cons i s ih =>
  intro ps h
  rw [plF] at h ⊢
  split at h
  ·rename_i h0
   rw [if_pos h0]
   obtain ⟨T, hT, h⟩ := Option.bind_eq_some_iff.1 h
   obtain ⟨q, hq, h⟩ := Option.map_eq_some_iff.1 h
   rw [mkT_mono t _ _ _ hT, Option.bind_some, ih hq, Option.map_some, h]
  ·exact absurd h (by simp)
theorem plT_mem {t : List S34} : ∀ (k i : Nat) (T : Tr), mkT t k i = some T → (i : Int) ∈ plT T ∧ ∀ p ∈ plT T, 0 ≤ p ∧ p < t.length := by
 intro k
 induction k with
 | zero => intro i T h; simp [mkT] at h
 | succ k ih =>
  intro i T h
  rw [mkT] at h
  split at h
  case isFalse => exact absurd h (by simp)
  rename_i hi
  split at h
  ·obtain ⟨l, hl, h⟩ := Option.bind_eq_some_iff.1 h
   obtain ⟨r, hr, h⟩ := Option.bind_eq_some_iff.1 h
   obtain rfl := Option.some.inj h
   refine ⟨List.mem_cons_self, fun p hp => ?_⟩
   simp only [plT, List.mem_cons, List.mem_append] at hp
   rcases hp with rfl | hp | hp
   ·omega
   ·exact (ih _ _ hl).2 p hp
   ·exact (ih _ _ hr).2 p hp
  ·obtain rfl := Option.some.inj h
   refine ⟨List.mem_cons_self, fun p hp => ?_⟩
   simp only [plT, List.append_nil, List.mem_cons, List.not_mem_nil, or_false] at hp
   omega
theorem plF_cons {t : List S34} {k : Nat} {i : Int} {s ps : List Int} (h : plF t k (i :: s) = some ps) : ∃ T q, 0 ≤ i ∧ mkT t k i.toNat = some T ∧ plF t k s = some q ∧ ps = plT T ++ q := by
 rw [plF] at h
 split at h
 ·rename_i h0
  obtain ⟨T, hT, h⟩ := Option.bind_eq_some_iff.1 h
  obtain ⟨q, hq, h⟩ := Option.map_eq_some_iff.1 h
  exact ⟨T, q, h0, hT, hq, h.symm⟩
 ·exact absurd h (by simp)
theorem plF_mk {t : List S34} {k : Nat} {i : Int} {s q : List Int} {T : Tr} (h0 : 0 ≤ i) (hT : mkT t k i.toNat = some T) (hq : plF t k s = some q) : plF t k (i :: s) = some (plT T ++ q) := by
 rw [plF, if_pos h0, hT, Option.bind_some, hq, Option.map_some]
theorem plF_mem {t : List S34} {k : Nat} : ∀ {s ps : List Int}, plF t k s = some ps → ∀ p ∈ ps, 0 ≤ p ∧ p < t.length := by
 intro s
 induction s with
 | nil => intro ps h p hp; rw [plF] at h; injection h with h; rw [← h] at hp; exact absurd hp (by simp)
 | cons i s ih =>
  intro ps h p hp
  obtain ⟨T, q, h0, hT, hq, rfl⟩ := plF_cons h
  rcases List.mem_append.1 hp with hp | hp
  ·exact (plT_mem _ _ _ hT).2 p hp
  ·exact ih hq p hp
theorem plF_len {t : List S34} {k : Nat} : ∀ {s ps : List Int}, plF t k s = some ps → s.length ≤ ps.length := by
 intro s
 induction s with
 | nil => intro ps h; exact Nat.zero_le _
 | cons i s ih =>
  intro ps h
  obtain ⟨T, q, h0, hT, hq, rfl⟩ := plF_cons h
  have h1 := List.length_pos_of_mem (plT_mem _ _ _ hT).1
  have h2 := ih hq
  rw [List.length_append, List.length_cons]
  omega
theorem order_nil (k : Nat) (t : List S34) (met : List Bool) (out : List Int) : table_order.l0 (k + 1) t met out [] = some out := by
 rw [table_order.l0]
 exact if_neg (by simp)
theorem leaf_f (n : S34) : table_isLeaf.f n.f0 n.f1 n.f2 n.f3 n.f4 n.f5 = some (decide (n.f4 = -1 ∧ n.f5 = -1)) := by
 unfold table_isLeaf.f
 by_cases h : n.f4 = -1
 ·rw [if_pos h]
  by_cases h5 : n.f5 = -1
  ·simp [h, h5]
  ·simp [h, h5]
 ·rw [if_neg h]
  simp [h]
theorem order_step (k : Nat) (t : List S34) (met : List Bool) (out : List Int) (i : Int) (s : List Int) (hs : s.length < 17592186044416) :
  table_order.l0 (k + 1) t met out (i :: s).reverse =
   if 0 ≤ i then (if i < met.length then (if met.getD i.toNat false = true then some [] else (if out.length < 17592186044416 then (if i < t.length then
    (if (t.getD i.toNat z34).f4 = -1 ∧ (t.getD i.toNat z34).f5 = -1 then table_order.l0 k t (met.set i.toNat true) (out ++ [i]) s.reverse
     else if s.length + 2 < 17592186044416 then table_order.l0 k t (met.set i.toNat true) (out ++ [i]) ((t.getD i.toNat z34).f4 :: (t.getD i.toNat z34).f5 :: s).reverse else none) else none) else none)) else none) else none := by
 have e : (i :: s).reverse = s.reverse ++ [i] := List.reverse_cons
 have e2 : ((t.getD i.toNat z34).f4 :: (t.getD i.toNat z34).f5 :: s).reverse = s.reverse ++ [(t.getD i.toNat z34).f5, (t.getD i.toNat z34).f4] := by simp
 rw [e, e2]
 generalize hr : s.reverse = s'
 have hl : s'.length = s.length := by rw [← hr, List.length_reverse]
 rw [← hl] at hs ⊢
 have h1 : wrap64 (((s' ++ [i]).length : Int) - 1) = s'.length := by rw [List.length_append, List.length_singleton, Go.IntWalk.wrap64_in _ (by omega)]; omega
 have h2 : rd (s' ++ [i]) (s'.length : Int) = i := by simp [rd]
 have h3 : (s' ++ [i]).take ((s'.length : Int)).toNat = s' := by simp
 rw [table_order.l0, h1, h2, h3]
 rw [if_pos (by rw [List.length_append, List.length_singleton]; omega), if_pos (by omega), if_pos (by rw [List.length_append, List.length_singleton]; omega), if_pos (by rw [List.length_append, List.length_singleton]; omega)]
 simp only [rd_T34, rdOf, leaf_f, Option.bind_some, decide_eq_true_eq]
 simp only [List.length_cons, List.length_nil]
theorem getD_set_ne {α : Type} (l : List α) (d x : α) {i j : Nat} (h : i ≠ j) : (l.set i x).getD j d = l.getD j d := by
 simp only [List.getD, List.getElem?_set, if_neg h]
theorem getD_set_eq {α : Type} (l : List α) (d x : α) {i : Nat} (h : i < l.length) : (l.set i x).getD i d = x := by
 simp [List.getD, h]
/-- What the walk of order says: each place on the stack stands over a tree, and these share no place. -/
theorem order_inv (t : List S34) (hf : FormT t) : ∀ (k : Nat) (met : List Bool) (out s res : List Int), met.length = t.length → s.length < 17592186044416 → table_order.l0 k t met out s.reverse = some res → res = [] ∨
  ∃ ps, plF t k s = some ps ∧ res = out ++ ps ∧ ps.Nodup ∧ ∀ p ∈ ps, met.getD p.toNat false = false ∧ 0 ≤ p ∧ p < t.length := by
 intro k
 induction k with
 | zero => intro met out s res _ _ h; simp [table_order.l0] at h
 | succ k ih =>
  intro met out s res hm hsl h
  cases s with
  | nil =>
   rw [List.reverse_nil, order_nil] at h
   injection h with h
   exact .inr ⟨[], rfl, by rw [← h, List.append_nil], List.nodup_nil, fun p hp => absurd hp (by simp)⟩
  | cons i s =>
   have hsl' : s.length < 17592186044416 := by rw [List.length_cons] at hsl; omega
   rw [order_step _ _ _ _ _ _ hsl'] at h
   split at h
   case isFalse => exact absurd h (by simp)
   rename_i h0
   split at h
   case isFalse => exact absurd h (by simp)
   rename_i h1
   split at h
   ·injection h with h; exact .inl h.symm
   rename_i hmet
   rw [Bool.not_eq_true] at hmet
   split at h
   case isFalse => exact absurd h (by simp)
   split at h
   case isFalse => exact absurd h (by simp)
   rename_i h2
   have hi : i.toNat < t.length := by omega
   split at h
   ·rename_i hlf
    rcases ih _ _ s res (by rw [List.length_set, hm]) hsl' h with e | ⟨ps, hp, hr, hn, hu⟩
    ·exact .inl e
    ·have hT : mkT t (k + 1) i.toNat = some (.node (t.getD i.toNat z34) i.toNat .nil .nil) := by rw [mkT, if_pos hi, if_neg (by omega)]
     refine .inr ⟨_, plF_mk h0 hT (plF_mono hp), ?_, ?_, ?_⟩
     ·rw [hr]; simp only [plT, List.append_assoc, List.nil_append, List.cons_append]; rw [Int.toNat_of_nonneg h0]
     ·simp only [plT, List.nil_append, List.cons_append, List.nodup_cons]
      refine ⟨fun hmem => ?_, hn⟩
      have := (hu _ hmem).1
      rw [Int.toNat_natCast, getD_set_eq _ _ _ (by omega)] at this
      exact absurd this (by simp)
     ·intro p hp'
      simp only [plT, List.nil_append, List.cons_append, List.mem_cons] at hp'
      rcases hp' with rfl | hp'
      ·rw [Int.toNat_natCast]; exact ⟨hmet, by omega, by omega⟩
      ·have h3 := hu p hp'
       by_cases e : i.toNat = p.toNat
       ·rw [← e]; exact ⟨hmet, h3.2⟩
       ·rw [getD_set_ne _ _ _ e] at h3; exact h3
   ·rename_i hlf
    split at h
    case isFalse => exact absurd h (by simp)
    rename_i hs2
    have hk := hf i.toNat hi
    rcases ih _ _ (_ :: _ :: s) res (by rw [List.length_set, hm]) (by simp only [List.length_cons]; omega) h with e | ⟨ps, hp, hr, hn, hu⟩
    ·exact .inl e
    ·obtain ⟨Tl, q1, g0, hl, hp1, rfl⟩ := plF_cons hp
     obtain ⟨Tr', q2, g1, hr', hp2, rfl⟩ := plF_cons hp1
     have hT : mkT t (k + 1) i.toNat = some (.node (t.getD i.toNat z34) i.toNat Tl Tr') := by rw [mkT, if_pos hi, if_pos g0, hl, Option.bind_some, hr', Option.bind_some]
     refine .inr ⟨_, plF_mk h0 hT (plF_mono hp2), ?_, ?_, ?_⟩
     ·rw [hr]; simp only [plT, List.append_assoc, List.nil_append, List.cons_append]; rw [Int.toNat_of_nonneg h0]
     ·simp only [plT, List.cons_append, List.nodup_cons, List.append_assoc]
      refine ⟨fun hmem => ?_, hn⟩
      have := (hu _ hmem).1
      rw [Int.toNat_natCast, getD_set_eq _ _ _ (by omega)] at this
      exact absurd this (by simp)
     ·intro p hp'
      simp only [plT, List.cons_append, List.mem_cons, List.append_assoc] at hp'
      rcases hp' with rfl | hp'
      ·rw [Int.toNat_natCast]; exact ⟨hmet, by omega, by omega⟩
      ·have h3 := hu p hp'
       by_cases e : i.toNat = p.toNat
       ·rw [← e]; exact ⟨hmet, h3.2⟩
       ·rw [getD_set_ne _ _ _ e] at h3; exact h3
/-- The walk over trees that share no place: all places, from the top of the stack on. -/
theorem order_tree (t : List S34) (hlen : t.length ≤ 100000) (hf : FormT t) (K : Nat) : ∀ (k : Nat) (met : List Bool) (out s ps : List Int), met.length = t.length → plF t K s = some ps → ps.Nodup → (∀ p ∈ ps, met.getD p.toNat false = false) → ps.length < k → out.length + ps.length ≤ 1000000 →
  table_order.l0 k t met out s.reverse = some (out ++ ps) := by
 intro k
 induction k with
 | zero => intro met out s ps _ _ _ _ h; exact absurd h (by omega)
 | succ k ih =>
  intro met out s ps hm hp hn hu hk ho
  cases s with
  | nil =>
   rw [plF] at hp
   injection hp with hp
   subst hp
   rw [List.reverse_nil, order_nil, List.append_nil]
  | cons i s =>
   obtain ⟨T, q, h0, hT, hq, rfl⟩ := plF_cons hp
   have hsl := plF_len hp
   rw [List.length_cons, List.length_append] at hsl
   have hsl2 := plF_len hq
   rw [List.length_append] at hk ho
   rw [order_step _ _ _ _ _ _ (by omega), if_pos h0]
   cases K with
   | zero => simp [mkT] at hT
   | succ K =>
    have hT0 := hT
    rw [mkT] at hT
    split at hT
    case isFalse => exact absurd hT (by simp)
    rename_i hi
    split at hT
    ·rename_i h4
     obtain ⟨Tl, hl, hT⟩ := Option.bind_eq_some_iff.1 hT
     obtain ⟨Tr', hr, hT⟩ := Option.bind_eq_some_iff.1 hT
     obtain rfl := Option.some.inj hT
     simp only [plT, List.cons_append, List.nodup_cons, List.append_assoc, List.length_cons, List.length_append] at hn hk ho hsl ⊢
     have hmi := hu i.toNat (by simp [plT])
     rw [Int.toNat_natCast] at hmi
     have h5 : 0 ≤ (t.getD i.toNat z34).f5 := by have := hf i.toNat hi; omega
     rw [if_pos (by omega), if_neg (by rw [hmi]; simp), if_pos (by omega), if_pos (by omega), if_neg (by omega), if_pos (by omega)]
     rw [ih _ _ (_ :: _ :: s) _ (by rw [List.length_set, hm]) (plF_mk h4 (mkT_mono t _ _ _ hl) (plF_mk h5 (mkT_mono t _ _ _ hr) hq)) hn.2 ?_ (by simp only [List.length_append]; omega) (by simp only [List.length_append, List.length_singleton]; omega)]
     ·rw [Int.toNat_of_nonneg h0]; simp
     ·intro p hp'
      by_cases e : i.toNat = p.toNat
      ·exfalso
       have hnn := (plF_mem hp p (by simp only [plT, List.cons_append, List.append_assoc]; exact List.mem_cons_of_mem _ hp')).1
       exact hn.1 (by rw [show ((i.toNat : Nat) : Int) = p by omega]; exact hp')
      ·rw [getD_set_ne _ _ _ e]
       exact hu p (by simp only [plT, List.cons_append, List.append_assoc]; exact List.mem_cons_of_mem _ hp')
    ·rename_i h4
     obtain rfl := Option.some.inj hT
     simp only [plT, List.cons_append, List.nodup_cons, List.nil_append, List.length_cons] at hn hk ho hsl ⊢
     have hmi := hu i.toNat (by simp [plT])
     rw [Int.toNat_natCast] at hmi
     have h45 := hf i.toNat hi
     rw [if_pos (by omega), if_neg (by rw [hmi]; simp), if_pos (by omega), if_pos (by omega), if_pos (by omega)]
     rw [ih _ _ s _ (by rw [List.length_set, hm]) hq hn.2 ?_ (by omega) (by simp only [List.length_append, List.length_singleton]; omega)]
     ·rw [Int.toNat_of_nonneg h0]; simp
     ·intro p hp'
      by_cases e : i.toNat = p.toNat
      ·exfalso
       have hnn := (plF_mem hq p hp').1
       exact hn.1 (by rw [show ((i.toNat : Nat) : Int) = p by omega]; exact hp')
      ·rw [getD_set_ne _ _ _ e]
       exact hu p (by simp only [plT, List.cons_append, List.nil_append]; exact List.mem_cons_of_mem _ hp')
def cntT : List Bool → Nat
 | [] => 0
 | b :: l => (if b then 1 else 0) + cntT l
theorem cntT_le : ∀ l, cntT l ≤ l.length
 | [] => Nat.le_refl _
 | b :: l => by have := cntT_le l; rw [cntT, List.length_cons]; split <;> omega
theorem cntT_set : ∀ (l : List Bool) (i : Nat), i < l.length → l.getD i false = false → cntT (l.set i true) = cntT l + 1
 | [], _, h, _ => absurd h (by simp)
 | b :: l, 0, _, h => by
  simp only [List.getD_cons_zero] at h
  subst h
  simp only [sZ, cntT, if_true]
  rw [if_neg (by simp)]
  omega
 | b :: l, i + 1, h, h' => by
  rw [List.getD_cons_succ] at h'
  rw [sS, cntT, cntT, cntT_set l i (by rw [List.length_cons] at h; omega) h']
  omega
/-- The walk of order ends on every table in form. -/
theorem order_total (t : List S34) (hlen : t.length ≤ 100000) (hf : FormT t) : ∀ (k : Nat) (met : List Bool) (out s : List Int), met.length = t.length → (∀ i ∈ s, 0 ≤ i ∧ i < t.length) → cntT met = out.length → s.length ≤ out.length + 1 → t.length + 1 ≤ k + out.length → 0 < k → ∃ res, table_order.l0 k t met out s.reverse = some res := by
 intro k
 induction k with
 | zero => intro met out s _ _ _ _ _ h; exact absurd h (by omega)
 | succ k ih =>
  intro met out s hm hr hc hs hk _
  have hcl := cntT_le met
  cases s with
  | nil => exact ⟨out, by rw [List.reverse_nil, order_nil]⟩
  | cons i s =>
   rw [List.length_cons] at hs
   have hi := hr i List.mem_cons_self
   rw [order_step _ _ _ _ _ _ (by omega), if_pos hi.1, if_pos (by omega)]
   by_cases hmet : met.getD i.toNat false = true
   ·exact ⟨[], by rw [if_pos hmet]⟩
   ·rw [if_neg hmet, if_pos (by omega), if_pos hi.2]
    rw [Bool.not_eq_true] at hmet
    have hcs := cntT_set met i.toNat (by omega) hmet
    have hcl2 := cntT_le (met.set i.toNat true)
    rw [List.length_set] at hcl2
    have hk1 := hf i.toNat (by omega)
    by_cases hlf : (t.getD i.toNat z34).f4 = -1 ∧ (t.getD i.toNat z34).f5 = -1
    ·rw [if_pos hlf]
     by_cases hk0 : 0 < k
     ·exact ih _ _ s (by rw [List.length_set, hm]) (fun j hj => hr j (List.mem_cons_of_mem _ hj)) (by rw [hcs, List.length_append, List.length_singleton, hc]) (by rw [List.length_append, List.length_singleton]; omega) (by rw [List.length_append, List.length_singleton]; omega) hk0
     ·omega
    ·rw [if_neg hlf, if_pos (by omega)]
     exact ih _ _ (_ :: _ :: s) (by rw [List.length_set, hm]) (fun j hj => by
      simp only [List.mem_cons] at hj
      rcases hj with rfl | rfl | hj
      ·omega
      ·omega
      ·exact hr j (List.mem_cons_of_mem _ hj)) (by rw [hcs, List.length_append, List.length_singleton, hc]) (by simp only [List.length_append, List.length_singleton, List.length_cons]; omega) (by rw [List.length_append, List.length_singleton]; omega) (by omega)
end Go.Proofs.Ytgleaefhflamnaa.T
/- table.Graft, where it goes well. -/
namespace Go.Proofs.Ytgleaefhflamnaa.T
open Go.RowKit Go.Proofs.YtgleaefhflamnaaW.PrintWords Go.Proofs.YtgleaefhflamnaaW.PrintLast Go.Proofs.YtgleaefhflamnaaW.PrintMore
set_option linter.unusedVariables false
set_option linter.unusedSimpArgs false
theorem graft_l1s {k : Nat} {x0 x9 x77 : List S34} {i : Nat} (hi : i < x77.length) {r : List S34} (h : table_Graft.l1 (k + 1) x0 x9 x77 x77.length i = some (r, 0)) : ∃ e4 e5 : Int, x9.length < 2932031007402 ∧ table_Graft.l1 k x0 (x9 ++ [⟨(x77.getD i z34).f0, (x77.getD i z34).f1, (x77.getD i z34).f2, (x77.getD i z34).f3, e4, e5⟩]) x77 x77.length (wrap64 ((i : Int) + 1)) = some (r, 0) ∧
  ((table_isLeaf.f (x77.getD i z34).f0 (x77.getD i z34).f1 (x77.getD i z34).f2 (x77.getD i z34).f3 (x77.getD i z34).f4 (x77.getD i z34).f5 = some true ∧ e4 = (x77.getD i z34).f4 ∧ e5 = (x77.getD i z34).f5) ∨
   (table_isLeaf.f (x77.getD i z34).f0 (x77.getD i z34).f1 (x77.getD i z34).f2 (x77.getD i z34).f3 (x77.getD i z34).f4 (x77.getD i z34).f5 = some false ∧ e4 = wrap64 ((x77.getD i z34).f4 + (x0.length : Int)) ∧ e5 = wrap64 ((x77.getD i z34).f5 + (x0.length : Int)))) := by
 rw [table_Graft.l1, if_pos (by omega), if_pos (by omega), if_pos (by omega), show rd_T34 x77 (i : Int) = x77.getD i z34 from rfl] at h
 obtain ⟨b, hb, h⟩ := Option.bind_eq_some_iff.1 h
 cases b with
 | true =>
  rw [if_pos rfl] at h
  split at h
  ·exact ⟨_, _, by assumption, h, .inl ⟨hb, rfl, rfl⟩⟩
  ·exact absurd h (by simp)
 | false =>
  rw [if_neg (by simp)] at h
  split at h
  ·exact ⟨_, _, by assumption, h, .inr ⟨hb, rfl, rfl⟩⟩
  ·exact absurd h (by simp)
theorem graft_l0s {k : Nat} {x0 x2 x9 x49 : List S34} {c : Int} {i : Nat} (hi : i < x49.length) {r : List S34} (h : table_Graft.l0 (k + 1) x0 c x2 x9 x49 x49.length i = some (r, 0)) : ∃ e4 e5 : Int, x9.length < 2932031007402 ∧ table_Graft.l0 k x0 c x2 (x9 ++ [⟨(x49.getD i z34).f0, (x49.getD i z34).f1, (x49.getD i z34).f2, (x49.getD i z34).f3, e4, e5⟩]) x49 x49.length (wrap64 ((i : Int) + 1)) = some (r, 0) ∧
  ((table_isLeaf.f (x49.getD i z34).f0 (x49.getD i z34).f1 (x49.getD i z34).f2 (x49.getD i z34).f3 (x49.getD i z34).f4 (x49.getD i z34).f5 = some true ∧ e4 = (x49.getD i z34).f4 ∧ e5 = (x49.getD i z34).f5) ∨
   (table_isLeaf.f (x49.getD i z34).f0 (x49.getD i z34).f1 (x49.getD i z34).f2 (x49.getD i z34).f3 (x49.getD i z34).f4 (x49.getD i z34).f5 = some false ∧ ∃ b4 b5, ((x49.getD i z34).f4 == c) = b4 ∧ ((x49.getD i z34).f5 == c) = b5 ∧ e4 = (if b4 then (x0.length : Int) else (x49.getD i z34).f4) ∧ e5 = (if b5 then (x0.length : Int) else (x49.getD i z34).f5))) := by
 rw [table_Graft.l0, if_pos (by omega), if_pos (by omega), if_pos (by omega), show rd_T34 x49 (i : Int) = x49.getD i z34 from rfl] at h
 obtain ⟨b, hb, h⟩ := Option.bind_eq_some_iff.1 h
 cases b with
 | true =>
  rw [if_pos rfl] at h
  split at h
  ·exact ⟨_, _, by assumption, h, .inl ⟨hb, rfl, rfl⟩⟩
  ·exact absurd h (by simp)
 | false =>
  rw [if_neg (by simp)] at h
  by_cases h4 : (x49.getD i z34).f4 = c <;> by_cases h5 : (x49.getD i z34).f5 = c
  ·rw [if_pos h4, if_pos h5] at h
   split at h
   ·exact ⟨_, _, by assumption, h, .inr ⟨hb, true, true, beq_iff_eq.2 h4, beq_iff_eq.2 h5, rfl, rfl⟩⟩
   ·exact absurd h (by simp)
  ·rw [if_pos h4, if_neg h5] at h
   split at h
   ·exact ⟨_, _, by assumption, h, .inr ⟨hb, true, false, beq_iff_eq.2 h4, beq_eq_false_iff_ne.2 h5, rfl, rfl⟩⟩
   ·exact absurd h (by simp)
  ·rw [if_neg h4, if_pos h5] at h
   split at h
   ·exact ⟨_, _, by assumption, h, .inr ⟨hb, false, true, beq_eq_false_iff_ne.2 h4, beq_iff_eq.2 h5, rfl, rfl⟩⟩
   ·exact absurd h (by simp)
  ·rw [if_neg h4, if_neg h5] at h
   split at h
   ·exact ⟨_, _, by assumption, h, .inr ⟨hb, false, false, beq_eq_false_iff_ne.2 h4, beq_eq_false_iff_ne.2 h5, rfl, rfl⟩⟩
   ·exact absurd h (by simp)
theorem graft_n1 {k : Nat} {x0 x9 x77 : List S34} {i : Int} {r : List S34} (hi : i < x77.length) (h : table_Graft.l1 (k + 1) x0 x9 x77 x77.length i = some (r, 0)) : ∃ j : Nat, i = j := by
 rw [table_Graft.l1, if_pos hi] at h
 by_cases h0 : 0 ≤ i
 ·exact Int.eq_ofNat_of_zero_le h0
 ·rw [if_neg h0] at h; exact absurd h (by simp)
theorem graft_n0 {k : Nat} {x0 x2 x9 x49 : List S34} {c i : Int} {r : List S34} (hi : i < x49.length) (h : table_Graft.l0 (k + 1) x0 c x2 x9 x49 x49.length i = some (r, 0)) : ∃ j : Nat, i = j := by
 rw [table_Graft.l0, if_pos hi] at h
 by_cases h0 : 0 ≤ i
 ·exact Int.eq_ofNat_of_zero_le h0
 ·rw [if_neg h0] at h; exact absurd h (by simp)
theorem graft_j0 {k : Nat} {t w r : List S34} {c : Int} (h : table_Graft.f k t c w = some (r, 0)) : ∃ (k1 : Nat) (s : List Int), table_both.f k t w = some 0 ∧ k = k1 + 1 ∧ 0 ≤ c ∧ c < t.length ∧ table_order.f k1 t c = some s ∧ wrap64 ((wrap64 ((t.length : Int) - (s.length : Int))) + (w.length : Int)) ≤ 100000 ∧
  ((c = 0 ∧ table_sub.f k1 w 0 = some r) ∨ (c ≠ 0 ∧ 0 ≤ wrap64 ((t.length : Int) + w.length) ∧ (wrap64 ((t.length : Int) + w.length)).toNat ≤ 5864062014805 ∧ table_Graft.l0 k1 t c w [] t t.length 0 = some (r, 0))) := by
 unfold table_Graft.f at h
 obtain ⟨q, hq, h⟩ := Option.bind_eq_some_iff.1 h
 by_cases q0 : q = 0
 ·rw [if_pos q0] at h
  subst q0
  cases k with
  | zero => split at h <;> exact absurd h (by simp [table_Graft.j0])
  | succ k1 =>
   by_cases c0 : c < 0
   ·rw [if_pos c0, table_Graft.j0, if_pos rfl] at h; simp at h
   ·rw [if_neg c0, table_Graft.j0] at h
    by_cases c1 : c ≥ t.length
    ·rw [if_pos (by simpa using c1)] at h; simp at h
    ·rw [if_neg (by simpa using c1)] at h
     obtain ⟨s, hs, h⟩ := Option.bind_eq_some_iff.1 h
     by_cases c2 : wrap64 ((wrap64 ((t.length : Int) - (s.length : Int))) + (w.length : Int)) > 100000
     ·rw [if_pos c2] at h; simp at h
     ·rw [if_neg c2] at h
      refine ⟨k1, s, hq, rfl, by omega, by omega, hs, by omega, ?_⟩
      by_cases c3 : c = 0
      ·rw [if_pos c3] at h
       obtain ⟨u, hu, h⟩ := Option.bind_eq_some_iff.1 h
       injection h with h
       injection h with h _
       subst h
       exact .inl ⟨c3, hu⟩
      ·rw [if_neg c3] at h
       by_cases c4 : 0 ≤ wrap64 ((t.length : Int) + w.length)
       ·rw [if_pos c4] at h
        by_cases c5 : (wrap64 ((t.length : Int) + w.length)).toNat ≤ 5864062014805
        ·rw [if_pos c5] at h; exact .inr ⟨c3, c4, c5, h⟩
        ·rw [if_neg c5] at h; exact absurd h (by simp)
       ·rw [if_neg c4] at h; exact absurd h (by simp)
 ·rw [if_neg q0] at h
  injection h with h
  injection h with _ h
  exact absurd h q0
/-- A box of a node at block g beside the row v. -/
structure Bx (w : World) (g : Nat) (v : Value) (xs : List S34) (cs : Array Value) (W : World) : Prop where
 ge : w.heap.size ≤ g
 r : Kd.R k34 34 W w.heap.size (fun k => True ∧ k ≠ g) v xs
 b : Below w.heap.size w W
 k : W.heap[g]? = some (.cells cs 34 (0, 0))
theorem bx_new {w W : World} {v : Value} {xs : List S34} (ho : Kd.R k34 34 W w.heap.size (fun _ => True) v xs) (hb : Below w.heap.size w W) (cs : Array Value) : Bx w W.heap.size v xs cs (W.alloc (.cells cs 34)) :=
 ⟨below_size hb, Kd.R_alloc (Kd.R_elderB ho _ (Nat.le_refl _)) _, ba hb _, blk_new _ _⟩
theorem bx_call {w W W1 : World} {g : Nat} {v : Value} {xs : List S34} {cs : Array Value} (h : Bx w g v xs cs W) (hb : Below W.heap.size W W1) : Bx w g v xs cs W1 :=
 ⟨h.ge, Kd.R_below h.r hb, h.b.trans (hb.mono h.b.size), blk_below h.k hb⟩
theorem bx_set {w W : World} {g : Nat} {v : Value} {xs : List S34} {cs : Array Value} (h : Bx w g v xs cs W) (i : Nat) (u : Value) : Bx w g v xs (cs.setIfInBounds i u) (W.setCell ⟨g, i, none⟩ u) :=
 ⟨h.ge, Kd.R_far h.r (fun _ hk => hk.2) u, below_set h.b h.ge, blk_set h.k i u⟩
theorem bx_append {ops : Array Oper} {rest : List Oper} {o : Oper} {a : Act} {Q : Exit → Act → World → Prop} {w W : World} {g : Nat} {v : Value} {xs : List S34} {cs : Array Value} {a0 a1 a2 a3 a4 a5 : Int} (s x : Operand) (P : Bx w g v xs cs W) (hl : xs.length < 2932031007402) (hgd : o.guard = none) (ho : o.op = .call { callee := .builtin .append, args := #[s, x], argTypes := #[22, 22] })
  (hs : a.eval s = v) (hx : a.eval x = .slice (some ⟨W.heap.size, 0, none⟩) 1 1)
  (h : ∀ v1 w1, Kd.R k34 34 w1 w.heap.size (fun _ => True) v1 (xs ++ [(⟨a0, a1, a2, a3, a4, a5⟩ : S34)]) → Below w.heap.size w w1 → wpList Try.prog ops Q rest (a.put o.dst v1) w1) :
  wpList Try.prog ops Q (o :: rest) a (W.alloc (.cells #[.int .i64 a0, .int .i64 a1, .int .i64 a2, .int .i64 a3, .int .i64 a4, .int .i64 a5] 34)) :=
 Kd.R_append k34 (w0 := w) w.heap.size hgd s x 22 34 zN 48 ho Try.underlying22 info34 rfl (by decide) (by omega) v xs ⟨a0, a1, a2, a3, a4, a5⟩ [.int .i64 a0, .int .i64 a1, .int .i64 a2, .int .i64 a3, .int .i64 a4, .int .i64 a5] (fun k => True ∧ k ≠ g) (fun _ => False) hs hx (k34_mkM _ _ _ ⟨a0, a1, a2, a3, a4, a5⟩) (fun _ hk => hk.elim) (fun k hk => ⟨trivial, Kd.freshB P.k k hk⟩) P.r P.b (below_size P.b) (by omega) (fun v1 w1 ho hb _ _ => h v1 w1 (Kd.R_drop ho) hb)
theorem bx_cells {w W : World} {g : Nat} {v : Value} {xs : List S34} {a b c d e f : Value} (h : Bx w g v xs #[a, b, c, d, e, f] W) : W.cell? ⟨g, 0, none⟩ = some a ∧ W.cell? ⟨g, 1, none⟩ = some b ∧ W.cell? ⟨g, 2, none⟩ = some c ∧ W.cell? ⟨g, 3, none⟩ = some d ∧ W.cell? ⟨g, 4, none⟩ = some e ∧ W.cell? ⟨g, 5, none⟩ = some f ∧ W.frozen? ⟨g, 4, none⟩ = false ∧ W.frozen? ⟨g, 5, none⟩ = false :=
 ⟨(blk_cell h.k 0).trans rfl, (blk_cell h.k 1).trans rfl, (blk_cell h.k 2).trans rfl, (blk_cell h.k 3).trans rfl, (blk_cell h.k 4).trans rfl, (blk_cell h.k 5).trans rfl, blk_frozen h.k 4, blk_frozen h.k 5⟩
set_option maxHeartbeats 4000000 in
set_option maxRecDepth 100000 in
theorem graft_good (k : Nat) (A0 : Option Addr) (c0 : Nat) (l0 : List S34) (a1 : Int) (A2 : Option Addr) (c2 : Nat) (l2 : List S34) (r1 : List S34) (w : World) (hr0 : Kd.C k34 w A0 l0.length l0) (hc0 : l0.length ≤ c0) (hr2 : Kd.C k34 w A2 l2.length l2) (hc2 : l2.length ≤ c2) (h : table_Graft.f k l0 a1 l2 = some (r1, 0)) :
  Calls Try.prog 39 #[.slice A0 l0.length c0, .int .i64 a1, .slice A2 l2.length c2] w fun e w' => ∃ v0_ : Value, e = .returned (.tuple #[v0_, .int .i64 0]) ∧ Kd.R k34 34 w' w.heap.size (fun _ => True) v0_ r1 ∧ Below w.heap.size w w' := by
 obtain ⟨k1, s, h1, rfl, h2, h3, h4, h5, h6⟩ := graft_j0 h
 have hu34 := Try.underlying34
 have HR0 := Am hr0
 have HC0 := Am hc0
 have HR2 := Am hr2
 have HC2 := Am hc2
 have H1 := Am h1
 have H4 := Am h4
 have H6 := Am h6
 have p1 : decide (a1 < 0) = false := decide_eq_false (by omega)
 have p2 : decide (a1 ≥ (l0.length : Int)) = false := decide_eq_false (by omega)
 have p3 : decide (wrap64 ((wrap64 ((l0.length : Int) - (s.length : Int))) + (l2.length : Int)) > 100000) = false := decide_eq_false (by omega)
 clear hr0 hc0 hr2 hc2 h h1 h2 h3 h4 h5 h6
 go_enter Try.func39, Try.ntmps39
 go_wp2_with (fail)
 refine (table_both.calls _ A0 c0 l0 A2 c2 l2 0 _ HR0.out HC0.out HR2.out HC2.out H1.out).mono ?_
 rintro e w1 ⟨rfl, hb⟩
 have HB := Am hb
 clear hb
 go_wp2_with (fail)
 refine (table_order.calls k1 A0 c0 l0 a1 s _ (Kd.C_below HR0.out HB.out) HC0.out H4.out).mono ?_
 rintro e w2 ⟨v1, rfl, ho, hb⟩
 obtain ⟨As, cs, rfl⟩ := Kd.R_slice ho
 have HB2 := Am (HB.out.trans (hb.mono HB.out.size))
 clear ho hb HB H4
 rcases H6.out with ⟨rfl, h7⟩ | ⟨h0, h7, h8, h9⟩
 ·have H7 := Am h7
  clear h7 H6
  go_wp2_with (fail)
  refine (table_sub.calls k1 A2 c2 l2 0 r1 _ (Kd.C_below HR2.out HB2.out) HC2.out H7.out).mono ?_
  rintro e w4 ⟨v6, rfl, ho, hb⟩
  have HO2 := Am (Kd.R_lower ho HB2.out.size)
  have HB3 := Am (HB2.out.trans (hb.mono HB2.out.size))
  clear ho hb
  go_wp2
  go_ret2
  exact ⟨_, rfl, HO2.out, HB3.out⟩
 ·have H9 := Am h9
  have H8 := Am (And.intro h7 h8)
  have p4 : (a1 == 0) = false := beq_eq_false_iff_ne.2 h0
  clear H6 h7 h8 h9
  go_wp2_with ((with_reducible refine gate_dst (N := 48) rfl ?_); refine Kd.R_makecap k34 _ 34 rfl (N := 48) rfl 22 _ _ rfl (wrap64 ((l0.length : Int) + l2.length)) rfl rfl Try.underlying22 zN 48 info34 rfl (by decide) (by omega) z34 (ok := fun _ => True) (okp := fun _ => True) (k34_mkM _ _ _ z34) (fun _ hk => hk) trivial (by have := H8.out.1; omega) (by have := H8.out.2; omega) (Below.refl _ _) (Nat.le_refl _) ?_; intro v9 w3 ho hb hg_ hnew_)
  have HO := Am (Kd.R_lower ho HB2.out.size)
  have HB3 := Am (HB2.out.trans (hb.mono HB2.out.size))
  clear ho hb hg_ hnew_ HB2
  go_wp2
  go_loopg [9, 51] k1 (fun kq v9 v w' => ∃ (x9 : List S34) (i : Int), v = .int .i64 i ∧ Aside0 (table_Graft.l0 kq l0 a1 l2 x9 l0 l0.length i = some (r1, 0)) ∧ Aside0 (Kd.R k34 34 w' w.heap.size (fun _ => True) v9 x9) ∧ Aside0 (Below w.heap.size w w'))
  case atStart => exact ⟨[], 0, rfl, H9, HO, HB3⟩
  case round =>
   clear H9 HO HB3
   obtain ⟨x9, i, rfl, HA, HO, HB⟩ := hrel
   cases gk with
   | zero => exact absurd HA.out (by simp [table_Graft.l0])
   | succ kq1 =>
    by_cases q1 : i < (l0.length : Int)
    ·obtain ⟨i, rfl⟩ := graft_n0 q1 HA.out
     obtain ⟨e4, e5, q2, hA, hD⟩ := graft_l0s (show i < l0.length by omega) HA.out
     have LM := Am q2
     have HA' := Am hA
     obtain ⟨ad, rfl, hz⟩ := rd_cells HR0.out (show i < l0.length by omega)
     obtain ⟨z0, z1, z2, z3, z4, z5⟩ := hz _ HB.out
     have p5 : (0 ≤ (i : Int)) = True := eq_true (by omega)
     have p6 : ((i : Int) < (l0.length : Int)) = True := eq_true q1
     have p7 : decide ((i : Int) < (l0.length : Int)) = true := decide_eq_true q1
     clear HA q1 q2 hA hz
     generalize l0.getD i z34 = n at *
     rcases hD with ⟨hL, rfl, rfl⟩ | ⟨hL, b4, b5, h4, h5, rfl, rfl⟩
     ·go_wp2_with (fail)
      refine (table_isLeaf.calls _ _ _ _ _ _ true _ hL).mono ?_
      rintro e w3 ⟨rfl, hb⟩
      have BX := Am (bx_call (bx_new HO.out HB.out _) hb)
      obtain ⟨y0, y1, y2, y3, y4, y5, y6, y7⟩ := bx_cells BX.out
      clear hL hb z0 z1 z2 z3 z4 z5 HO HB
      generalize wr.heap.size = g at *
      go_wp2_with ((with_reducible refine gate_builtin (b := .append) (xs := #[.tmp 72, .tmp 74]) rfl ?_); at_builtin; (apply bx_append (.tmp 72) (.tmp 74) (g := g) (hl := LM.out)); (case P => first | exact BX.out | exact bx_set BX.out _ _ | exact bx_set (bx_set BX.out _ _) _ _); (case hgd => rfl); (case ho => rfl); (case hs => rfl); (case hx => first | rfl | (go_simp; done) | (go_simp; rfl)); intro v6 w4 ho hb)
      have HO2 := Am ho
      have HB2 := Am hb
      clear ho hb y0 y1 y2 y3 y4 y5 y6 y7 BX
      go_wp2
      go_roundg kq1
      case measure => omega
      case rel => exact ⟨_, _, rfl, HA', HO2, HB2⟩
     ·go_wp2_with (fail)
      refine (table_isLeaf.calls _ _ _ _ _ _ false _ hL).mono ?_
      rintro e w3 ⟨rfl, hb⟩
      have BX := Am (bx_call (bx_new HO.out HB.out _) hb)
      obtain ⟨y0, y1, y2, y3, y4, y5, y6, y7⟩ := bx_cells BX.out
      clear hL hb z0 z1 z2 z3 z4 z5 HO HB
      generalize wr.heap.size = g at *
      cases b4 <;> cases b5
      all_goals
       simp only [if_true, if_false, Bool.false_eq_true, if_pos, if_neg] at HA'
       go_wp2_with ((with_reducible refine gate_builtin (b := .append) (xs := #[.tmp 72, .tmp 74]) rfl ?_); at_builtin; (apply bx_append (.tmp 72) (.tmp 74) (g := g) (hl := LM.out)); (case P => first | exact BX.out | exact bx_set BX.out _ _ | exact bx_set (bx_set BX.out _ _) _ _); (case hgd => rfl); (case ho => rfl); (case hs => rfl); (case hx => first | rfl | (go_simp; done) | (go_simp; rfl)); intro v6 w4 ho hb)
       have HO2 := Am ho
       have HB2 := Am hb
       clear ho hb y0 y1 y2 y3 y4 y5 y6 y7 BX
       go_wp2
       go_roundg kq1
       case measure => omega
       case rel => exact ⟨_, _, rfl, HA', HO2, HB2⟩
    ·have p7 : decide (i < (l0.length : Int)) = false := decide_eq_false q1
     have HA' := Am HA.out
     rw [table_Graft.l0, if_neg q1] at HA'
     clear HA q1
     go_wp2
     go_loopg [9, 79] kq1 (fun kq v9 v w' => ∃ (x9 : List S34) (i : Int), v = .int .i64 i ∧ Aside0 (table_Graft.l1 kq l0 x9 l2 l2.length i = some (r1, 0)) ∧ Aside0 (Kd.R k34 34 w' w.heap.size (fun _ => True) v9 x9) ∧ Aside0 (Below w.heap.size w w'))
     case atStart => exact ⟨x9, 0, rfl, HA', HO, HB⟩
     case round =>
      clear HA' HO HB
      obtain ⟨x9, i, rfl, HA, HO, HB⟩ := hrel
      cases gk with
      | zero => exact absurd HA.out (by simp [table_Graft.l1])
      | succ kq2 =>
       by_cases q1 : i < (l2.length : Int)
       ·obtain ⟨i, rfl⟩ := graft_n1 q1 HA.out
        obtain ⟨e4, e5, q2, hA, hD⟩ := graft_l1s (show i < l2.length by omega) HA.out
        have LM := Am q2
        have HA' := Am hA
        obtain ⟨ad, rfl, hz⟩ := rd_cells HR2.out (show i < l2.length by omega)
        obtain ⟨z0, z1, z2, z3, z4, z5⟩ := hz _ HB.out
        have p5 : (0 ≤ (i : Int)) = True := eq_true (by omega)
        have p6 : ((i : Int) < (l2.length : Int)) = True := eq_true q1
        have p7 : decide ((i : Int) < (l2.length : Int)) = true := decide_eq_true q1
        clear HA q1 q2 hA hz
        generalize l2.getD i z34 = n at *
        rcases hD with ⟨hL, rfl, rfl⟩ | ⟨hL, rfl, rfl⟩
        ·go_wp2_with (fail)
         refine (table_isLeaf.calls _ _ _ _ _ _ true _ hL).mono ?_
         rintro e w3 ⟨rfl, hb⟩
         have BX := Am (bx_call (bx_new HO.out HB.out _) hb)
         obtain ⟨y0, y1, y2, y3, y4, y5, y6, y7⟩ := bx_cells BX.out
         clear hL hb z0 z1 z2 z3 z4 z5 HO HB
         generalize wr.heap.size = g at *
         go_wp2_with ((with_reducible refine gate_builtin (b := .append) (xs := #[.tmp 98, .tmp 100]) rfl ?_); at_builtin; (apply bx_append (.tmp 98) (.tmp 100) (g := g) (hl := LM.out)); (case P => first | exact BX.out | exact bx_set BX.out _ _ | exact bx_set (bx_set BX.out _ _) _ _); (case hgd => rfl); (case ho => rfl); (case hs => rfl); (case hx => first | rfl | (go_simp; done) | (go_simp; rfl)); intro v6 w4 ho hb)
         have HO2 := Am ho
         have HB2 := Am hb
         clear ho hb y0 y1 y2 y3 y4 y5 y6 y7 BX
         go_wp2
         go_roundg kq2
         case measure => omega
         case rel => exact ⟨_, _, rfl, HA', HO2, HB2⟩
        ·go_wp2_with (fail)
         refine (table_isLeaf.calls _ _ _ _ _ _ false _ hL).mono ?_
         rintro e w3 ⟨rfl, hb⟩
         have BX := Am (bx_call (bx_new HO.out HB.out _) hb)
         obtain ⟨y0, y1, y2, y3, y4, y5, y6, y7⟩ := bx_cells BX.out
         clear hL hb z0 z1 z2 z3 z4 z5 HO HB
         generalize wr.heap.size = g at *
         go_wp2_with ((with_reducible refine gate_builtin (b := .append) (xs := #[.tmp 98, .tmp 100]) rfl ?_); at_builtin; (apply bx_append (.tmp 98) (.tmp 100) (g := g) (hl := LM.out)); (case P => first | exact BX.out | exact bx_set BX.out _ _ | exact bx_set (bx_set BX.out _ _) _ _); (case hgd => rfl); (case ho => rfl); (case hs => rfl); (case hx => first | rfl | (go_simp; done) | (go_simp; rfl)); intro v6 w4 ho hb)
         have HO2 := Am ho
         have HB2 := Am hb
         clear ho hb y0 y1 y2 y3 y4 y5 y6 y7 BX
         go_wp2
         go_roundg kq2
         case measure => omega
         case rel => exact ⟨_, _, rfl, HA', HO2, HB2⟩
       ·have p7 : decide (i < (l2.length : Int)) = false := decide_eq_false q1
        rw [table_Graft.l1, if_neg q1] at HA
        obtain ⟨s9, hs, H⟩ := Option.bind_eq_some_iff.1 HA.out
        injection H with H
        injection H with h1 _
        subst h1
        obtain ⟨Ao, co, rfl⟩ := Kd.R_slice HO.out
        have HS := Am hs
        clear hs q1 HA
        go_wp2_with (fail)
        refine (table_sub.calls kq2 _ _ x9 0 _ _ (Kd.R_reads' HO.out).2.2 (Kd.R_reads' HO.out).2.1 HS.out).mono ?_
        rintro e w4 ⟨v6, rfl, ho, hb⟩
        have HO2 := Am (Kd.R_lower ho HB.out.size)
        have HB2 := Am (HB.out.trans (hb.mono HB.out.size))
        clear ho hb
        go_wp2
        go_ret2
        exact ⟨_, rfl, HO2.out, HB2.out⟩
end Go.Proofs.Ytgleaefhflamnaa.T
/- table.Ordered. -/
namespace Go.Proofs.Ytgleaefhflamnaa.T
open Go.RowKit Go.Proofs.YtgleaefhflamnaaW.PrintWords Go.Proofs.YtgleaefhflamnaaW.PrintLast Go.Proofs.YtgleaefhflamnaaW.PrintMore
set_option linter.unusedVariables false
set_option linter.unusedSimpArgs false
def lB (n : S34) (b : S125) : S125 := if n.f1 = 0 then (if b.f3 = false ∨ n.f0 < b.f1 then ⟨b.f0, n.f0, b.f2, true⟩ else b) else b
def rB (n : S34) (b : S125) : S125 := if n.f1 = 0 then (if b.f2 = false ∨ n.f0 > b.f0 then ⟨n.f0, b.f1, true, b.f3⟩ else b) else b
def outB (n : S34) (b : S125) (s : Bool) : Bool := n.f1 == 0 && (s || (b.f2 && decide (n.f0 < b.f0)) || (b.f3 && decide (n.f0 ≥ b.f1)))
def ordL (t : List S34) : List Int → List S125 → List Bool → Bool
 | [], _, _ => true
 | p :: ps, A, B => if (t.getD p.toNat z34).f4 = -1 ∧ (t.getD p.toNat z34).f5 = -1 then (if outB (t.getD p.toNat z34) (A.getD p.toNat z125) (B.getD p.toNat false) then false else ordL t ps A B)
  else ordL t ps ((A.set (t.getD p.toNat z34).f4.toNat (lB (t.getD p.toNat z34) (A.getD p.toNat z125))).set (t.getD p.toNat z34).f5.toNat (rB (t.getD p.toNat z34) (A.getD p.toNat z125)))
   ((B.set (t.getD p.toNat z34).f4.toNat (B.getD p.toNat false)).set (t.getD p.toNat z34).f5.toNat (B.getD p.toNat false || (t.getD p.toNat z34).f1 == 1))
theorem ordL_at {t : List S34} {j : Nat} {ps : List Int} {A : List S125} {B : List Bool} {n : S34} {b : S125} {s E : Bool} (h : ordL t ((j : Int) :: ps) A B = E) (hn : t.getD j z34 = n) (hb : A.getD j z125 = b) (hs : B.getD j false = s) :
  (n.f4 = -1 ∧ n.f5 = -1 → (outB n b s = true → E = false) ∧ (outB n b s = false → ordL t ps A B = E)) ∧ (¬ (n.f4 = -1 ∧ n.f5 = -1) → ordL t ps ((A.set n.f4.toNat (lB n b)).set n.f5.toNat (rB n b)) ((B.set n.f4.toNat s).set n.f5.toNat (s || n.f1 == 1)) = E) := by
 subst hn hb hs
 rw [ordL, Int.toNat_natCast] at h
 refine ⟨fun hl => ?_, fun hl => ?_⟩
 ·rw [if_pos hl] at h
  exact ⟨fun ho => by rw [if_pos ho] at h; exact h.symm, fun ho => by rw [ho, if_neg (by simp)] at h; exact h⟩
 ·rw [if_neg hl] at h; exact h
/-- The three rows of the loop. -/
structure Os (w : World) (n ga ca gs cs : Nat) (Ap : Option Addr) (cp : Nat) (ps : List Int) (A : List S125) (B : List Bool) (W : World) : Prop where
 b : Below w.heap.size w W
 la : A.length = n
 lb : B.length = n
 ra : Kd.R k125 125 W w.heap.size (fun _ => True) (.slice (some ⟨ga, 0, none⟩) n ca) A
 rb : Kd.R Kd.bool 4 W w.heap.size (fun _ => True) (.slice (some ⟨gs, 0, none⟩) n cs) B
 rp : Kd.R (Kd.int .i64) 3 W w.heap.size (fun _ => True) (.slice Ap ps.length cp) ps
abbrev zB : Value := .agg #[.int .i64 0, .int .i64 0, .bool false, .bool false]
section
variable {w W W1 : World} {n ga ca gs cs cp : Nat} {Ap : Option Addr} {ps : List Int} {A : List S125} {B : List Bool}
theorem os_below (h : Os w n ga ca gs cs Ap cp ps A B W) (hb : Below W.heap.size W W1) : Os w n ga ca gs cs Ap cp ps A B W1 :=
 ⟨h.b.trans (hb.mono h.b.size), h.la, h.lb, Kd.R_below h.ra hb, Kd.R_below h.rb hb, Kd.R_below h.rp hb⟩
theorem os_box (h : Os w n ga ca gs cs Ap cp ps A B W) {g t : Nat} {c : Array Value} (hg : w.heap.size ≤ g) (hb : W.heap[g]? = some (.cells c t (0, 0))) (hne : g ≠ ga) (h4 : (4 == t) = false) (h3 : (3 == t) = false) (i : Nat) (u : Value) :
  Os w n ga ca gs cs Ap cp ps A B (W.setCell ⟨g, i, none⟩ u) :=
 ⟨below_set h.b hg, h.la, h.lb, Kd.R_drop (Kd.R_far (p := ⟨g, i, none⟩) (Kd.R_far1 h.ra rfl (g := g) (by simpa [Value.ownBlock] using hne)) (fun _ hk => hk.2) u),
  Kd.R_set h.rb hb (fun q hq => by
   rcases List.mem_cons.1 hq with rfl | hq
   ·simpa using h4
   ·exact absurd hq (by simp [show Kd.bool.E = [] from rfl])) i u,
  Kd.R_set h.rp hb (fun q hq => by
   rcases List.mem_cons.1 hq with rfl | hq
   ·simpa using h3
   ·exact absurd hq (by simp [show (Kd.int .i64).E = [] from rfl])) i u⟩
theorem os_a (h : Os w n ga ca gs cs Ap cp ps A B W) {j : Nat} (hj : j < n) :
  W.cell? ⟨ga, j * 4, none⟩ = some (.int .i64 (A.getD j z125).f0) ∧ W.cell? ⟨ga, j * 4 + 1, none⟩ = some (.int .i64 (A.getD j z125).f1) ∧ W.cell? ⟨ga, j * 4 + 2, none⟩ = some (.bool (A.getD j z125).f2) ∧ W.cell? ⟨ga, j * 4 + 3, none⟩ = some (.bool (A.getD j z125).f3) ∧
  W.frozen? ⟨ga, j * 4, none⟩ = false ∧ W.frozen? ⟨ga, j * 4 + 1, none⟩ = false ∧ W.frozen? ⟨ga, j * 4 + 2, none⟩ = false ∧ W.frozen? ⟨ga, j * 4 + 3, none⟩ = false := by
 obtain ⟨ce, hcl, hM, hcc, hfr⟩ := Kd.R_elem h.ra z125 (j : Int) (by omega) (by omega)
 obtain rfl := k125_openM hM
 exact ⟨hcc 0 _ rfl, hcc 1 _ rfl, hcc 2 _ rfl, hcc 3 _ rfl, hfr 0, hfr 1, hfr 2, hfr 3⟩
theorem os_b (h : Os w n ga ca gs cs Ap cp ps A B W) {j : Nat} (hj : j < n) : W.cell? ⟨gs, j, none⟩ = some (.bool (B.getD j false)) ∧ W.frozen? ⟨gs, j, none⟩ = false := by
 have := Kd.R_celln false h.rb (j : Int) (by omega) (by omega)
 exact this
theorem os_ga (h : Os w n ga ca gs cs Ap cp ps A B W) (hn : 0 < n) : w.heap.size ≤ ga ∧ ∃ c, W.heap[ga]? = some (.cells c 125 (0, 0)) := by
 obtain ⟨g', c', e, h1, _, h2⟩ := Kd.R_form h.ra (by rw [h.la]; omega)
 injection e with e1 _ _
 injection e1 with e1
 injection e1 with e1 _ _
 rw [e1]; exact ⟨h1, h2⟩
theorem os_gs (h : Os w n ga ca gs cs Ap cp ps A B W) (hn : 0 < n) : w.heap.size ≤ gs ∧ ∃ c, W.heap[gs]? = some (.cells c 4 (0, 0)) := by
 obtain ⟨g', c', e, h1, _, h2⟩ := Kd.R_form h.rb (by rw [h.lb]; omega)
 injection e with e1 _ _
 injection e1 with e1
 injection e1 with e1 _ _
 rw [e1]; exact ⟨h1, h2⟩
theorem os_setA (h : Os w n ga ca gs cs Ap cp ps A B W) {j : Nat} (hj : j < n) (x : S125) :
  Os w n ga ca gs cs Ap cp ps (A.set j x) B ((((W.setCell ⟨ga, j * 4, none⟩ (.int .i64 x.f0)).setCell ⟨ga, j * 4 + 1, none⟩ (.int .i64 x.f1)).setCell ⟨ga, j * 4 + 2, none⟩ (.bool x.f2)).setCell ⟨ga, j * 4 + 3, none⟩ (.bool x.f3)) ∧
  ∀ g o, W.heap[g]? = some o → g ≠ ga → ((((W.setCell ⟨ga, j * 4, none⟩ (.int .i64 x.f0)).setCell ⟨ga, j * 4 + 1, none⟩ (.int .i64 x.f1)).setCell ⟨ga, j * 4 + 2, none⟩ (.bool x.f2)).setCell ⟨ga, j * 4 + 3, none⟩ (.bool x.f3)).heap[g]? = some o := by
 obtain ⟨ce, hcl, hM, hcc, hfr⟩ := Kd.R_elem h.ra z125 (j : Int) (by omega) (by omega)
 obtain ⟨hs, hgr⟩ := Kd.R_seg h.ra (j : Int) (by omega) (by omega) (seg := [.int .i64 x.f0, .int .i64 x.f1, .bool x.f2, .bool x.f3]) (j := 0) hcl hcc (show 4 ≤ 4 from by decide) (x' := x) (okp := fun _ => False) (by
  obtain rfl := k125_openM hM
  exact k125_mkM _ _ _ x) (fun _ hk => hk.elim)
 obtain ⟨hga, cl, hcl⟩ := os_ga h (by omega)
 have t4 : ∀ q, q ∈ 4 :: Kd.bool.E → q ≠ 125 := fun q hq => by
  rcases List.mem_cons.1 hq with rfl | hq
  ·decide
  ·exact absurd hq (by simp [show Kd.bool.E = [] from rfl])
 have t3 : ∀ q, q ∈ 3 :: (Kd.int .i64).E → q ≠ 125 := fun q hq => by
  rcases List.mem_cons.1 hq with rfl | hq
  ·decide
  ·exact absurd hq (by simp [show (Kd.int .i64).E = [] from rfl])
 have b1 := blk_set hcl (j * 4) (.int .i64 x.f0)
 have b2 := blk_set b1 (j * 4 + 1) (.int .i64 x.f1)
 have b3 := blk_set b2 (j * 4 + 2) (.bool x.f2)
 refine ⟨⟨below_set (below_set (below_set (below_set h.b hga) hga) hga) hga, by rw [List.length_set]; exact h.la, h.lb, hs, ?_, ?_⟩, fun g o hg hne => ?_⟩
 ·exact Kd.R_set (Kd.R_set (Kd.R_set (Kd.R_set h.rb hcl t4 _ _) b1 t4 _ _) b2 t4 _ _) b3 t4 _ _
 ·exact Kd.R_set (Kd.R_set (Kd.R_set (Kd.R_set h.rp hcl t3 _ _) b1 t3 _ _) b2 t3 _ _) b3 t3 _ _
 ·exact (Below.heap_setCell _ _ _ _ hne).trans ((Below.heap_setCell _ _ _ _ hne).trans ((Below.heap_setCell _ _ _ _ hne).trans ((Below.heap_setCell _ _ _ _ hne).trans hg)))
theorem os_setB (h : Os w n ga ca gs cs Ap cp ps A B W) {j : Nat} (hj : j < n) (x : Bool) :
  Os w n ga ca gs cs Ap cp ps A (B.set j x) (W.setCell ⟨gs, j, none⟩ (.bool x)) ∧ ∀ g o, W.heap[g]? = some o → g ≠ gs → (W.setCell ⟨gs, j, none⟩ (.bool x)).heap[g]? = some o := by
 obtain ⟨hgs, cl, hcl⟩ := os_gs h (by omega)
 have t1 : ∀ q, q ∈ 125 :: k125.E → q ≠ 4 := fun q hq => by
  rcases List.mem_cons.1 hq with rfl | hq
  ·decide
  ·exact absurd hq (by simp [show k125.E = [] from rfl])
 have t3 : ∀ q, q ∈ 3 :: (Kd.int .i64).E → q ≠ 4 := fun q hq => by
  rcases List.mem_cons.1 hq with rfl | hq
  ·decide
  ·exact absurd hq (by simp [show (Kd.int .i64).E = [] from rfl])
 exact ⟨⟨below_set h.b hgs, h.la, by rw [List.length_set]; exact h.lb, Kd.R_set h.ra hcl t1 _ _, Kd.R_putn h.rb (j : Int) x, Kd.R_set h.rp hcl t3 _ _⟩, fun g o hg hne => (Below.heap_setCell _ _ _ _ hne).trans hg⟩
/-- With the node's box and the bounds' box. -/
structure Ob (w : World) (n ga ca gs cs : Nat) (Ap : Option Addr) (cp : Nat) (ps : List Int) (A : List S125) (B : List Bool) (g9 g10 : Nat) (c9 c10 : Array Value) (W : World) : Prop where
 os : Os w n ga ca gs cs Ap cp ps A B W
 k9 : W.heap[g9]? = some (.cells c9 34 (0, 0))
 k10 : W.heap[g10]? = some (.cells c10 125 (0, 0))
 h9 : w.heap.size ≤ g9
 h10 : w.heap.size ≤ g10
 d9 : g9 ≠ ga
 d10 : g10 ≠ ga
theorem ob_below {g9 g10 : Nat} {c9 c10 : Array Value} (h : Ob w n ga ca gs cs Ap cp ps A B g9 g10 c9 c10 W) (hb : Below W.heap.size W W1) : Ob w n ga ca gs cs Ap cp ps A B g9 g10 c9 c10 W1 :=
 ⟨os_below h.os hb, blk_below h.k9 hb, blk_below h.k10 hb, h.h9, h.h10, h.d9, h.d10⟩
theorem ob_9 {g9 g10 : Nat} {c9 c10 : Array Value} (h : Ob w n ga ca gs cs Ap cp ps A B g9 g10 c9 c10 W) (i : Nat) (u : Value) : Ob w n ga ca gs cs Ap cp ps A B g9 g10 (c9.setIfInBounds i u) c10 (W.setCell ⟨g9, i, none⟩ u) :=
 ⟨os_box h.os h.h9 h.k9 h.d9 rfl rfl i u, blk_set h.k9 i u, blk_far h.k10 (blk_ne h.k10 h.k9 (by decide)) u, h.h9, h.h10, h.d9, h.d10⟩
theorem ob_10 {g9 g10 : Nat} {c9 c10 : Array Value} (h : Ob w n ga ca gs cs Ap cp ps A B g9 g10 c9 c10 W) (i : Nat) (u : Value) : Ob w n ga ca gs cs Ap cp ps A B g9 g10 c9 (c10.setIfInBounds i u) (W.setCell ⟨g10, i, none⟩ u) :=
 ⟨os_box h.os h.h10 h.k10 h.d10 rfl rfl i u, blk_far h.k9 (blk_ne h.k9 h.k10 (by decide)) u, blk_set h.k10 i u, h.h9, h.h10, h.d9, h.d10⟩
theorem ob_cells9 {g9 g10 : Nat} {a b c d e f : Value} {c10 : Array Value} (h : Ob w n ga ca gs cs Ap cp ps A B g9 g10 #[a, b, c, d, e, f] c10 W) : W.cell? ⟨g9, 0, none⟩ = some a ∧ W.cell? ⟨g9, 1, none⟩ = some b ∧ W.cell? ⟨g9, 2, none⟩ = some c ∧ W.cell? ⟨g9, 3, none⟩ = some d ∧ W.cell? ⟨g9, 4, none⟩ = some e ∧ W.cell? ⟨g9, 5, none⟩ = some f ∧ W.frozen? ⟨g9, 0, none⟩ = false ∧ W.frozen? ⟨g9, 1, none⟩ = false ∧ W.frozen? ⟨g9, 2, none⟩ = false ∧ W.frozen? ⟨g9, 3, none⟩ = false ∧ W.frozen? ⟨g9, 4, none⟩ = false ∧ W.frozen? ⟨g9, 5, none⟩ = false :=
 ⟨(blk_cell h.k9 0).trans rfl, (blk_cell h.k9 1).trans rfl, (blk_cell h.k9 2).trans rfl, (blk_cell h.k9 3).trans rfl, (blk_cell h.k9 4).trans rfl, (blk_cell h.k9 5).trans rfl, blk_frozen h.k9 0, blk_frozen h.k9 1, blk_frozen h.k9 2, blk_frozen h.k9 3, blk_frozen h.k9 4, blk_frozen h.k9 5⟩
theorem c4_of {g : Nat} {a b c d : Value} (h : W.heap[g]? = some (.cells #[a, b, c, d] 125 (0, 0))) : W.cell? ⟨g, 0, none⟩ = some a ∧ W.cell? ⟨g, 1, none⟩ = some b ∧ W.cell? ⟨g, 2, none⟩ = some c ∧ W.cell? ⟨g, 3, none⟩ = some d ∧ W.frozen? ⟨g, 0, none⟩ = false ∧ W.frozen? ⟨g, 1, none⟩ = false ∧ W.frozen? ⟨g, 2, none⟩ = false ∧ W.frozen? ⟨g, 3, none⟩ = false :=
 ⟨(blk_cell h 0).trans rfl, (blk_cell h 1).trans rfl, (blk_cell h 2).trans rfl, (blk_cell h 3).trans rfl, blk_frozen h 0, blk_frozen h 1, blk_frozen h 2, blk_frozen h 3⟩
theorem ob_cells10 {g9 g10 : Nat} {a b c d : Value} {c9 : Array Value} (h : Ob w n ga ca gs cs Ap cp ps A B g9 g10 c9 #[a, b, c, d] W) : W.cell? ⟨g10, 0, none⟩ = some a ∧ W.cell? ⟨g10, 1, none⟩ = some b ∧ W.cell? ⟨g10, 2, none⟩ = some c ∧ W.cell? ⟨g10, 3, none⟩ = some d ∧ W.frozen? ⟨g10, 0, none⟩ = false ∧ W.frozen? ⟨g10, 1, none⟩ = false ∧ W.frozen? ⟨g10, 2, none⟩ = false ∧ W.frozen? ⟨g10, 3, none⟩ = false := c4_of h.k10
theorem ob_two {g9 g10 : Nat} {c9 c10 : Array Value} (h : Os w n ga ca gs cs Ap cp ps A B W) (hn : 0 < n) (hb : Below W.heap.size W W1) (k9 : W1.heap[g9]? = some (.cells c9 34 (0, 0))) (k10 : W1.heap[g10]? = some (.cells c10 125 (0, 0))) (h9 : W.heap.size ≤ g9) (h10 : W.heap.size ≤ g10) : Ob w n ga ca gs cs Ap cp ps A B g9 g10 c9 c10 W1 := by
 obtain ⟨_, c, hc⟩ := os_ga h hn
 have := blk_lt hc
 have := h.b.size
 exact ⟨os_below h hb, k9, k10, by omega, by omega, by omega, by omega⟩
theorem os_ab (h : Os w n ga ca gs cs Ap cp ps A B W) {j : Nat} (hj : j < n) {b : S125} (e : A.getD j z125 = b) :
  W.cell? ⟨ga, j * 4, none⟩ = some (.int .i64 b.f0) ∧ W.cell? ⟨ga, j * 4 + 1, none⟩ = some (.int .i64 b.f1) ∧ W.cell? ⟨ga, j * 4 + 2, none⟩ = some (.bool b.f2) ∧ W.cell? ⟨ga, j * 4 + 3, none⟩ = some (.bool b.f3) := by
 subst e
 obtain ⟨h0, h1, h2, h3, -⟩ := os_a h hj
 exact ⟨h0, h1, h2, h3⟩
theorem os_bb (h : Os w n ga ca gs cs Ap cp ps A B W) {j : Nat} (hj : j < n) {s : Bool} (e : B.getD j false = s) : W.cell? ⟨gs, j, none⟩ = some (.bool s) := by
 subst e
 exact (os_b h hj).1
/-- With the two new bounds' boxes too. -/
structure Oc (w : World) (n ga ca gs cs : Nat) (Ap : Option Addr) (cp : Nat) (ps : List Int) (A : List S125) (B : List Bool) (g9 g10 g11 g12 : Nat) (c9 c10 c11 c12 : Array Value) (W : World) : Prop where
 ob : Ob w n ga ca gs cs Ap cp ps A B g9 g10 c9 c10 W
 k11 : W.heap[g11]? = some (.cells c11 125 (0, 0))
 k12 : W.heap[g12]? = some (.cells c12 125 (0, 0))
 h11 : w.heap.size ≤ g11
 h12 : w.heap.size ≤ g12
 d11 : g11 ≠ ga
 d12 : g12 ≠ ga
 e11 : g11 ≠ g10
 e12 : g12 ≠ g10
 e : g11 ≠ g12
variable {g9 g10 g11 g12 : Nat} {c9 c10 c11 c12 : Array Value}
theorem oc_below (h : Oc w n ga ca gs cs Ap cp ps A B g9 g10 g11 g12 c9 c10 c11 c12 W) (hb : Below W.heap.size W W1) : Oc w n ga ca gs cs Ap cp ps A B g9 g10 g11 g12 c9 c10 c11 c12 W1 :=
 ⟨ob_below h.ob hb, blk_below h.k11 hb, blk_below h.k12 hb, h.h11, h.h12, h.d11, h.d12, h.e11, h.e12, h.e⟩
theorem ob_far (h : Ob w n ga ca gs cs Ap cp ps A B g9 g10 c9 c10 W) {g : Nat} {c : Array Value} (k : W.heap[g]? = some (.cells c 125 (0, 0))) (hg : w.heap.size ≤ g) (d : g ≠ ga) (e : g ≠ g10) (i : Nat) (u : Value) : Ob w n ga ca gs cs Ap cp ps A B g9 g10 c9 c10 (W.setCell ⟨g, i, none⟩ u) :=
 ⟨os_box h.os hg k d rfl rfl i u, blk_far h.k9 (blk_ne h.k9 k (by decide)) u, blk_far h.k10 (Ne.symm e) u, h.h9, h.h10, h.d9, h.d10⟩
theorem oc_11 (h : Oc w n ga ca gs cs Ap cp ps A B g9 g10 g11 g12 c9 c10 c11 c12 W) (i : Nat) (u : Value) : Oc w n ga ca gs cs Ap cp ps A B g9 g10 g11 g12 c9 c10 (c11.setIfInBounds i u) c12 (W.setCell ⟨g11, i, none⟩ u) :=
 ⟨ob_far h.ob h.k11 h.h11 h.d11 h.e11 i u, blk_set h.k11 i u, blk_far h.k12 (Ne.symm h.e) u, h.h11, h.h12, h.d11, h.d12, h.e11, h.e12, h.e⟩
theorem oc_12 (h : Oc w n ga ca gs cs Ap cp ps A B g9 g10 g11 g12 c9 c10 c11 c12 W) (i : Nat) (u : Value) : Oc w n ga ca gs cs Ap cp ps A B g9 g10 g11 g12 c9 c10 c11 (c12.setIfInBounds i u) (W.setCell ⟨g12, i, none⟩ u) :=
 ⟨ob_far h.ob h.k12 h.h12 h.d12 h.e12 i u, blk_far h.k11 h.e u, blk_set h.k12 i u, h.h11, h.h12, h.d11, h.d12, h.e11, h.e12, h.e⟩
theorem oc_two (h : Ob w n ga ca gs cs Ap cp ps A B g9 g10 c9 c10 W) (hn : 0 < n) (hb : Below W.heap.size W W1) (k11 : W1.heap[g11]? = some (.cells c11 125 (0, 0))) (k12 : W1.heap[g12]? = some (.cells c12 125 (0, 0))) (h11 : W.heap.size ≤ g11) (h12 : W.heap.size ≤ g12) (e : g11 ≠ g12) : Oc w n ga ca gs cs Ap cp ps A B g9 g10 g11 g12 c9 c10 c11 c12 W1 := by
 obtain ⟨_, c, hc⟩ := os_ga h.os hn
 have := blk_lt hc
 have := blk_lt h.k10
 have := h.os.b.size
 exact ⟨ob_below h hb, k11, k12, by omega, by omega, by omega, by omega, by omega, by omega, e⟩
theorem oc_setA (h : Oc w n ga ca gs cs Ap cp ps A B g9 g10 g11 g12 c9 c10 c11 c12 W) {j : Nat} (hj : j < n) (x : S125) : Oc w n ga ca gs cs Ap cp ps (A.set j x) B g9 g10 g11 g12 c9 c10 c11 c12 ((((W.setCell ⟨ga, j * 4, none⟩ (.int .i64 x.f0)).setCell ⟨ga, j * 4 + 1, none⟩ (.int .i64 x.f1)).setCell ⟨ga, j * 4 + 2, none⟩ (.bool x.f2)).setCell ⟨ga, j * 4 + 3, none⟩ (.bool x.f3)) := by
 obtain ⟨h1, h2⟩ := os_setA h.ob.os hj x
 exact ⟨⟨h1, h2 _ _ h.ob.k9 h.ob.d9, h2 _ _ h.ob.k10 h.ob.d10, h.ob.h9, h.ob.h10, h.ob.d9, h.ob.d10⟩, h2 _ _ h.k11 h.d11, h2 _ _ h.k12 h.d12, h.h11, h.h12, h.d11, h.d12, h.e11, h.e12, h.e⟩
theorem oc_setB (h : Oc w n ga ca gs cs Ap cp ps A B g9 g10 g11 g12 c9 c10 c11 c12 W) {j : Nat} (hj : j < n) (x : Bool) : Oc w n ga ca gs cs Ap cp ps A (B.set j x) g9 g10 g11 g12 c9 c10 c11 c12 (W.setCell ⟨gs, j, none⟩ (.bool x)) := by
 obtain ⟨h1, h2⟩ := os_setB h.ob.os hj x
 obtain ⟨_, c, hc⟩ := os_gs h.ob.os (by omega)
 exact ⟨⟨h1, h2 _ _ h.ob.k9 (blk_ne h.ob.k9 hc (by decide)), h2 _ _ h.ob.k10 (blk_ne h.ob.k10 hc (by decide)), h.ob.h9, h.ob.h10, h.ob.d9, h.ob.d10⟩, h2 _ _ h.k11 (blk_ne h.k11 hc (by decide)), h2 _ _ h.k12 (blk_ne h.k12 hc (by decide)), h.h11, h.h12, h.d11, h.d12, h.e11, h.e12, h.e⟩
theorem gen_wp {P : Program} {c : Code} {Q : Exit → Act → World → Prop} {a : Act} {W : World} (S : World → Prop) (h : S W) (k : ∀ W', S W' → c.wp P Q a W') : c.wp P Q a W := k W h
theorem gen_q {Q : Exit → Act → World → Prop} {e : Exit} {a : Act} {W : World} (S : World → Prop) (h : S W) (k : ∀ W', S W' → Q e a W') : Q e a W := k W h
theorem gen_any {P : Program} {md : Region.Mode} {ops : Array Oper} {Q : Exit → Act → World → Prop} {T : World → Prop} {ds : List Nat} {f : Nat} {l : Array Bool} {a : Act} {W : World} (S : World → Prop) (h : S W) (k : ∀ W', S W' → wpAnyLast P md ops Q T ds f l a W') : wpAnyLast P md ops Q T ds f l a W := k W h
theorem lrB_no {n : S34} (b : S125) (h : (n.f1 == 0) = false) : lB n b = b ∧ rB n b = b := by
 have : ¬ n.f1 = 0 := by simpa using h
 exact ⟨by rw [lB, if_neg this], by rw [rB, if_neg this]⟩
theorem lB_cases {n : S34} (h : (n.f1 == 0) = true) (b : S125) : (b.f3 = false ∧ lB n b = ⟨b.f0, n.f0, b.f2, true⟩) ∨ (b.f3 = true ∧ decide (n.f0 < b.f1) = true ∧ lB n b = ⟨b.f0, n.f0, b.f2, true⟩) ∨ (b.f3 = true ∧ decide (n.f0 < b.f1) = false ∧ lB n b = b) := by
 have : n.f1 = 0 := by simpa using h
 rw [lB, if_pos this]
 cases h3 : b.f3
 ·exact .inl ⟨rfl, if_pos (.inl rfl)⟩
 ·by_cases h4 : n.f0 < b.f1
  ·exact .inr (.inl ⟨rfl, decide_eq_true h4, if_pos (.inr h4)⟩)
  ·exact .inr (.inr ⟨rfl, decide_eq_false h4, if_neg (by simp [h4])⟩)
theorem rB_cases {n : S34} (h : (n.f1 == 0) = true) (b : S125) : (b.f2 = false ∧ rB n b = ⟨n.f0, b.f1, true, b.f3⟩) ∨ (b.f2 = true ∧ decide (n.f0 > b.f0) = true ∧ rB n b = ⟨n.f0, b.f1, true, b.f3⟩) ∨ (b.f2 = true ∧ decide (n.f0 > b.f0) = false ∧ rB n b = b) := by
 have : n.f1 = 0 := by simpa using h
 rw [rB, if_pos this]
 cases h3 : b.f2
 ·exact .inl ⟨rfl, if_pos (.inl rfl)⟩
 ·by_cases h4 : n.f0 > b.f0
  ·exact .inr (.inl ⟨rfl, decide_eq_true h4, if_pos (.inr h4)⟩)
  ·exact .inr (.inr ⟨rfl, decide_eq_false h4, if_neg (by simp [h4])⟩)
theorem gd_set {B : List Bool} {k j : Nat} {s : Bool} (h : B.getD j false = s) : (B.set k s).getD j false = s := by
 by_cases e : k = j
 ·subst e
  by_cases hl : k < B.length
  ·simp only [List.getD, List.getElem?_set_self hl, Option.getD_some]
  ·rw [List.set_eq_of_length_le (by omega)]; exact h
 ·simp only [List.getD, List.getElem?_set_ne e]
  exact h
end
end Go.Proofs.Ytgleaefhflamnaa.T
