/- A part of the proof: see YtgleaefhflamnaaLawStepsKeeps. -/
import Derived.IntWalk
import Derived.Test.YtgleaefhflamnaaZk2
set_option linter.unusedVariables false
set_option linter.unusedSimpArgs false
set_option maxHeartbeats 32000000
set_option maxRecDepth 100000
namespace Go.Proofs.Ytgleaefhflamnaa.T
open Go.RowKit Go.Proofs.YtgleaefhflamnaaW.PrintWords Go.Proofs.YtgleaefhflamnaaW.PrintLast Go.Proofs.YtgleaefhflamnaaW.PrintMore
attribute [local go_sem] Try.underlying24 Try.underlying34 Try.underlying62 Try.underlying111 Try.underlying116
theorem do_ok1 (k : Nat) (A0 : Option Addr) (c0 : Nat) (l0 : List S34) (c : Nat) (kind : Int) (mir : Bool) (r1 : Int) (r2 : List Bool) (w : World) (hr0 : Kd.C k34 w A0 l0.length l0) (hc0 : l0.length ≤ c0)
  (h : steps_keys.f k l0 = some (r1, r2, 0)) (hm : steps_Move_is.f kind mir = some true) (hkd : 1 ≤ kind ∧ kind ≤ 12) (hp1 : (c : Int) < l0.length) (hp2 : (c : Int) < r2.length) (hbel : rdOf false r2 c = true) (ht : OkT l0) (K : Nat) (X : Tr) (hX : mkT l0 K c = some X) (rt : Bool) (hrt : ((c : Int) == r1) = rt) (hrf : rt = true) (hcan : canT mir rt X kind = true) (K1 : Nat) (T1 : Tr) (hT1 : mkR l0 c (setW (doT mir X kind) 1) K1 0 = some T1) (hfull : Full T1) (hsz : sizeT T1 ≤ 1000000) :
  Calls Try.prog 30 #[.slice A0 l0.length c0, .int .i64 c, .agg #[.int .i64 kind, .bool mir]] w fun e w' => DoOK w (flatT T1 0) e w' := by
 have HCAN := Am hcan
 clear hcan
 have HT1 := Am hT1
 have HFULL := Am hfull
 have HSZ := Am hsz
 clear hT1 hfull hsz
 have hxn : X ≠ .nil := by rintro rfl; exact mkT_nil hX
 have HXN := Am hxn
 clear hxn
 have HRF := Am hrf
 clear hrf
 have HR := Am hr0
 have HC := Am hc0
 have H := Am h
 have HM := Am hm
 have HT := Am ht
 have HX := Am hX
 have HKD := Am hkd
 have HBEL := Am hbel
 have hlen : l0.length ≤ 100000 := ht.len
 have hcl : c < l0.length := by omega
 clear hr0 hc0 h hm ht hX hkd hbel
 go_enter Try.func30, Try.ntmps30
 go_wp2_with (fail)
 refine (at_okt k A0 c0 l0 c kind mir r1 r2 _ (Kd.C_below HR.out ((Below.refl _ _).alloc (Nat.le_refl _) _)) HC.out H.out (fun _ => HM.out) (by omega) hp1 hp2 HBEL.out (by omega) (fun i hi h4 => ⟨(HT.out.kids i hi h4).1, (HT.out.kids i hi h4).2.1, (HT.out.kids i hi h4).2.2.1⟩)).mono ?_
 rintro e w2 ⟨wg, rfl, hbg, hfo⟩
 have hbw : Below w.heap.size w wg := ((Below.refl _ _).alloc (Nat.le_refl _) _).trans (hbg.mono (by simp))
 have hg0 : w.heap.size < wg.heap.size := by have h_ := hbg.size; simp at h_; omega
 have hbx0 : wg.cell? ⟨w.heap.size, 0, none⟩ = some (.int .i64 kind) := (hbg.cell (p := ⟨w.heap.size, 0, none⟩) (by simp)).trans (World.cell?_alloc_at _ _ _ _ rfl)
 have hbx1 : wg.cell? ⟨w.heap.size, 1, none⟩ = some (.bool mir) := (hbg.cell (p := ⟨w.heap.size, 1, none⟩) (by simp)).trans (World.cell?_alloc_at _ _ _ _ rfl)
 have HBW := Am hbw
 have HFO := Am hfo
 have HX0 := Am hbx0
 have HX1 := Am hbx1
 have HRX : Aside0 (Rep (fun k_ => SetC wg.heap.size l0 c k_ ∧ k_ < w2.heap.size) w2 (.pointer (some ⟨wg.heap.size + 2 + 2 * c, 0, none⟩)) X) := ⟨(forest_rep hfo HX.out K c X HX.out (Nat.le_refl _)).bound⟩
 have hg2 : wg.heap.size < w2.heap.size := rowIs_lt hfo.ptrs
 have hpc : w2.drew.cell? ⟨wg.heap.size, c, none⟩ = some (.pointer (some ⟨wg.heap.size + 2 + 2 * c, 0, none⟩)) := (rowIs_cell hfo.ptrs c hcl).trans (by rw [if_pos hcl]; rfl)
 have hb0 : w2.drew.cell? ⟨w.heap.size, 0, none⟩ = some (.int .i64 kind) := (hfo.bel.cell (p := ⟨w.heap.size, 0, none⟩) hg0).trans hbx0
 have hb1 : w2.drew.cell? ⟨w.heap.size, 1, none⟩ = some (.bool mir) := (hfo.bel.cell (p := ⟨w.heap.size, 1, none⟩) hg0).trans hbx1
 clear hbg hbw hfo hbx0 hbx1
 go_wp2
 have HPC := Am hpc
 have HB0 := Am hb0
 have HB1 := Am hb1
 refine sT 11 [10] (S := fun w' => w'.cell? ⟨wg.heap.size, c, none⟩ = some (.pointer (some ⟨wg.heap.size + 2 + 2 * c, 0, none⟩)) ∧ w'.cell? ⟨w.heap.size, 0, none⟩ = some (.int .i64 kind) ∧ w'.cell? ⟨w.heap.size, 1, none⟩ = some (.bool mir)) ⟨hpc, hb0, hb1⟩ fun hHeld => ?_
 refine pu 0 26 ?_
 refine pu 1 27 ?_
 refine pu 2 28 ?_
 refine pu 5 31 ?_
 refine pu 6 32 ?_
 refine pu 7 33 ?_
 refine ta 3 29 hHeld ?_
 refine ta 4 30 hHeld ?_
 refine join_ (σ := Nat × Option Addr × Option Addr × Option Addr × Option Addr × Option Addr × Option Addr × Option Addr × Option Addr) 1 #[true, true, true, true, true, true, true, true, true, true, false] (fun s => [(34, .agg #[.bool mir, .pointer (some ⟨wg.heap.size + 2 + 2 * c, 0, none⟩), .pointer s.2.1, .pointer s.2.2.1, .pointer s.2.2.2.1, .pointer s.2.2.2.2.1, .pointer s.2.2.2.2.2.1, .pointer s.2.2.2.2.2.2.1, .pointer s.2.2.2.2.2.2.2.1, .pointer s.2.2.2.2.2.2.2.2, .bool rt]), (11, .pointer (some ⟨s.1, 0, none⟩))]) (fun s w' => Below w2.heap.size w2 w' ∧ w2.heap.size ≤ s.1 ∧ w'.heap[s.1]? = some (.cells #[.bool false, .pointer none, .pointer none, .pointer none, .pointer none, .pointer none, .pointer none, .pointer none, .pointer none, .pointer none, .bool false] 111 (0, 0)) ∧ Rep (fun k_ => SetC wg.heap.size l0 c k_ ∧ k_ < w2.heap.size) w' (.pointer s.2.1) (lT mir X) ∧ Rep (fun k_ => SetC wg.heap.size l0 c k_ ∧ k_ < w2.heap.size) w' (.pointer s.2.2.1) (rT mir X) ∧ Rep (fun k_ => SetC wg.heap.size l0 c k_ ∧ k_ < w2.heap.size) w' (.pointer s.2.2.2.1) (lT mir (lT mir X)) ∧ Rep (fun k_ => SetC wg.heap.size l0 c k_ ∧ k_ < w2.heap.size) w' (.pointer s.2.2.2.2.1) (rT mir (lT mir X)) ∧ Rep (fun k_ => SetC wg.heap.size l0 c k_ ∧ k_ < w2.heap.size) w' (.pointer s.2.2.2.2.2.1) (lT mir (rT mir X)) ∧ Rep (fun k_ => SetC wg.heap.size l0 c k_ ∧ k_ < w2.heap.size) w' (.pointer s.2.2.2.2.2.2.1) (rT mir (rT mir X)) ∧ Rep (fun k_ => SetC wg.heap.size l0 c k_ ∧ k_ < w2.heap.size) w' (.pointer s.2.2.2.2.2.2.2.1) (lT mir (lT mir (rT mir X))) ∧ Rep (fun k_ => SetC wg.heap.size l0 c k_ ∧ k_ < w2.heap.size) w' (.pointer s.2.2.2.2.2.2.2.2) (rT mir (lT mir (rT mir X)))) ?_ ?_
 rotate_left
 ·intro hCont
  refine two_ (i := 8) (j := 9) (Ni := some 34) (Nj := some 11) #[true, true, true, true, true, true, true, true, true, false, false] #[true, true, true, true, true, true, true, true, false, true, false] rfl rfl rfl rfl (by kernel_rfl) (by decide) (by decide) (fun K hK => ?_) (fun K hK => ?_)
  ·skip
   refine gO Try.func63 #[.pointer (some ⟨wg.heap.size + 2 + 2 * c, 0, none⟩), .agg #[.int .i64 kind, .bool mir], .bool rt] ?_
   with_reducible refine (look_any (S := (fun k_ => SetC wg.heap.size l0 c k_ ∧ k_ < w2.heap.size)) _ X _ _ _ _ (by first | exact HRX.out.below ((Below.refl _ _).drew) | exact HRX.out.below HBA.out)).mono ?_
   rintro e wL ⟨pl, pr, pll, plr, prl, prr, pa, pb, rfl, hLb, r1, r2, r3, r4, r5, r6, r7, r8⟩
   refine ⟨_, rfl, ?_⟩
   refine hK.out _ _ ⟨(hLb.cell (blt _ _ hHeld.1)).trans hHeld.1, (hLb.cell (blt _ _ hHeld.2.1)).trans hHeld.2.1, (hLb.cell (blt _ _ hHeld.2.2)).trans hHeld.2.2⟩ (fun hHeld => ?_)
   clear hK K
   refine nm 34 ?_
   refine on 9 11 fun K hK => ?_
   refine box_step (by rfl) (N := 11) rfl (cs := #[.bool false, .pointer none, .pointer none, .pointer none, .pointer none, .pointer none, .pointer none, .pointer none, .pointer none, .pointer none, .bool false]) (t := 111) ?hr ?_
   case hr => first | (go_simp; done) | (go_simp; rfl)
   intro g hg wA hbox hbA
   have hgs : w2.heap.size ≤ g := by rw [hg]; exact hLb.size
   refine hK.out _ _ ⟨(hbA.cell (blt _ _ hHeld.1)).trans hHeld.1, (hbA.cell (blt _ _ hHeld.2.1)).trans hHeld.2.1, (hbA.cell (blt _ _ hHeld.2.2)).trans hHeld.2.2⟩ (fun hHeld => ?_)
   clear hK K
   refine nm 11 ?_
   exact norm_ (by simp only [putAll, Act.put, sI, sZ, sS]) (hCont (g, pl, pr, pll, plr, prl, prr, pa, pb) _ ⟨((Below.refl w2.heap.size w2).drew.trans (hLb.mono (Nat.le_refl _))).trans (hbA.mono hLb.size), hgs, hbox, (r1.below hLb).below hbA, (r2.below hLb).below hbA, (r3.below hLb).below hbA, (r4.below hLb).below hbA, (r5.below hLb).below hbA, (r6.below hLb).below hbA, (r7.below hLb).below hbA, (r8.below hLb).below hbA⟩)
  ·skip
   refine box_step (by rfl) (N := 11) rfl (cs := #[.bool false, .pointer none, .pointer none, .pointer none, .pointer none, .pointer none, .pointer none, .pointer none, .pointer none, .pointer none, .bool false]) (t := 111) ?hr ?_
   case hr => first | (go_simp; done) | (go_simp; rfl)
   intro g hg wA hbox hbA
   have HBA := Am (((Below.refl w2.heap.size w2).drew).trans (hbA.mono (Nat.le_refl _)))
   have hgs : w2.heap.size ≤ g := by rw [hg]; exact Nat.le_refl _
   refine hK.out _ _ ⟨(hbA.cell (blt _ _ hHeld.1)).trans hHeld.1, (hbA.cell (blt _ _ hHeld.2.1)).trans hHeld.2.1, (hbA.cell (blt _ _ hHeld.2.2)).trans hHeld.2.2⟩ (fun hHeld => ?_)
   clear hK K
   refine nm 11 ?_
   refine on 8 34 fun K hK => ?_
   refine gO Try.func63 #[.pointer (some ⟨wg.heap.size + 2 + 2 * c, 0, none⟩), .agg #[.int .i64 kind, .bool mir], .bool rt] ?_
   with_reducible refine (look_any (S := (fun k_ => SetC wg.heap.size l0 c k_ ∧ k_ < w2.heap.size)) _ X _ _ _ _ (by first | exact HRX.out.below ((Below.refl _ _).drew) | exact HRX.out.below HBA.out)).mono ?_
   rintro e wL ⟨pl, pr, pll, plr, prl, prr, pa, pb, rfl, hLb, r1, r2, r3, r4, r5, r6, r7, r8⟩
   refine ⟨_, rfl, ?_⟩
   refine hK.out _ _ ⟨(hLb.cell (blt _ _ hHeld.1)).trans hHeld.1, (hLb.cell (blt _ _ hHeld.2.1)).trans hHeld.2.1, (hLb.cell (blt _ _ hHeld.2.2)).trans hHeld.2.2⟩ (fun hHeld => ?_)
   clear hK K
   refine nm 34 ?_
   exact norm_ (by simp only [putAll, Act.put, sI, sZ, sS]) (hCont (g, pl, pr, pll, plr, prl, prr, pa, pb) _ ⟨HBA.out.trans (hLb.mono hbA.size), hgs, (hLb.block _ (Array.getElem?_eq_some_iff.1 hbox).1).trans hbox, r1.below hLb, r2.below hLb, r3.below hLb, r4.below hLb, r5.below hLb, r6.below hLb, r7.below hLb, r8.below hLb⟩)
 rintro ⟨g, pl, pr, pll, plr, prl, prr, pa, pb⟩ w3 ⟨hF1, hF2, hF3, y1, y2, y3, y4, y5, y6, y7, y8⟩
 replace hF2 : w2.heap.size ≤ g := hF2
 replace hF3 : w3.heap[g]? = some (.cells #[.bool false, .pointer none, .pointer none, .pointer none, .pointer none, .pointer none, .pointer none, .pointer none, .pointer none, .pointer none, .bool false] 111 (0, 0)) := hF3
 have HY1 : Aside0 (Rep (fun k_ => SetC wg.heap.size l0 c k_ ∧ k_ < w2.heap.size) w3 (.pointer pl) (lT mir X)) := ⟨y1⟩
 have HY2 : Aside0 (Rep (fun k_ => SetC wg.heap.size l0 c k_ ∧ k_ < w2.heap.size) w3 (.pointer pr) (rT mir X)) := ⟨y2⟩
 have HY3 : Aside0 (Rep (fun k_ => SetC wg.heap.size l0 c k_ ∧ k_ < w2.heap.size) w3 (.pointer pll) (lT mir (lT mir X))) := ⟨y3⟩
 have HY4 : Aside0 (Rep (fun k_ => SetC wg.heap.size l0 c k_ ∧ k_ < w2.heap.size) w3 (.pointer plr) (rT mir (lT mir X))) := ⟨y4⟩
 have HY5 : Aside0 (Rep (fun k_ => SetC wg.heap.size l0 c k_ ∧ k_ < w2.heap.size) w3 (.pointer prl) (lT mir (rT mir X))) := ⟨y5⟩
 have HY6 : Aside0 (Rep (fun k_ => SetC wg.heap.size l0 c k_ ∧ k_ < w2.heap.size) w3 (.pointer prr) (rT mir (rT mir X))) := ⟨y6⟩
 have HY7 : Aside0 (Rep (fun k_ => SetC wg.heap.size l0 c k_ ∧ k_ < w2.heap.size) w3 (.pointer pa) (lT mir (lT mir (rT mir X)))) := ⟨y7⟩
 have HY8 : Aside0 (Rep (fun k_ => SetC wg.heap.size l0 c k_ ∧ k_ < w2.heap.size) w3 (.pointer pb) (rT mir (lT mir (rT mir X)))) := ⟨y8⟩
 have hHeld : w3.cell? ⟨wg.heap.size, c, none⟩ = some (.pointer (some ⟨wg.heap.size + 2 + 2 * c, 0, none⟩)) ∧ w3.cell? ⟨w.heap.size, 0, none⟩ = some (.int .i64 kind) ∧ w3.cell? ⟨w.heap.size, 1, none⟩ = some (.bool mir) := ⟨(hF1.cell (p := ⟨wg.heap.size, c, none⟩) hg2).trans HPC.out, (hF1.cell (p := ⟨w.heap.size, 0, none⟩) (Nat.lt_trans hg0 hg2)).trans HB0.out, (hF1.cell (p := ⟨w.heap.size, 1, none⟩) (Nat.lt_trans hg0 hg2)).trans HB1.out⟩
 obtain ⟨hz0, hz1, hz2, hz3, hz4, hz5, hz6, hz7, hz8, hz9, hz10⟩ := vc11 hF3
 have hfz0 := frz_of hF3 0
 have hfz1 := frz_of hF3 1
 have hfz2 := frz_of hF3 2
 have hfz3 := frz_of hF3 3
 have hfz4 := frz_of hF3 4
 have hfz5 := frz_of hF3 5
 have hfz6 := frz_of hF3 6
 have hfz7 := frz_of hF3 7
 have hfz8 := frz_of hF3 8
 have hfz9 := frz_of hF3 9
 have hfz10 := frz_of hF3 10
 have HF1 := Am hF1
 have HF3 := Am hF3
 clear hF1 hF3 y1 y2 y3 y4 y5 y6 y7 y8
 refine norm_ (a' := ?_) ?_ ?_
 rotate_left
 ·simp only [putAll, Act.put, sI, sZ, sS]
  rfl
 refine last_ (i := 10) (N := none) #[true, true, true, true, true, true, true, true, true, true, true] rfl rfl (by kernel_rfl) (by decide) (fun K hK => ?_)
 refine skip_ (w1 := ?_) (by rfl) rfl ?_ ?_
 rotate_left
 ·go_simp
  rfl
 refine hK.out _ _ ?_
 clear hK K
 refine done_ (by kernel_rfl) ?_
 try clear hHeld
 have hV := put11 HF3.out (.bool mir) (.pointer (some ⟨wg.heap.size + 2 + 2 * c, 0, none⟩)) (.pointer pl) (.pointer pr) (.pointer pll) (.pointer plr) (.pointer prl) (.pointer prr) (.pointer pa) (.pointer pb) (.bool rt)
 have hB := below11 HF1.out hF2 (.bool mir) (.pointer (some ⟨wg.heap.size + 2 + 2 * c, 0, none⟩)) (.pointer pl) (.pointer pr) (.pointer pll) (.pointer plr) (.pointer prl) (.pointer prr) (.pointer pa) (.pointer pb) (.bool rt)
 have hK : ∀ k_, k_ < w2.heap.size → (((((((((((w3.setCell ⟨g, 0, none⟩ (.bool mir)).setCell ⟨g, 1, none⟩ (.pointer (some ⟨wg.heap.size + 2 + 2 * c, 0, none⟩))).setCell ⟨g, 2, none⟩ (.pointer pl)).setCell ⟨g, 3, none⟩ (.pointer pr)).setCell ⟨g, 4, none⟩ (.pointer pll)).setCell ⟨g, 5, none⟩ (.pointer plr)).setCell ⟨g, 6, none⟩ (.pointer prl)).setCell ⟨g, 7, none⟩ (.pointer prr)).setCell ⟨g, 8, none⟩ (.pointer pa)).setCell ⟨g, 9, none⟩ (.pointer pb)).setCell ⟨g, 10, none⟩ (.bool rt)).heap[k_]? = w3.heap[k_]? := fun k_ hk_ => setc11 (by omega) (.bool mir) (.pointer (some ⟨wg.heap.size + 2 + 2 * c, 0, none⟩)) (.pointer pl) (.pointer pr) (.pointer pll) (.pointer plr) (.pointer prl) (.pointer prr) (.pointer pa) (.pointer pb) (.bool rt)
 clear hz0 hfz0 hz1 hfz1 hz2 hfz2 hz3 hfz3 hz4 hfz4 hz5 hfz5 hz6 hfz6 hz7 hfz7 hz8 hfz8 hz9 hfz9 hz10 hfz10 HF3 HF1
 generalize (((((((((((w3.setCell ⟨g, 0, none⟩ (.bool mir)).setCell ⟨g, 1, none⟩ (.pointer (some ⟨wg.heap.size + 2 + 2 * c, 0, none⟩))).setCell ⟨g, 2, none⟩ (.pointer pl)).setCell ⟨g, 3, none⟩ (.pointer pr)).setCell ⟨g, 4, none⟩ (.pointer pll)).setCell ⟨g, 5, none⟩ (.pointer plr)).setCell ⟨g, 6, none⟩ (.pointer prl)).setCell ⟨g, 7, none⟩ (.pointer prr)).setCell ⟨g, 8, none⟩ (.pointer pa)).setCell ⟨g, 9, none⟩ (.pointer pb)).setCell ⟨g, 10, none⟩ (.bool rt)) = w4 at hV hB hK ⊢
 have HRpl := Am (HY1.out.keptS (w' := w4) (fun k_ hk_ _ => hK k_ hk_.2))
 have HRpr := Am (HY2.out.keptS (w' := w4) (fun k_ hk_ _ => hK k_ hk_.2))
 have HRpll := Am (HY3.out.keptS (w' := w4) (fun k_ hk_ _ => hK k_ hk_.2))
 have HRplr := Am (HY4.out.keptS (w' := w4) (fun k_ hk_ _ => hK k_ hk_.2))
 have HRprl := Am (HY5.out.keptS (w' := w4) (fun k_ hk_ _ => hK k_ hk_.2))
 have HRprr := Am (HY6.out.keptS (w' := w4) (fun k_ hk_ _ => hK k_ hk_.2))
 have HRpa := Am (HY7.out.keptS (w' := w4) (fun k_ hk_ _ => hK k_ hk_.2))
 have HRpb := Am (HY8.out.keptS (w' := w4) (fun k_ hk_ _ => hK k_ hk_.2))
 have HRp := Am (HRX.out.below hB)
 have HV := Am hV
 have HB := Am hB
 clear HY1 HY2 HY3 HY4 HY5 HY6 HY7 HY8 hK
 have hk0 : w4.cell? ⟨w.heap.size, 0, none⟩ = some (.int .i64 kind) := (hB.cell (p := ⟨w.heap.size, 0, none⟩) (Nat.lt_trans hg0 hg2)).trans HB0.out
 have HK0 := Am hk0
 obtain ⟨hv0, hv1, hv2, hv3, hv4, hv5, hv6, hv7, hv8, hv9, hv10⟩ := vc11 hV
 clear hV hB HPC HB0 HB1
 go_wp2_with (fail)
 refine (can_any mir rt (some ⟨wg.heap.size + 2 + 2 * c, 0, none⟩) pl pr pll plr prl prr pa pb X _ HRp HRpl HRpr HRpll HRplr HRprl HRprr HRpa HRpb kind HKD.out).mono ?_
 rw [HCAN.out]
 rintro e w5 ⟨rfl, h5⟩
 have HB5 := Am (HB.out.trans (h5.mono HB.out.size))
 have H5 := Am h5
 have HV5 := Am ((h5.block _ (Array.getElem?_eq_some_iff.1 HV.out).1).trans HV.out)
 have hk5 := (h5.cell (blt _ _ HK0.out)).trans HK0.out
 clear h5 hv0 hv1 hv2 hv3 hv4 hv5 hv6 hv7 hv8 hv9 hv10 hk0 HV
 obtain ⟨hw0, hw1, hw2, hw3, hw4, hw5, hw6, hw7, hw8, hw9, hw10⟩ := vc11 HV5.out
 go_wp2_with (fail)
 refine (do_any (S := (fun k_ => (fun k_ => SetC wg.heap.size l0 c k_ ∧ k_ < w2.heap.size) k_ ∨ w5.heap.size ≤ k_)) mir rt (some ⟨wg.heap.size + 2 + 2 * c, 0, none⟩) pl pr pll plr prl prr pa pb X _ (fun _ hk_ => .inr hk_) ⟨(HRp.out.below H5.out).mono (fun _ hk_ => .inl hk_)⟩ ⟨(HRpl.out.below H5.out).mono (fun _ hk_ => .inl hk_)⟩ ⟨(HRpr.out.below H5.out).mono (fun _ hk_ => .inl hk_)⟩ ⟨(HRpll.out.below H5.out).mono (fun _ hk_ => .inl hk_)⟩ ⟨(HRplr.out.below H5.out).mono (fun _ hk_ => .inl hk_)⟩ ⟨(HRprl.out.below H5.out).mono (fun _ hk_ => .inl hk_)⟩ ⟨(HRprr.out.below H5.out).mono (fun _ hk_ => .inl hk_)⟩ ⟨(HRpa.out.below H5.out).mono (fun _ hk_ => .inl hk_)⟩ ⟨(HRpb.out.below H5.out).mono (fun _ hk_ => .inl hk_)⟩ kind HKD.out HXN.out HCAN.out).mono ?_
 rintro e w6 ⟨q, W6, rfl, h6a, h6b, h6c⟩
 have HB6 := Am ((HB5.out.trans (h6a.mono HB5.out.size)).trans (h6b.mono (Nat.le_trans HB5.out.size h6a.size)))
 have hge6 : w5.heap.size ≤ W6.heap.size := h6a.size
 have HTOP := Am h6c
 have HTB := Am h6b
 clear h6a h6b h6c hw0 hw1 hw2 hw3 hw4 hw5 hw6 hw7 hw8 hw9 hw10
 have hrf := HRF.out
 subst hrf
 obtain ⟨b6, hq6, hb6, ⟨u6, hcu6⟩, hfu6, hrep6⟩ := top_set HTOP.out HTB.out 1
 injection hq6 with hq6
 subst hq6
 have HREP := Am hrep6
 clear hrep6
 have hge : w2.heap.size ≤ b6 := Nat.le_trans (Nat.le_trans HB5.out.size hge6) hb6
 have HB7 := Am (HB6.out.setCell (p := ⟨b6, 2, none⟩) hge (.int .i64 1))
 go_wp2
 have hf2 := forest2_start (forest_kept HFO.out HB7.out) c (some ⟨b6, 0, none⟩)
 have HF2 := Am hf2
 clear hf2
 have hfin := do_ok_fin w T1
 have HFIN := Am hfin
 clear hfin
 generalize (w6.setCell ⟨b6, 2, none⟩ (.int .i64 1)) = w7 at HB7 HF2 HREP ⊢
 go_loopg [59] l0.length (fun gk vi wr => ∃ i : Nat, vi = .int .i64 (i : Int) ∧ i ≤ l0.length ∧ Aside0 (gk + i = l0.length) ∧ Aside0 (Forest2 wg wr l0 c (some ⟨b6, 0, none⟩) i) ∧ Aside0 (Rep (fun k_ => (fun k_ => SetC wg.heap.size l0 c k_ ∧ k_ < w2.heap.size) k_ ∨ w5.heap.size ≤ k_) wr (.pointer (some ⟨b6, 0, none⟩)) (setW (doT mir X kind) 1)))
 case atStart => exact ⟨0, rfl, Nat.zero_le _, ⟨by omega⟩, HF2, HREP⟩
 case round =>
  clear HF2 HREP
  obtain ⟨i, rfl, hil, HK, HF2, HREP⟩ := hrel
  have hpc : wr.cell? ⟨wg.heap.size, c, none⟩ = some (.pointer (some ⟨wg.heap.size + 2 + 2 * c, 0, none⟩)) := rowIs_cell HF2.out.ptrs c hcl
  by_cases hlt : i < l0.length
  ·have dlt : decide (i < l0.length) = true := decide_eq_true hlt
   have hpi : wr.cell? ⟨wg.heap.size, i, none⟩ = some (.pointer (some ⟨wg.heap.size + 2 + 2 * i, 0, none⟩)) := rowIs_cell HF2.out.ptrs i hlt
   have hni := HF2.out.nodes i hlt
   simp only [Nat.lt_irrefl, false_and, if_false] at hni
   have hf7 := frz_of hni 7
   have hf8 := frz_of hni 8
   have hc7 : wr.cell? ⟨wg.heap.size + 2 + 2 * i, 7, none⟩ = some (.pointer (lpV wg.heap.size l0 i)) := (cell_of hni 7).trans rfl
   have hc8 : wr.cell? ⟨wg.heap.size + 2 + 2 * i, 8, none⟩ = some (.pointer (rpV wg.heap.size l0 i)) := (cell_of hni 8).trans rfl
   clear hni
   by_cases h4 : 0 ≤ (l0.getD i z34).f4
   ·rw [lpV, if_pos h4, nb] at hc7
    rw [rpV, if_pos h4, nb] at hc8
    have hk := HT.out.kids i hlt h4
    have hnc := HF2.out.nodes c hcl
    have hnl := HF2.out.nodes (l0.getD i z34).f4.toNat (by omega)
    have hnr := HF2.out.nodes (l0.getD i z34).f5.toNat (by omega)
    have hes := eqp_same wr ⟨wg.heap.size + 2 + 2 * c, 0, none⟩
    by_cases el : (l0.getD i z34).f4.toNat = c
    ·have er : (l0.getD i z34).f5.toNat ≠ c := fun e_ => hk.2.2.2 (by omega)
     have hst := forest2_left HF2.out h4 el er
     have hrp := HREP.out.keptS (w' := wr.setCell ⟨wg.heap.size + 2 + 2 * i, 7, none⟩ (.pointer (some ⟨b6, 0, none⟩))) (fun k_ hk_ _ => Below.heap_setCell _ _ _ _ (by show k_ ≠ wg.heap.size + 2 + 2 * i; rcases hk_ with ⟨⟨j_, hj1, _, hj3⟩, _⟩ | hk_; rintro rfl; exact hj3 (by rw [show j_ = i by omega]; exact ⟨h4, .inl el⟩); have hz_ := (Array.getElem?_eq_some_iff.1 (HFO.out.nodes i hlt)).1; have hz2 := HB5.out.size; omega))
     have HST := Am hst
     have HRP := Am hrp
     rw [el] at hc7
     clear hst hrp hk er el h4 hc8 hnc hnl hnr
     go_wp2
     go_roundg (gk - 1)
     case measure => have := HK.out; omega
     case rel => exact ⟨i + 1, by go_num, by omega, ⟨by have := HK.out; omega⟩, HST, HRP⟩
    ·have hel := eqp_other wr (a := ⟨wg.heap.size + 2 + 2 * c, 0, none⟩) (b := ⟨wg.heap.size + 2 + 2 * (l0.getD i z34).f4.toNat, 0, none⟩) (fun e_ => by injection e_ with e_; omega) hnc hnl
     by_cases er : (l0.getD i z34).f5.toNat = c
     ·have hst := forest2_right HF2.out h4 el er
      have hrp := HREP.out.keptS (w' := wr.setCell ⟨wg.heap.size + 2 + 2 * i, 8, none⟩ (.pointer (some ⟨b6, 0, none⟩))) (fun k_ hk_ _ => Below.heap_setCell _ _ _ _ (by show k_ ≠ wg.heap.size + 2 + 2 * i; rcases hk_ with ⟨⟨j_, hj1, _, hj3⟩, _⟩ | hk_; rintro rfl; exact hj3 (by rw [show j_ = i by omega]; exact ⟨h4, .inr er⟩); have hz_ := (Array.getElem?_eq_some_iff.1 (HFO.out.nodes i hlt)).1; have hz2 := HB5.out.size; omega))
      have HST := Am hst
      have HRP := Am hrp
      rw [er] at hc8
      clear hst hrp hk h4 hnc hnl hnr er el
      generalize (l0.getD i z34).f4.toNat = cl at hc7 hel
      go_wp2
      go_roundg (gk - 1)
      case measure => have := HK.out; omega
      case rel => exact ⟨i + 1, by go_num, by omega, ⟨by have := HK.out; omega⟩, HST, HRP⟩
     ·have her := eqp_other wr (a := ⟨wg.heap.size + 2 + 2 * c, 0, none⟩) (b := ⟨wg.heap.size + 2 + 2 * (l0.getD i z34).f5.toNat, 0, none⟩) (fun e_ => by injection e_ with e_; omega) hnc hnr
      have hst := forest2_skip HF2.out (fun hc_ => by rcases hc_.2 with e_ | e_; exact el e_; exact er e_)
      have HST := Am hst
      clear hst hk h4 el er hnc hnl hnr
      generalize (l0.getD i z34).f4.toNat = cl at hc7 hel
      generalize (l0.getD i z34).f5.toNat = cr at hc8 her
      go_wp2
      go_roundg (gk - 1)
      case measure => have := HK.out; omega
      case rel => exact ⟨i + 1, by go_num, by omega, ⟨by have := HK.out; omega⟩, HST, HREP⟩
   ·rw [lpV, if_neg h4] at hc7
    rw [rpV, if_neg h4] at hc8
    have hst := forest2_skip HF2.out (fun hc_ => h4 hc_.1)
    have HST := Am hst
    clear hst h4
    go_wp2
    go_roundg (gk - 1)
    case measure => have := HK.out; omega
    case rel => exact ⟨i + 1, by go_num, by omega, ⟨by have := HK.out; omega⟩, HST, HREP⟩
  ·obtain rfl : i = l0.length := by omega
   have dlt : decide (l0.length < l0.length) = false := decide_eq_false (Nat.lt_irrefl _)
   have hp0 : wr.cell? ⟨wg.heap.size, 0, none⟩ = some (.pointer (some ⟨wg.heap.size + 2 + 2 * 0, 0, none⟩)) := rowIs_cell HF2.out.ptrs 0 (by omega)
   have h0l : 0 < l0.length := by omega
   clear hlt hpc
   go_wp2_with (fail)
   refine (flat_any _ T1 _ (rep_repl HF2.out HREP.out K1 0 T1 HT1.out) HFULL.out HSZ.out).mono ?_
   rintro e w8 ⟨v8, rfl, h8a, h8b⟩
   have HFP := Am (HFIN.out wg wr v8 w8 HBW.out HF2.out.bel ⟨v8, rfl, h8a, h8b⟩)
   obtain ⟨A8, c8, rfl⟩ := Kd.R_slice h8a
   clear h8a h8b
   go_wp2
   go_ret2
   exact HFP.out
theorem do_err1 (k : Nat) (A0 : Option Addr) (c0 : Nat) (l0 : List S34) (a1 kind : Int) (mir : Bool) (r1 : Int) (r2 : List Bool) (r3 : Int) (w : World) (hr0 : Kd.C k34 w A0 l0.length l0) (hc0 : l0.length ≤ c0)
  (h : steps_keys.f k l0 = some (r1, r2, r3)) (h3 : r3 ≠ 0) :
  Calls Try.prog 30 #[.slice A0 l0.length c0, .int .i64 a1, .agg #[.int .i64 kind, .bool mir]] w (RB w (.tuple #[.slice none 0 0, .int .i64 r3])) := by
 have HR := Am hr0
 have HC := Am hc0
 have d3 : (r3 != 0) = true := bne_iff_ne.mpr h3
 have H_h := Am h
 clear h
 have H_h3 := Am h3
 clear h3
 clear hr0 hc0
 go_enter Try.func30, Try.ntmps30
 go_wp2_with (fail)
 refine (at_err1 k A0 c0 l0 a1 kind mir true r1 r2 r3 _ (Kd.C_below HR.out ((Below.refl _ _).alloc (Nat.le_refl _) _)) HC.out H_h.out H_h3.out).mono ?_
 rintro e w2 ⟨rfl, hbg⟩
 have hbw : Below w.heap.size w w2 := ((Below.refl _ _).alloc (Nat.le_refl _) _).trans (hbg.mono (by simp))
 have HBW := Am hbw
 clear hbg hbw
 go_wp2
 go_ret2
 exact ⟨rfl, HBW.out⟩
theorem do_err2 (k : Nat) (A0 : Option Addr) (c0 : Nat) (l0 : List S34) (a1 kind : Int) (mir : Bool) (r1 : Int) (r2 : List Bool) (w : World) (hr0 : Kd.C k34 w A0 l0.length l0) (hc0 : l0.length ≤ c0)
  (h : steps_keys.f k l0 = some (r1, r2, 0)) (hm : steps_Move_is.f kind mir = some false) :
  Calls Try.prog 30 #[.slice A0 l0.length c0, .int .i64 a1, .agg #[.int .i64 kind, .bool mir]] w (RB w (.tuple #[.slice none 0 0, .int .i64 5])) := by
 have HR := Am hr0
 have HC := Am hc0
 have H_h := Am h
 clear h
 have H_hm := Am hm
 clear hm
 clear hr0 hc0
 go_enter Try.func30, Try.ntmps30
 go_wp2_with (fail)
 refine (at_err2 k A0 c0 l0 a1 kind mir r1 r2 _ (Kd.C_below HR.out ((Below.refl _ _).alloc (Nat.le_refl _) _)) HC.out H_h.out H_hm.out).mono ?_
 rintro e w2 ⟨rfl, hbg⟩
 have hbw : Below w.heap.size w w2 := ((Below.refl _ _).alloc (Nat.le_refl _) _).trans (hbg.mono (by simp))
 have HBW := Am hbw
 clear hbg hbw
 go_wp2
 go_ret2
 exact ⟨rfl, HBW.out⟩
theorem do_err3 (k : Nat) (A0 : Option Addr) (c0 : Nat) (l0 : List S34) (a1 kind : Int) (mir : Bool) (r1 : Int) (r2 : List Bool) (w : World) (hr0 : Kd.C k34 w A0 l0.length l0) (hc0 : l0.length ≤ c0)
  (h : steps_keys.f k l0 = some (r1, r2, 0)) (hm : steps_Move_is.f kind mir = some true) (hp : a1 < 0 ∨ (l0.length : Int) ≤ a1) :
  Calls Try.prog 30 #[.slice A0 l0.length c0, .int .i64 a1, .agg #[.int .i64 kind, .bool mir]] w (RB w (.tuple #[.slice none 0 0, .int .i64 1])) := by
 have HR := Am hr0
 have HC := Am hc0
 have H_h := Am h
 clear h
 have H_hm := Am hm
 clear hm
 have H_hp := Am hp
 clear hp
 clear hr0 hc0
 go_enter Try.func30, Try.ntmps30
 go_wp2_with (fail)
 refine (at_err3t k A0 c0 l0 a1 kind mir r1 r2 _ (Kd.C_below HR.out ((Below.refl _ _).alloc (Nat.le_refl _) _)) HC.out H_h.out (fun _ => H_hm.out) H_hp.out).mono ?_
 rintro e w2 ⟨rfl, hbg⟩
 have hbw : Below w.heap.size w w2 := ((Below.refl _ _).alloc (Nat.le_refl _) _).trans (hbg.mono (by simp))
 have HBW := Am hbw
 clear hbg hbw
 go_wp2
 go_ret2
 exact ⟨rfl, HBW.out⟩
theorem do_err4 (k : Nat) (A0 : Option Addr) (c0 : Nat) (l0 : List S34) (a1 kind : Int) (mir : Bool) (r1 : Int) (r2 : List Bool) (w : World) (hr0 : Kd.C k34 w A0 l0.length l0) (hc0 : l0.length ≤ c0)
  (h : steps_keys.f k l0 = some (r1, r2, 0)) (hm : steps_Move_is.f kind mir = some true) (hp0 : 0 ≤ a1) (hp1 : a1 < l0.length) (hp2 : a1 < r2.length) (hbel : rdOf false r2 a1 = false) :
  Calls Try.prog 30 #[.slice A0 l0.length c0, .int .i64 a1, .agg #[.int .i64 kind, .bool mir]] w (RB w (.tuple #[.slice none 0 0, .int .i64 1])) := by
 have HR := Am hr0
 have HC := Am hc0
 have H_h := Am h
 clear h
 have H_hm := Am hm
 clear hm
 have H_hbel := Am hbel
 clear hbel
 have H_hp0 := Am hp0
 clear hp0
 have H_hp1 := Am hp1
 clear hp1
 have H_hp2 := Am hp2
 clear hp2
 clear hr0 hc0
 go_enter Try.func30, Try.ntmps30
 go_wp2_with (fail)
 refine (at_err4t k A0 c0 l0 a1 kind mir r1 r2 _ (Kd.C_below HR.out ((Below.refl _ _).alloc (Nat.le_refl _) _)) HC.out H_h.out (fun _ => H_hm.out) H_hp0.out H_hp1.out H_hp2.out H_hbel.out).mono ?_
 rintro e w2 ⟨rfl, hbg⟩
 have hbw : Below w.heap.size w w2 := ((Below.refl _ _).alloc (Nat.le_refl _) _).trans (hbg.mono (by simp))
 have HBW := Am hbw
 clear hbg hbw
 go_wp2
 go_ret2
 exact ⟨rfl, HBW.out⟩
def okB (t : List S34) : Bool := decide (t.length ≤ 100000) && t.all (fun n => decide (n.f4 < 0) || (decide (n.f4 < t.length) && decide (0 ≤ n.f5) && decide (n.f5 < t.length) && decide (n.f4 ≠ n.f5)))
theorem okT_of {t : List S34} (h : okB t = true) : OkT t := by
 simp only [okB, Bool.and_eq_true, decide_eq_true_eq, List.all_eq_true] at h
 refine ⟨h.1, fun i hi h4 => ?_⟩
 have hm : t.getD i z34 ∈ t := by rw [List.getD, List.getElem?_eq_getElem hi, Option.getD_some]; exact List.getElem_mem hi
 have := h.2 _ hm
 simp only [Bool.or_eq_true, Bool.and_eq_true, decide_eq_true_eq] at this
 omega
def fullB : Tr → Bool
 | .nil => false
 | .node _ _ .nil .nil => true
 | .node _ _ .nil (.node ..) => false
 | .node _ _ (.node ..) .nil => false
 | .node _ _ (.node n p l r) (.node n' p' l' r') => fullB (.node n p l r) && fullB (.node n' p' l' r')
theorem full_of : ∀ {T : Tr}, fullB T = true → Full T
 | .nil, h => by simp [fullB] at h
 | .node _ _ .nil .nil, _ => by unfold Full; trivial
 | .node _ _ .nil (.node ..), h => by simp [fullB] at h
 | .node _ _ (.node ..) .nil, h => by simp [fullB] at h
 | .node _ _ (.node n p l r) (.node n' p' l' r'), h => by
  rw [fullB, Bool.and_eq_true] at h
  unfold Full
  exact ⟨full_of h.1, full_of h.2⟩
def outT (T1 : Tr) : Option (List S34 × Int) := if fullB T1 = true then (if sizeT T1 ≤ 1000000 then some (flatT T1 0, 0) else none) else none
def doGood (l0 : List S34) (rt : Bool) (c : Nat) (kind : Int) (mir : Bool) : Option (List S34 × Int) :=
 if okB l0 = true then (mkT l0 l0.length c).bind fun X =>
  if canT mir rt X kind = true then
   (if rt = true then (mkR l0 c (setW (doT mir X kind) 1) l0.length 0).bind outT
   else if 1000000 < wt (doT mir X kind) then some ([], 2) else (mkR l0 c (doT mir X kind) l0.length 0).bind outT)
  else some ([], 6)
 else none
def steps_Do.f (k : Nat) (l0 : List S34) (a1 a2_0 : Int) (a2_1 : Bool) : Option (List S34 × Int) :=
 (steps_keys.f k l0).bind fun bt => if bt.2.2 = 0 then ((steps_Move_is.f a2_0 a2_1).bind fun t => if t = true then (if a1 < 0 ∨ (l0.length : Int) ≤ a1 then some ([], 1) else (if a1 < bt.2.1.length then (if rdOf false bt.2.1 a1 = true then doGood l0 (a1 == bt.1) a1.toNat a2_0 a2_1 else some ([], 1)) else none)) else some ([], 5)) else some ([], bt.2.2)
theorem move_kind {kind : Int} {mir : Bool} (h : steps_Move_is.f kind mir = some true) : 1 ≤ kind ∧ kind ≤ 12 := by
 unfold steps_Move_is.f at h
 split at h
 ·split at h
  ·omega
  ·exact absurd h (by simp)
 ·exact absurd h (by simp)
theorem outT_some {T1 : Tr} {r1 : List S34} {r2 : Int} (h : outT T1 = some (r1, r2)) : Full T1 ∧ sizeT T1 ≤ 1000000 ∧ r1 = flatT T1 0 ∧ r2 = 0 := by
 unfold outT at h
 split at h
 ·rename_i h1
  split at h
  ·rename_i h2
   injection h with h
   injection h with ha hb
   exact ⟨full_of h1, h2, ha.symm, hb.symm⟩
  ·exact absurd h (by simp)
 ·exact absurd h (by simp)
theorem do_nil {w : World} (x : Int) : ∀ (e : Ending) (w' : World), e = .returned (.tuple #[.slice none 0 0, .int .i64 x]) ∧ Below w.heap.size w w' → ∃ v0_ : Value, e = .returned (.tuple #[v0_, .int .i64 x]) ∧ Kd.R k34 34 w' w.heap.size (fun _ => True) v0_ [] ∧ Below w.heap.size w w' :=
 fun _ _ ⟨h1, h2⟩ => ⟨_, h1, Kd.R_nil _ _ _ _ _, h2⟩
theorem steps_Do.calls (k : Nat) (A0 : Option Addr) (c0 : Nat) (l0 : List S34) (a1 a2_0 : Int) (a2_1 : Bool) (r1 : List S34) (r2 : Int) (w : World) (hr0 : Kd.C k34 w A0 l0.length l0) (hc0 : l0.length ≤ c0) (h : steps_Do.f k l0 a1 a2_0 a2_1 = some (r1, r2)) :
  Calls Try.prog 30 #[.slice A0 l0.length c0, .int .i64 a1, .agg #[.int .i64 a2_0, .bool a2_1]] w fun e w' => ∃ v0_ : Value, e = .returned (.tuple #[v0_, .int .i64 r2]) ∧ Kd.R k34 34 w' w.heap.size (fun _ => True) v0_ r1 ∧ Below w.heap.size w w' := by
 unfold steps_Do.f at h
 obtain ⟨⟨q1, q2, q3⟩, hb, h⟩ := Option.bind_eq_some_iff.1 h
 dsimp only at h
 split at h
 ·rename_i h3
  subst h3
  obtain ⟨t, hm, h⟩ := Option.bind_eq_some_iff.1 h
  split at h
  ·rename_i ht
   subst ht
   split at h
   ·rename_i hp
    injection h with h
    injection h with ha hb'
    subst ha hb'
    exact (do_err3 k A0 c0 l0 a1 a2_0 a2_1 q1 q2 w hr0 hc0 hb hm hp).mono (do_nil 1)
   ·rename_i hp
    split at h
    ·rename_i hp2
     split at h
     ·rename_i hbel
      obtain ⟨c, rfl⟩ : ∃ c : Nat, a1 = c := ⟨a1.toNat, by omega⟩
      rw [Int.toNat_natCast] at h
      unfold doGood at h
      split at h
      ·rename_i hok
       obtain ⟨X, hX, h⟩ := Option.bind_eq_some_iff.1 h
       split at h
       ·rename_i hcan
        split at h
        ·rename_i hrt
         obtain ⟨T1, hT1, h⟩ := Option.bind_eq_some_iff.1 h
         obtain ⟨g1, g2, rfl, rfl⟩ := outT_some h
         exact do_ok1 k A0 c0 l0 c a2_0 a2_1 q1 q2 w hr0 hc0 hb hm (move_kind hm) (by omega) hp2 hbel (okT_of hok) _ X hX _ rfl hrt hcan _ T1 hT1 g1 g2
        ·rename_i hrt
         split at h
         ·rename_i hbig
          injection h with h
          injection h with ha hb'
          subst ha hb'
          exact (do_big k A0 c0 l0 c a2_0 a2_1 q1 q2 w hr0 hc0 hb hm (move_kind hm) (by omega) hp2 hbel (okT_of hok) _ X hX _ rfl (Bool.eq_false_iff.2 hrt) hcan hbig).mono (do_nil 2)
         ·rename_i hbig
          obtain ⟨T1, hT1, h⟩ := Option.bind_eq_some_iff.1 h
          obtain ⟨g1, g2, rfl, rfl⟩ := outT_some h
          exact do_ok0 k A0 c0 l0 c a2_0 a2_1 q1 q2 w hr0 hc0 hb hm (move_kind hm) (by omega) hp2 hbel (okT_of hok) _ X hX _ rfl (Bool.eq_false_iff.2 hrt) hcan hbig _ T1 hT1 g1 g2
       ·rename_i hcan
        injection h with h
        injection h with ha hb'
        subst ha hb'
        exact (do_nocan k A0 c0 l0 c a2_0 a2_1 q1 q2 w hr0 hc0 hb hm (move_kind hm) (by omega) hp2 hbel (okT_of hok) _ X hX _ rfl (Bool.eq_false_iff.2 hcan)).mono (do_nil 6)
      ·exact absurd h (by simp)
     ·rename_i hbel
      injection h with h
      injection h with ha hb'
      subst ha hb'
      exact (do_err4 k A0 c0 l0 a1 a2_0 a2_1 q1 q2 w hr0 hc0 hb hm (by omega) (by omega) hp2 (Bool.eq_false_iff.2 hbel)).mono (do_nil 1)
    ·exact absurd h (by simp)
  ·rename_i ht
   injection h with h
   injection h with ha hb'
   subst ha hb'
   exact (do_err2 k A0 c0 l0 a1 a2_0 a2_1 q1 q2 w hr0 hc0 hb (by rw [hm, Bool.eq_false_iff.2 ht])).mono (do_nil 5)
 ·rename_i h3
  injection h with h
  injection h with ha hb'
  subst ha hb'
  exact (do_err1 k A0 c0 l0 a1 a2_0 a2_1 q1 q2 q3 w hr0 hc0 hb h3).mono (do_nil q3)
def plT : Tr → List Int
 | .nil => []
 | .node _ p l r => p :: (plT l ++ plT r)
def plF (t : List S34) (k : Nat) : List Int → Option (List Int)
 | [] => some []
 | i :: s => if 0 ≤ i then (mkT t k i.toNat).bind fun T => (plF t k s).map (plT T ++ ·) else none
def FormT (t : List S34) : Prop := ∀ i, i < t.length → ((t.getD i z34).f4 = -1 ∧ (t.getD i z34).f5 = -1) ∨ (0 ≤ (t.getD i z34).f4 ∧ (t.getD i z34).f4 < t.length ∧ 0 ≤ (t.getD i z34).f5 ∧ (t.getD i z34).f5 < t.length)
theorem plF_mono {t : List S34} {k : Nat} : ∀ {s ps : List Int}, plF t k s = some ps → plF t (k + 1) s = some ps := by
 intro s
 induction s with
 | nil => intro ps h; exact h
 | cons i s ih =>
  intro ps h
  rw [plF] at h ⊢
  split at h
  ·rename_i h0
   rw [if_pos h0]
   obtain ⟨T, hT, h⟩ := Option.bind_eq_some_iff.1 h
   obtain ⟨q, hq, h⟩ := Option.map_eq_some_iff.1 h
   rw [mkT_mono t _ _ _ hT, Option.bind_some, ih hq, Option.map_some, h]
  ·exact absurd h (by simp)
theorem plT_mem {t : List S34} : ∀ (k i : Nat) (T : Tr), mkT t k i = some T → (i : Int) ∈ plT T ∧ ∀ p ∈ plT T, 0 ≤ p ∧ p < t.length := by
 intro k
 induction k with
 | zero => intro i T h; simp [mkT] at h
 | succ k ih =>
  intro i T h
  rw [mkT] at h
  split at h
  case isFalse => exact absurd h (by simp)
  rename_i hi
  split at h
  ·obtain ⟨l, hl, h⟩ := Option.bind_eq_some_iff.1 h
   obtain ⟨r, hr, h⟩ := Option.bind_eq_some_iff.1 h
   obtain rfl := Option.some.inj h
   refine ⟨List.mem_cons_self, fun p hp => ?_⟩
   simp only [plT, List.mem_cons, List.mem_append] at hp
   rcases hp with rfl | hp | hp
   ·omega
   ·exact (ih _ _ hl).2 p hp
   ·exact (ih _ _ hr).2 p hp
  ·obtain rfl := Option.some.inj h
   refine ⟨List.mem_cons_self, fun p hp => ?_⟩
   simp only [plT, List.append_nil, List.mem_cons, List.not_mem_nil, or_false] at hp
   omega
theorem plF_cons {t : List S34} {k : Nat} {i : Int} {s ps : List Int} (h : plF t k (i :: s) = some ps) : ∃ T q, 0 ≤ i ∧ mkT t k i.toNat = some T ∧ plF t k s = some q ∧ ps = plT T ++ q := by
 rw [plF] at h
 split at h
 ·rename_i h0
  obtain ⟨T, hT, h⟩ := Option.bind_eq_some_iff.1 h
  obtain ⟨q, hq, h⟩ := Option.map_eq_some_iff.1 h
  exact ⟨T, q, h0, hT, hq, h.symm⟩
 ·exact absurd h (by simp)
theorem plF_mk {t : List S34} {k : Nat} {i : Int} {s q : List Int} {T : Tr} (h0 : 0 ≤ i) (hT : mkT t k i.toNat = some T) (hq : plF t k s = some q) : plF t k (i :: s) = some (plT T ++ q) := by
 rw [plF, if_pos h0, hT, Option.bind_some, hq, Option.map_some]
theorem plF_mem {t : List S34} {k : Nat} : ∀ {s ps : List Int}, plF t k s = some ps → ∀ p ∈ ps, 0 ≤ p ∧ p < t.length := by
 intro s
 induction s with
 | nil => intro ps h p hp; rw [plF] at h; injection h with h; rw [← h] at hp; exact absurd hp (by simp)
 | cons i s ih =>
  intro ps h p hp
  obtain ⟨T, q, h0, hT, hq, rfl⟩ := plF_cons h
  rcases List.mem_append.1 hp with hp | hp
  ·exact (plT_mem _ _ _ hT).2 p hp
  ·exact ih hq p hp
theorem plF_len {t : List S34} {k : Nat} : ∀ {s ps : List Int}, plF t k s = some ps → s.length ≤ ps.length := by
 intro s
 induction s with
 | nil => intro ps h; exact Nat.zero_le _
 | cons i s ih =>
  intro ps h
  obtain ⟨T, q, h0, hT, hq, rfl⟩ := plF_cons h
  have h1 := List.length_pos_of_mem (plT_mem _ _ _ hT).1
  have h2 := ih hq
  rw [List.length_append, List.length_cons]
  omega
theorem order_nil (k : Nat) (t : List S34) (met : List Bool) (out : List Int) : table_order.l0 (k + 1) t met out [] = some out := by
 rw [table_order.l0]
 exact if_neg (by simp)
theorem leaf_f (n : S34) : table_isLeaf.f n.f0 n.f1 n.f2 n.f3 n.f4 n.f5 = some (decide (n.f4 = -1 ∧ n.f5 = -1)) := by
 unfold table_isLeaf.f
 by_cases h : n.f4 = -1
 ·rw [if_pos h]
  by_cases h5 : n.f5 = -1
  ·simp [h, h5]
  ·simp [h, h5]
 ·rw [if_neg h]
  simp [h]
theorem order_step (k : Nat) (t : List S34) (met : List Bool) (out : List Int) (i : Int) (s : List Int) (hs : s.length < 17592186044416) :
  table_order.l0 (k + 1) t met out (i :: s).reverse =
   if 0 ≤ i then (if i < met.length then (if met.getD i.toNat false = true then some [] else (if out.length < 17592186044416 then (if i < t.length then
    (if (t.getD i.toNat z34).f4 = -1 ∧ (t.getD i.toNat z34).f5 = -1 then table_order.l0 k t (met.set i.toNat true) (out ++ [i]) s.reverse
     else if s.length + 2 < 17592186044416 then table_order.l0 k t (met.set i.toNat true) (out ++ [i]) ((t.getD i.toNat z34).f4 :: (t.getD i.toNat z34).f5 :: s).reverse else none) else none) else none)) else none) else none := by
 have e : (i :: s).reverse = s.reverse ++ [i] := List.reverse_cons
 have e2 : ((t.getD i.toNat z34).f4 :: (t.getD i.toNat z34).f5 :: s).reverse = s.reverse ++ [(t.getD i.toNat z34).f5, (t.getD i.toNat z34).f4] := by simp
 rw [e, e2]
 generalize hr : s.reverse = s'
 have hl : s'.length = s.length := by rw [← hr, List.length_reverse]
 rw [← hl] at hs ⊢
 have h1 : wrap64 (((s' ++ [i]).length : Int) - 1) = s'.length := by rw [List.length_append, List.length_singleton, Go.IntWalk.wrap64_in _ (by omega)]; omega
 have h2 : rd (s' ++ [i]) (s'.length : Int) = i := by simp [rd]
 have h3 : (s' ++ [i]).take ((s'.length : Int)).toNat = s' := by simp
 rw [table_order.l0, h1, h2, h3]
 rw [if_pos (by rw [List.length_append, List.length_singleton]; omega), if_pos (by omega), if_pos (by rw [List.length_append, List.length_singleton]; omega), if_pos (by rw [List.length_append, List.length_singleton]; omega)]
 simp only [rd_T34, rdOf, leaf_f, Option.bind_some, decide_eq_true_eq]
 simp only [List.length_cons, List.length_nil]
theorem getD_set_ne {α : Type} (l : List α) (d x : α) {i j : Nat} (h : i ≠ j) : (l.set i x).getD j d = l.getD j d := by
 simp only [List.getD, List.getElem?_set, if_neg h]
theorem getD_set_eq {α : Type} (l : List α) (d x : α) {i : Nat} (h : i < l.length) : (l.set i x).getD i d = x := by
 simp [List.getD, h]
theorem order_inv (t : List S34) (hf : FormT t) : ∀ (k : Nat) (met : List Bool) (out s res : List Int), met.length = t.length → s.length < 17592186044416 → table_order.l0 k t met out s.reverse = some res → res = [] ∨
  ∃ ps, plF t k s = some ps ∧ res = out ++ ps ∧ ps.Nodup ∧ ∀ p ∈ ps, met.getD p.toNat false = false ∧ 0 ≤ p ∧ p < t.length := by
 intro k
 induction k with
 | zero => intro met out s res _ _ h; simp [table_order.l0] at h
 | succ k ih =>
  intro met out s res hm hsl h
  cases s with
  | nil =>
   rw [List.reverse_nil, order_nil] at h
   injection h with h
   exact .inr ⟨[], rfl, by rw [← h, List.append_nil], List.nodup_nil, fun p hp => absurd hp (by simp)⟩
  | cons i s =>
   have hsl' : s.length < 17592186044416 := by rw [List.length_cons] at hsl; omega
   rw [order_step _ _ _ _ _ _ hsl'] at h
   split at h
   case isFalse => exact absurd h (by simp)
   rename_i h0
   split at h
   case isFalse => exact absurd h (by simp)
   rename_i h1
   split at h
   ·injection h with h; exact .inl h.symm
   rename_i hmet
   rw [Bool.not_eq_true] at hmet
   split at h
   case isFalse => exact absurd h (by simp)
   split at h
   case isFalse => exact absurd h (by simp)
   rename_i h2
   have hi : i.toNat < t.length := by omega
   split at h
   ·rename_i hlf
    rcases ih _ _ s res (by rw [List.length_set, hm]) hsl' h with e | ⟨ps, hp, hr, hn, hu⟩
    ·exact .inl e
    ·have hT : mkT t (k + 1) i.toNat = some (.node (t.getD i.toNat z34) i.toNat .nil .nil) := by rw [mkT, if_pos hi, if_neg (by omega)]
     refine .inr ⟨_, plF_mk h0 hT (plF_mono hp), ?_, ?_, ?_⟩
     ·rw [hr]; simp only [plT, List.append_assoc, List.nil_append, List.cons_append]; rw [Int.toNat_of_nonneg h0]
     ·simp only [plT, List.nil_append, List.cons_append, List.nodup_cons]
      refine ⟨fun hmem => ?_, hn⟩
      have := (hu _ hmem).1
      rw [Int.toNat_natCast, getD_set_eq _ _ _ (by omega)] at this
      exact absurd this (by simp)
     ·intro p hp'
      simp only [plT, List.nil_append, List.cons_append, List.mem_cons] at hp'
      rcases hp' with rfl | hp'
      ·rw [Int.toNat_natCast]; exact ⟨hmet, by omega, by omega⟩
      ·have h3 := hu p hp'
       by_cases e : i.toNat = p.toNat
       ·rw [← e]; exact ⟨hmet, h3.2⟩
       ·rw [getD_set_ne _ _ _ e] at h3; exact h3
   ·rename_i hlf
    split at h
    case isFalse => exact absurd h (by simp)
    rename_i hs2
    have hk := hf i.toNat hi
    rcases ih _ _ (_ :: _ :: s) res (by rw [List.length_set, hm]) (by simp only [List.length_cons]; omega) h with e | ⟨ps, hp, hr, hn, hu⟩
    ·exact .inl e
    ·obtain ⟨Tl, q1, g0, hl, hp1, rfl⟩ := plF_cons hp
     obtain ⟨Tr', q2, g1, hr', hp2, rfl⟩ := plF_cons hp1
     have hT : mkT t (k + 1) i.toNat = some (.node (t.getD i.toNat z34) i.toNat Tl Tr') := by rw [mkT, if_pos hi, if_pos g0, hl, Option.bind_some, hr', Option.bind_some]
     refine .inr ⟨_, plF_mk h0 hT (plF_mono hp2), ?_, ?_, ?_⟩
     ·rw [hr]; simp only [plT, List.append_assoc, List.nil_append, List.cons_append]; rw [Int.toNat_of_nonneg h0]
     ·simp only [plT, List.cons_append, List.nodup_cons, List.append_assoc]
      refine ⟨fun hmem => ?_, hn⟩
      have := (hu _ hmem).1
      rw [Int.toNat_natCast, getD_set_eq _ _ _ (by omega)] at this
      exact absurd this (by simp)
     ·intro p hp'
      simp only [plT, List.cons_append, List.mem_cons, List.append_assoc] at hp'
      rcases hp' with rfl | hp'
      ·rw [Int.toNat_natCast]; exact ⟨hmet, by omega, by omega⟩
      ·have h3 := hu p hp'
       by_cases e : i.toNat = p.toNat
       ·rw [← e]; exact ⟨hmet, h3.2⟩
       ·rw [getD_set_ne _ _ _ e] at h3; exact h3
theorem order_tree (t : List S34) (hlen : t.length ≤ 100000) (hf : FormT t) (K : Nat) : ∀ (k : Nat) (met : List Bool) (out s ps : List Int), met.length = t.length → plF t K s = some ps → ps.Nodup → (∀ p ∈ ps, met.getD p.toNat false = false) → ps.length < k → out.length + ps.length ≤ 1000000 →
  table_order.l0 k t met out s.reverse = some (out ++ ps) := by
 intro k
 induction k with
 | zero => intro met out s ps _ _ _ _ h; exact absurd h (by omega)
 | succ k ih =>
  intro met out s ps hm hp hn hu hk ho
  cases s with
  | nil =>
   rw [plF] at hp
   injection hp with hp
   subst hp
   rw [List.reverse_nil, order_nil, List.append_nil]
  | cons i s =>
   obtain ⟨T, q, h0, hT, hq, rfl⟩ := plF_cons hp
   have hsl := plF_len hp
   rw [List.length_cons, List.length_append] at hsl
   have hsl2 := plF_len hq
   rw [List.length_append] at hk ho
   rw [order_step _ _ _ _ _ _ (by omega), if_pos h0]
   cases K with
   | zero => simp [mkT] at hT
   | succ K =>
    have hT0 := hT
    rw [mkT] at hT
    split at hT
    case isFalse => exact absurd hT (by simp)
    rename_i hi
    split at hT
    ·rename_i h4
     obtain ⟨Tl, hl, hT⟩ := Option.bind_eq_some_iff.1 hT
     obtain ⟨Tr', hr, hT⟩ := Option.bind_eq_some_iff.1 hT
     obtain rfl := Option.some.inj hT
     simp only [plT, List.cons_append, List.nodup_cons, List.append_assoc, List.length_cons, List.length_append] at hn hk ho hsl ⊢
     have hmi := hu i.toNat (by simp [plT])
     rw [Int.toNat_natCast] at hmi
     have h5 : 0 ≤ (t.getD i.toNat z34).f5 := by have := hf i.toNat hi; omega
     rw [if_pos (by omega), if_neg (by rw [hmi]; simp), if_pos (by omega), if_pos (by omega), if_neg (by omega), if_pos (by omega)]
     rw [ih _ _ (_ :: _ :: s) _ (by rw [List.length_set, hm]) (plF_mk h4 (mkT_mono t _ _ _ hl) (plF_mk h5 (mkT_mono t _ _ _ hr) hq)) hn.2 ?_ (by simp only [List.length_append]; omega) (by simp only [List.length_append, List.length_singleton]; omega)]
     ·rw [Int.toNat_of_nonneg h0]; simp
     ·intro p hp'
      by_cases e : i.toNat = p.toNat
      ·exfalso
       have hnn := (plF_mem hp p (by simp only [plT, List.cons_append, List.append_assoc]; exact List.mem_cons_of_mem _ hp')).1
       exact hn.1 (by rw [show ((i.toNat : Nat) : Int) = p by omega]; exact hp')
      ·rw [getD_set_ne _ _ _ e]
       exact hu p (by simp only [plT, List.cons_append, List.append_assoc]; exact List.mem_cons_of_mem _ hp')
    ·rename_i h4
     obtain rfl := Option.some.inj hT
     simp only [plT, List.cons_append, List.nodup_cons, List.nil_append, List.length_cons] at hn hk ho hsl ⊢
     have hmi := hu i.toNat (by simp [plT])
     rw [Int.toNat_natCast] at hmi
     have h45 := hf i.toNat hi
     rw [if_pos (by omega), if_neg (by rw [hmi]; simp), if_pos (by omega), if_pos (by omega), if_pos (by omega)]
     rw [ih _ _ s _ (by rw [List.length_set, hm]) hq hn.2 ?_ (by omega) (by simp only [List.length_append, List.length_singleton]; omega)]
     ·rw [Int.toNat_of_nonneg h0]; simp
     ·intro p hp'
      by_cases e : i.toNat = p.toNat
      ·exfalso
       have hnn := (plF_mem hq p hp').1
       exact hn.1 (by rw [show ((i.toNat : Nat) : Int) = p by omega]; exact hp')
      ·rw [getD_set_ne _ _ _ e]
       exact hu p (by simp only [plT, List.cons_append, List.nil_append]; exact List.mem_cons_of_mem _ hp')
def cntT : List Bool → Nat
 | [] => 0
 | b :: l => (if b then 1 else 0) + cntT l
theorem cntT_le : ∀ l, cntT l ≤ l.length
 | [] => Nat.le_refl _
 | b :: l => by have := cntT_le l; rw [cntT, List.length_cons]; split <;> omega
theorem cntT_set : ∀ (l : List Bool) (i : Nat), i < l.length → l.getD i false = false → cntT (l.set i true) = cntT l + 1
 | [], _, h, _ => absurd h (by simp)
 | b :: l, 0, _, h => by
  simp only [List.getD_cons_zero] at h
  subst h
  simp only [sZ, cntT, if_true]
  rw [if_neg (by simp)]
  omega
 | b :: l, i + 1, h, h' => by
  rw [List.getD_cons_succ] at h'
  rw [sS, cntT, cntT, cntT_set l i (by rw [List.length_cons] at h; omega) h']
  omega
theorem order_total (t : List S34) (hlen : t.length ≤ 100000) (hf : FormT t) : ∀ (k : Nat) (met : List Bool) (out s : List Int), met.length = t.length → (∀ i ∈ s, 0 ≤ i ∧ i < t.length) → cntT met = out.length → s.length ≤ out.length + 1 → t.length + 1 ≤ k + out.length → 0 < k → ∃ res, table_order.l0 k t met out s.reverse = some res := by
 intro k
 induction k with
 | zero => intro met out s _ _ _ _ _ h; exact absurd h (by omega)
 | succ k ih =>
  intro met out s hm hr hc hs hk _
  have hcl := cntT_le met
  cases s with
  | nil => exact ⟨out, by rw [List.reverse_nil, order_nil]⟩
  | cons i s =>
   rw [List.length_cons] at hs
   have hi := hr i List.mem_cons_self
   rw [order_step _ _ _ _ _ _ (by omega), if_pos hi.1, if_pos (by omega)]
   by_cases hmet : met.getD i.toNat false = true
   ·exact ⟨[], by rw [if_pos hmet]⟩
   ·rw [if_neg hmet, if_pos (by omega), if_pos hi.2]
    rw [Bool.not_eq_true] at hmet
    have hcs := cntT_set met i.toNat (by omega) hmet
    have hcl2 := cntT_le (met.set i.toNat true)
    rw [List.length_set] at hcl2
    have hk1 := hf i.toNat (by omega)
    by_cases hlf : (t.getD i.toNat z34).f4 = -1 ∧ (t.getD i.toNat z34).f5 = -1
    ·rw [if_pos hlf]
     by_cases hk0 : 0 < k
     ·exact ih _ _ s (by rw [List.length_set, hm]) (fun j hj => hr j (List.mem_cons_of_mem _ hj)) (by rw [hcs, List.length_append, List.length_singleton, hc]) (by rw [List.length_append, List.length_singleton]; omega) (by rw [List.length_append, List.length_singleton]; omega) hk0
     ·omega
    ·rw [if_neg hlf, if_pos (by omega)]
     exact ih _ _ (_ :: _ :: s) (by rw [List.length_set, hm]) (fun j hj => by
      simp only [List.mem_cons] at hj
      rcases hj with rfl | rfl | hj
      ·omega
      ·omega
      ·exact hr j (List.mem_cons_of_mem _ hj)) (by rw [hcs, List.length_append, List.length_singleton, hc]) (by simp only [List.length_append, List.length_singleton, List.length_cons]; omega) (by rw [List.length_append, List.length_singleton]; omega) (by omega)
theorem up_to {α : Type} {f : Nat → Option α} (h : ∀ k, LeO (f k) (f (k + 1))) {k k' : Nat} (hk : k ≤ k') {r : α} (hr : f k = some r) : f k' = some r := by
 induction hk with
 | refl => exact hr
 | step _ ih => exact h _ _ ih
def fmN (n : S34) (len : Nat) : Bool := formedB n.f0 n.f1 n.f2 n.f3 n.f4 n.f5 len
theorem fmN_iff (n : S34) (len : Nat) : fmN n len = true ↔ (0 ≤ n.f2 ∧ n.f2 ≤ 1000000) ∧ (n.f1 = 0 ∨ (n.f1 = 1 ∧ n.f0 = 0 ∧ n.f3 = 0)) ∧ ((n.f4 = -1 ∧ n.f5 = -1) ∨ (n.f3 = 0 ∧ 1 ≤ n.f4 ∧ n.f4 < len ∧ 1 ≤ n.f5 ∧ n.f5 < len ∧ n.f4 ≠ n.f5)) := by
 unfold fmN formedB childB
 by_cases h1 : n.f2 < 0 ∨ 1000000 < n.f2 ∨ (n.f1 ≠ 0 ∧ n.f1 ≠ 1)
 ·rw [if_pos h1]; constructor
  ·intro h; exact absurd h (by simp)
  ·intro h; omega
 ·rw [if_neg h1]
  by_cases h2 : n.f1 = 1 ∧ (n.f0 ≠ 0 ∨ n.f3 ≠ 0)
  ·rw [if_pos h2]; constructor
   ·intro h; exact absurd h (by simp)
   ·intro h; omega
  ·rw [if_neg h2]
   by_cases h3 : n.f4 = -1 ∧ n.f5 = -1
   ·rw [if_pos h3]; constructor
    ·intro _; omega
    ·intro _; rfl
   ·rw [if_neg h3]
    simp only [Bool.and_eq_true, decide_eq_true_eq]
    omega
structure Good (t : List S34) (T : Tr) : Prop where
 len : t.length ≤ 100000
 form : ∀ i, i < t.length → fmN (t.getD i z34) t.length = true
 tree : mkT t t.length 0 = some T
 nodup : (plT T).Nodup
 all : (plT T).length = t.length
theorem formT_of {t : List S34} (h : ∀ i, i < t.length → fmN (t.getD i z34) t.length = true) : FormT t := fun i hi => by
 have := (fmN_iff _ _).1 (h i hi)
 omega
theorem Good.pos {t : List S34} {T : Tr} (h : Good t T) : 0 < t.length := by
 have := h.tree
 cases ht : t.length with
 | zero => rw [ht] at this; simp [mkT] at this
 | succ n => omega
theorem sizeN_pl : ∀ T, sizeN T = (plT T).length
 | .nil => rfl
 | .node _ _ l r => by rw [sizeN, plT, List.length_cons, List.length_append, sizeN_pl l, sizeN_pl r]; omega
theorem mkT_size {t : List S34} : ∀ {k i : Nat} {T : Tr}, mkT t k i = some T → mkT t (sizeN T) i = some T := by
 intro k
 induction k with
 | zero => intro i T h; simp [mkT] at h
 | succ k ih =>
  intro i T h
  rw [mkT] at h
  split at h
  case isFalse => exact absurd h (by simp)
  rename_i hi
  split at h
  ·rename_i h4
   obtain ⟨l, hl, h⟩ := Option.bind_eq_some_iff.1 h
   obtain ⟨r, hr, h⟩ := Option.bind_eq_some_iff.1 h
   obtain rfl := Option.some.inj h
   rw [sizeN, show 1 + sizeN l + sizeN r = (sizeN l + sizeN r) + 1 by omega, mkT, if_pos hi, if_pos h4, mkT_le t (Nat.le_add_right _ _) (ih hl), Option.bind_some, mkT_le t (Nat.le_add_left _ _) (ih hr), Option.bind_some]
  ·rename_i h4
   obtain rfl := Option.some.inj h
   rw [sizeN, sizeN, show 1 + 0 + 0 = 0 + 1 by omega, mkT, if_pos hi, if_neg h4]
theorem order_f (k : Nat) (t : List S34) (hlen : t.length ≤ 100000) (a : Int) : table_order.f k t a = table_order.l0 k t (List.replicate t.length false) [] ([a] : List Int).reverse := by
 unfold table_order.f
 rw [if_pos (by omega), if_pos (by omega), Int.toNat_natCast]
 rfl
theorem cntT_replicate : ∀ n, cntT (List.replicate n false) = 0
 | 0 => rfl
 | n + 1 => by rw [List.replicate_succ, cntT, cntT_replicate n]; simp
theorem order_f_total (t : List S34) (hlen : t.length ≤ 100000) (hf : FormT t) (a : Int) (h0 : 0 ≤ a) (ha : a < t.length) (k : Nat) (hk : t.length + 1 ≤ k) : ∃ res, table_order.f k t a = some res := by
 rw [order_f _ _ hlen]
 exact order_total t hlen hf k _ [] [a] List.length_replicate (fun i hi => by rw [List.mem_singleton] at hi; subst hi; exact ⟨h0, ha⟩) (cntT_replicate _) (by simp) (by simp; omega) (by omega)
theorem getD_replicate_false (n i : Nat) : (List.replicate n false).getD i false = false := by
 simp only [List.getD, List.getElem?_replicate]
 split <;> rfl
theorem order_f_tree {t : List S34} (hlen : t.length ≤ 100000) (hf : FormT t) {K : Nat} {a : Int} {T : Tr} (h0 : 0 ≤ a) (hT : mkT t K a.toNat = some T) (hn : (plT T).Nodup) (hl : (plT T).length ≤ 1000000) (k : Nat) (hk : (plT T).length < k) : table_order.f k t a = some (plT T) := by
 rw [order_f _ _ hlen]
 have hp := plF_mk h0 hT (plF.eq_1 t K)
 rw [List.append_nil] at hp
 rw [order_tree t hlen hf K k _ [] [a] (plT T) List.length_replicate hp hn (fun _ _ => getD_replicate_false _ _) hk (by simpa using hl)]
 rfl
theorem good_of_order {t : List S34} (hlen : t.length ≤ 100000) (hpos : 0 < t.length) (hf : ∀ i, i < t.length → fmN (t.getD i z34) t.length = true) {k : Nat} {res : List Int} (h : table_order.f k t 0 = some res) (hr : res.length = t.length) : ∃ T, Good t T := by
 rw [order_f _ _ hlen] at h
 rcases order_inv t (formT_of hf) k _ [] [0] res List.length_replicate (by simp) h with e | ⟨ps, hp, e, hn, _⟩
 ·rw [e] at hr; simp at hr; omega
 ·obtain ⟨T, q, _, hT, hq, rfl⟩ := plF_cons hp
  rw [plF] at hq
  injection hq with hq
  subst hq
  rw [List.append_nil] at e hn
  rw [List.nil_append] at e
  have hT2 := mkT_size hT
  rw [sizeN_pl, ← e, hr] at hT2
  exact ⟨T, hlen, hf, hT2, hn, by rw [← e]; exact hr⟩
theorem formed_f (n : S34) (len : Nat) : table_formed.f n.f0 n.f1 n.f2 n.f3 n.f4 n.f5 len = some (fmN n len) := rfl
theorem check_l0 (t : List S34) (hlen : t.length ≤ 100000) (hpos : 0 < t.length) : ∀ (d i k : Nat), i + d = t.length → t.length + 2 + d ≤ k → (∀ j, j < i → fmN (t.getD j z34) t.length = true) →
  ∃ r, table_Check.l0 k t t t.length i = some r ∧ (r = 0 → ∃ T, Good t T) := by
 intro d
 induction d with
 | zero =>
  intro i k hi hk hpre
  cases k with
  | zero => omega
  | succ k =>
   have hf : ∀ j, j < t.length → fmN (t.getD j z34) t.length = true := fun j hj => hpre j (by omega)
   obtain ⟨res, hr⟩ := order_f_total t hlen (formT_of hf) 0 (by omega) (by omega) k (by omega)
   rw [table_Check.l0, if_neg (by omega), hr, Option.bind_some]
   by_cases e : (res.length : Int) = t.length
   ·exact ⟨0, if_pos e, fun _ => good_of_order hlen hpos hf hr (by omega)⟩
   ·exact ⟨3, if_neg e, fun h => absurd h (by decide)⟩
 | succ d ih =>
  intro i k hi hk hpre
  cases k with
  | zero => omega
  | succ k =>
   rw [table_Check.l0, if_pos (by omega), if_pos (by omega), if_pos (by omega)]
   simp only [rd_T34, formed_f, Option.bind_some, Int.toNat_natCast]
   by_cases e : fmN (t.getD i z34) t.length = true
   ·rw [if_pos e, Go.IntWalk.wrap64_in _ (by omega)]
    exact ih (i + 1) k (by omega) (by omega) (fun j hj => by
     by_cases ej : j = i
     ·rw [ej]; exact e
     ·exact hpre j (by omega))
   ·rw [if_neg e]
    exact ⟨3, rfl, fun h => absurd h (by decide)⟩
theorem check_total (t : List S34) : ∃ k r, table_Check.f k t = some r ∧ (r = 0 → ∃ T, Good t T) := by
 unfold table_Check.f
 by_cases h1 : (t.length : Int) > 100000
 ·exact ⟨0, 2, by rw [if_pos h1], fun h => absurd h (by decide)⟩
 ·by_cases h2 : (t.length : Int) = 0
  ·exact ⟨0, 3, by rw [if_neg h1, if_pos h2], fun h => absurd h (by decide)⟩
  ·obtain ⟨r, h, h'⟩ := check_l0 t (by omega) (by omega) t.length 0 (t.length + 2 + t.length) (by omega) (Nat.le_refl _) (fun j hj => absurd hj (by omega))
   exact ⟨_, r, by rw [if_neg h1, if_neg h2]; exact h, h'⟩
theorem check_l0_good {t : List S34} {T : Tr} (hg : Good t T) : ∀ (d i k : Nat), i + d = t.length → t.length + 2 + d ≤ k → table_Check.l0 k t t t.length i = some 0 := by
 have hlen := hg.len
 intro d
 induction d with
 | zero =>
  intro i k hi hk
  cases k with
  | zero => omega
  | succ k =>
   rw [table_Check.l0, if_neg (by omega), order_f_tree hg.len (formT_of hg.form) (by omega) hg.tree hg.nodup (by rw [hg.all]; omega) k (by rw [hg.all]; omega), Option.bind_some, if_pos (by rw [hg.all])]
 | succ d ih =>
  intro i k hi hk
  cases k with
  | zero => omega
  | succ k =>
   rw [table_Check.l0, if_pos (by omega), if_pos (by omega), if_pos (by omega)]
   simp only [rd_T34, formed_f, Option.bind_some, Int.toNat_natCast]
   rw [if_pos (hg.form i (by omega)), Go.IntWalk.wrap64_in _ (by omega)]
   exact ih (i + 1) k (by omega) (by omega)
theorem check_good {t : List S34} {T : Tr} (hg : Good t T) : ∃ k, table_Check.f k t = some 0 := by
 have h1 := hg.len
 have h2 := hg.pos
 refine ⟨t.length + 2 + t.length, ?_⟩
 unfold table_Check.f
 rw [if_neg (by omega), if_neg (by omega)]
 exact check_l0_good hg t.length 0 _ (by omega) (Nat.le_refl _)
def sn34 : S34 := ⟨0, 1, 1, 0, -1, -1⟩
def snB (x : S34) : Bool := x.f0 == 0 && (x.f1 == 1 && (x.f2 == 1 && (x.f3 == 0 && (x.f4 == (-1 : Int) && x.f5 == (-1 : Int)))))
theorem sent_iff (x : S34) : snB x = true ↔ x = sn34 := by
 obtain ⟨a, b, c, d, e, f⟩ := x
 simp only [snB, Bool.and_eq_true, beq_iff_eq, sn34, S34.mk.injEq]
def crP (t : List S34) (n : S34) : Prop := ¬ (n.f4 = -1 ∧ n.f5 = -1) ∧ n.f1 = 1 ∧ n.f2 = 1 ∧ t.getD n.f5.toNat z34 = sn34
theorem crowned_f (t : List S34) (n : S34) (hn : fmN n t.length = true) : ∃ b, table_crowned.f t n.f0 n.f1 n.f2 n.f3 n.f4 n.f5 = some b ∧ (b = true ↔ crP t n) := by
 have hn' := (fmN_iff _ _).1 hn
 unfold table_crowned.f
 rw [leaf_f, Option.bind_some]
 by_cases hl : n.f4 = -1 ∧ n.f5 = -1
 ·exact ⟨false, by rw [if_pos (by simpa using hl)], by simp [crP, hl]⟩
 ·rw [if_neg (by simpa using hl)]
  by_cases h1 : n.f1 = 1
  ·rw [if_pos h1]
   by_cases h2 : n.f2 = 1
   ·rw [if_pos h2, if_pos (by omega), if_pos (by omega)]
    refine ⟨_, rfl, ?_⟩
    exact ⟨fun h => ⟨hl, h1, h2, (sent_iff _).1 h⟩, fun h => (sent_iff _).2 h.2.2.2⟩
   ·exact ⟨false, by rw [if_neg h2], by simp [crP, h2]⟩
  ·exact ⟨false, by rw [if_neg h1], by simp [crP, h1]⟩
def allT (P : S34 → Prop) : Tr → Prop
 | .nil => True
 | .node n _ l r => P n ∧ allT P l ∧ allT P r
theorem allT_mkT {t : List S34} {P : S34 → Prop} : ∀ {k i : Nat} {T : Tr}, mkT t k i = some T → (allT P T ↔ ∀ p ∈ plT T, P (t.getD p.toNat z34)) := by
 intro k
 induction k with
 | zero => intro i T h; simp [mkT] at h
 | succ k ih =>
  intro i T h
  rw [mkT] at h
  split at h
  case isFalse => exact absurd h (by simp)
  rename_i hi
  split at h
  ·rename_i h4
   obtain ⟨l, hl, h⟩ := Option.bind_eq_some_iff.1 h
   obtain ⟨r, hr, h⟩ := Option.bind_eq_some_iff.1 h
   obtain rfl := Option.some.inj h
   rw [allT, ih hl, ih hr, plT]
   constructor
   ·rintro ⟨h1, h2, h3⟩ p hp
    simp only [List.mem_cons, List.mem_append] at hp
    rcases hp with rfl | hp | hp
    ·rwa [Int.toNat_natCast]
    ·exact h2 p hp
    ·exact h3 p hp
   ·intro hh
    exact ⟨by have := hh i List.mem_cons_self; rwa [Int.toNat_natCast] at this, fun p hp => hh p (List.mem_cons_of_mem _ (List.mem_append_left _ hp)), fun p hp => hh p (List.mem_cons_of_mem _ (List.mem_append_right _ hp))⟩
  ·obtain rfl := Option.some.inj h
   simp [allT, plT]
def plc : Tr → Int
 | .nil => -1
 | .node _ p _ _ => p
theorem mkT_plc {t : List S34} {k i : Nat} {T : Tr} (h : mkT t k i = some T) : plc T = i := by
 cases k with
 | zero => simp [mkT] at h
 | succ k =>
  rw [mkT] at h
  split at h
  case isFalse => exact absurd h (by simp)
  split at h
  ·obtain ⟨l, hl, h⟩ := Option.bind_eq_some_iff.1 h
   obtain ⟨r, hr, h⟩ := Option.bind_eq_some_iff.1 h
   obtain rfl := Option.some.inj h
   rfl
  ·obtain rfl := Option.some.inj h
   rfl
def Crown (T X0 : Tr) : Prop := ∃ n0 n1 p1 q1 q0, T = .node n0 0 (.node n1 p1 X0 (.node sn34 q1 .nil .nil)) (.node sn34 q0 .nil .nil) ∧ n0.f1 = 1 ∧ n0.f2 = 1 ∧ n1.f1 = 1 ∧ n1.f2 = 1 ∧ allT (fun n => n.f1 = 0) X0 ∧ X0 ≠ .nil
theorem mkT_inner {t : List S34} (hf : ∀ i, i < t.length → fmN (t.getD i z34) t.length = true) {k i : Nat} {T : Tr} (h : mkT t k i = some T) (hl : ¬ ((t.getD i z34).f4 = -1 ∧ (t.getD i z34).f5 = -1)) :
  ∃ k' l r, k = k' + 1 ∧ i < t.length ∧ mkT t k' (t.getD i z34).f4.toNat = some l ∧ mkT t k' (t.getD i z34).f5.toNat = some r ∧ T = .node (t.getD i z34) i l r := by
 cases k with
 | zero => simp [mkT] at h
 | succ k =>
  rw [mkT] at h
  split at h
  case isFalse => exact absurd h (by simp)
  rename_i hi
  have := (fmN_iff _ _).1 (hf i hi)
  rw [if_pos (by omega)] at h
  obtain ⟨l, hl, h⟩ := Option.bind_eq_some_iff.1 h
  obtain ⟨r, hr, h⟩ := Option.bind_eq_some_iff.1 h
  exact ⟨k, l, r, rfl, hi, hl, hr, (Option.some.inj h).symm⟩
theorem mkT_leaf {t : List S34} (hf : ∀ i, i < t.length → fmN (t.getD i z34) t.length = true) {k i : Nat} {T : Tr} (h : mkT t k i = some T) (hl : (t.getD i z34).f4 = -1 ∧ (t.getD i z34).f5 = -1) : i < t.length ∧ T = .node (t.getD i z34) i .nil .nil := by
 cases k with
 | zero => simp [mkT] at h
 | succ k =>
  rw [mkT] at h
  split at h
  case isFalse => exact absurd h (by simp)
  rename_i hi
  rw [if_neg (by omega)] at h
  exact ⟨hi, (Option.some.inj h).symm⟩
theorem mkT_node {t : List S34} (hf : ∀ i, i < t.length → fmN (t.getD i z34) t.length = true) {k i : Nat} {n : S34} {p : Int} {l r : Tr} (h : mkT t k i = some (.node n p l r)) : i < t.length ∧ n = t.getD i z34 ∧ p = i ∧ (l ≠ .nil → ¬ (n.f4 = -1 ∧ n.f5 = -1) ∧ ∃ k', k = k' + 1 ∧ mkT t k' n.f4.toNat = some l ∧ mkT t k' n.f5.toNat = some r) := by
 by_cases hl : (t.getD i z34).f4 = -1 ∧ (t.getD i z34).f5 = -1
 ·obtain ⟨hi, e⟩ := mkT_leaf hf h hl
  injection e with e1 e2 e3 e4
  exact ⟨hi, e1, e2, fun hn => absurd e3 hn⟩
 ·obtain ⟨k', l', r', hk, hi, h1, h2, e⟩ := mkT_inner hf h hl
  injection e with e1 e2 e3 e4
  subst e1 e3 e4
  exact ⟨hi, rfl, e2, fun _ => ⟨hl, k', hk, h1, h2⟩⟩
theorem crown_cr {t : List S34} {T X0 : Tr} (hg : Good t T) (h : Crown T X0) : crP t (t.getD 0 z34) ∧ t.getD (t.getD 0 z34).f4.toNat z34 ≠ sn34 ∧ crP t (t.getD (t.getD 0 z34).f4.toNat z34) := by
 obtain ⟨n0, n1, p1, q1, q0, rfl, c1, c2, c3, c4, _, hXn⟩ := h
 obtain ⟨h1, h2, _, h3⟩ := mkT_node hg.form hg.tree
 obtain ⟨h4, k1, hk1, h5, h6⟩ := h3 (by simp)
 subst h2
 obtain ⟨_, g2, _, _⟩ := mkT_node hg.form h6
 obtain ⟨e1, e2, _, e3⟩ := mkT_node hg.form h5
 obtain ⟨e4, k2, hk2, e5, e6⟩ := e3 hXn
 subst e2
 obtain ⟨_, d2, _, _⟩ := mkT_node hg.form e6
 exact ⟨⟨h4, c1, c2, g2.symm⟩, fun e => e4 (by rw [e]; exact ⟨rfl, rfl⟩), e4, c3, c4, d2.symm⟩
theorem root_l0 (t : List S34) (v0 v1 v2 v3 v4 v5 : Int) (ps : List Int) (hp : ∀ p ∈ ps, 0 ≤ p ∧ p < t.length) (hlen : ps.length ≤ 1000000) : ∀ (d i k : Nat), i + d = ps.length → d < k → (∀ j, j < i → (t.getD (ps.getD j 0).toNat z34).f1 = 0) →
  ∃ r1 r2, table_Root.l0 k t ps ps.length i v0 v1 v2 v3 v4 v5 = some (r1, r2) ∧ (r2 = 0 → r1 = v4 ∧ ∀ j, j < ps.length → (t.getD (ps.getD j 0).toNat z34).f1 = 0) ∧ ((∀ j, j < ps.length → (t.getD (ps.getD j 0).toNat z34).f1 = 0) → r1 = v4 ∧ r2 = 0) := by
 intro d
 induction d with
 | zero =>
  intro i k hi hk hpre
  cases k with
  | zero => omega
  | succ k =>
   rw [table_Root.l0, if_neg (by omega)]
   exact ⟨v4, 0, rfl, fun _ => ⟨rfl, fun j hj => hpre j (by omega)⟩, fun _ => ⟨rfl, rfl⟩⟩
 | succ d ih =>
  intro i k hi hk hpre
  cases k with
  | zero => omega
  | succ k =>
   have hm : ps.getD i 0 ∈ ps := by rw [List.getD, List.getElem?_eq_getElem (by omega), Option.getD_some]; exact List.getElem_mem _
   have hr := hp _ hm
   rw [table_Root.l0, if_pos (by omega), if_pos (by omega), if_pos (by omega)]
   rw [show rd ps (i : Int) = ps.getD i 0 from rfl, show rd_T34 t (ps.getD i 0) = t.getD (ps.getD i 0).toNat z34 from rfl]
   rw [if_pos hr.1, if_pos hr.2]
   by_cases e : (t.getD (ps.getD i 0).toNat z34).f1 = 0
   ·rw [if_pos e, Go.IntWalk.wrap64_in _ (by omega)]
    exact ih (i + 1) k (by omega) (by omega) (fun j hj => by
     by_cases ej : j = i
     ·rw [ej]; exact e
     ·exact hpre j (by omega))
   ·rw [if_neg e]
    exact ⟨0, 3, rfl, fun h => absurd h (by decide), fun h => absurd (h i (by omega)) e⟩
theorem allmem (t : List S34) (ps : List Int) : (∀ j, j < ps.length → (t.getD (ps.getD j 0).toNat z34).f1 = 0) ↔ ∀ p ∈ ps, (t.getD p.toNat z34).f1 = 0 := by
 constructor
 ·intro h p hp
  obtain ⟨j, hj, rfl⟩ := List.getElem_of_mem hp
  have := h j hj
  rwa [show ps.getD j 0 = ps[j] by rw [List.getD, List.getElem?_eq_getElem hj, Option.getD_some]] at this
 ·intro h j hj
  rw [show ps.getD j 0 = ps[j] by rw [List.getD, List.getElem?_eq_getElem hj, Option.getD_some]]
  exact h _ (List.getElem_mem _)
theorem nodup_app_l {α : Type} {a b : List α} (h : (a ++ b).Nodup) : a.Nodup := (List.nodup_append.1 h).1
theorem root_good {t : List S34} {T : Tr} (hg : Good t T) : ∃ k r1 r2, table_Root.f k t = some (r1, r2) ∧ (r2 = 0 → ∃ X0, Crown T X0 ∧ plc X0 = r1) ∧ (∀ X0, Crown T X0 → r2 = 0 ∧ r1 = plc X0) := by
 have hlen := hg.len
 have hpos := hg.pos
 have htr := hg.tree
 obtain ⟨kc, hc⟩ := check_good hg
 have f0 := hg.form 0 hpos
 obtain ⟨b0, hb0, hb0'⟩ := crowned_f t (t.getD 0 z34) f0
 have hroot : ∀ k, kc ≤ k → table_Root.f k t = if b0 = true then (if 0 ≤ (t.getD 0 z34).f4 then (if (t.getD 0 z34).f4 < t.length then
   (if snB (t.getD (t.getD 0 z34).f4.toNat z34) = true then some (0, 4) else
    ((table_crowned.f t (t.getD (t.getD 0 z34).f4.toNat z34).f0 (t.getD (t.getD 0 z34).f4.toNat z34).f1 (t.getD (t.getD 0 z34).f4.toNat z34).f2 (t.getD (t.getD 0 z34).f4.toNat z34).f3 (t.getD (t.getD 0 z34).f4.toNat z34).f4 (t.getD (t.getD 0 z34).f4.toNat z34).f5).bind fun b1 => if b1 = true then
     ((table_order.f k t (t.getD (t.getD 0 z34).f4.toNat z34).f4).bind fun ps => table_Root.l0 k t ps ps.length 0 (t.getD (t.getD 0 z34).f4.toNat z34).f0 (t.getD (t.getD 0 z34).f4.toNat z34).f1 (t.getD (t.getD 0 z34).f4.toNat z34).f2 (t.getD (t.getD 0 z34).f4.toNat z34).f3 (t.getD (t.getD 0 z34).f4.toNat z34).f4 (t.getD (t.getD 0 z34).f4.toNat z34).f5) else some (0, 3))) else none) else none) else some (0, 3) := by
  intro k hk
  unfold table_Root.f
  rw [up_to (fun k => table_Check.mono t k) hk hc, Option.bind_some, if_pos rfl, if_pos (by omega)]
  rw [show rd_T34 t 0 = t.getD 0 z34 from rfl, show rd_T34 t (t.getD 0 z34).f4 = t.getD (t.getD 0 z34).f4.toNat z34 from rfl]
  rw [hb0, Option.bind_some]
  by_cases hb : b0 = true
  ·rw [if_pos hb, if_pos hb]
   simp only [table_sentinel.f, Option.bind_some]
   rfl
  ·rw [if_neg hb, if_neg hb]
 by_cases hb : b0 = true
 ·have hcr := hb0'.1 hb
  have f0' := (fmN_iff _ _).1 f0
  have hA : ¬ ((t.getD 0 z34).f4 = -1 ∧ (t.getD 0 z34).f5 = -1) := hcr.1
  obtain ⟨k1, l, r, hk1, _, hl, hr, hT⟩ := mkT_inner hg.form htr hcr.1
  have hrl := mkT_leaf hg.form hr (by rw [hcr.2.2.2]; exact ⟨rfl, rfl⟩)
  rw [hcr.2.2.2] at hrl
  have f1 := hg.form (t.getD 0 z34).f4.toNat (by omega)
  obtain ⟨b1, hb1, hb1'⟩ := crowned_f t _ f1
  by_cases hs : t.getD (t.getD 0 z34).f4.toNat z34 = sn34
  ·refine ⟨kc, 0, 4, ?_, fun h => absurd h (by decide), ?_⟩
   ·rw [hroot kc (Nat.le_refl _), if_pos hb, if_pos (by omega), if_pos (by omega), if_pos ((sent_iff _).2 hs)]
   ·rintro X0 ⟨n0, n1, p1, q1, q0, e, _⟩
    have := mkT_leaf hg.form hl (by rw [hs]; exact ⟨rfl, rfl⟩)
    rw [hT, this.2] at e
    injection e with _ _ e _
    injection e with _ _ _ e
    exact absurd e (by simp)
  ·by_cases hb1t : b1 = true
   ·have hcr1 := hb1'.1 hb1t
    have f1' := (fmN_iff _ _).1 f1
    have hB : ¬ ((t.getD (t.getD 0 z34).f4.toNat z34).f4 = -1 ∧ (t.getD (t.getD 0 z34).f4.toNat z34).f5 = -1) := hcr1.1
    obtain ⟨k2, X0, r1, hk2, hi2, hl1, hr1, hT1⟩ := mkT_inner hg.form hl hcr1.1
    have hrl1 := mkT_leaf hg.form hr1 (by rw [hcr1.2.2.2]; exact ⟨rfl, rfl⟩)
    rw [hcr1.2.2.2] at hrl1
    have hn := hg.nodup
    have ha := hg.all
    rw [hT, hT1] at hn ha
    simp only [plT, List.nodup_cons, List.cons_append, List.length_cons, List.length_append] at hn ha
    have hnX : (plT X0).Nodup := by
     have h1 := hn.2
     rw [List.append_assoc] at h1
     exact nodup_app_l h1.2
    have hord : ∀ k, t.length ≤ k → table_order.f k t (t.getD (t.getD 0 z34).f4.toNat z34).f4 = some (plT X0) := fun k hk => order_f_tree hlen (formT_of hg.form) (by omega) hl1 hnX (by omega) k (by omega)
    obtain ⟨q1, q2, hq, hq1, hq2⟩ := root_l0 t (t.getD (t.getD 0 z34).f4.toNat z34).f0 (t.getD (t.getD 0 z34).f4.toNat z34).f1 (t.getD (t.getD 0 z34).f4.toNat z34).f2 (t.getD (t.getD 0 z34).f4.toNat z34).f3 (t.getD (t.getD 0 z34).f4.toNat z34).f4 (t.getD (t.getD 0 z34).f4.toNat z34).f5 (plT X0) (plT_mem _ _ _ hl1).2 (by omega) (plT X0).length 0 (max kc (t.length + 1)) (by omega) (by omega) (fun j hj => absurd hj (by omega))
    have hpX : plc X0 = (t.getD (t.getD 0 z34).f4.toNat z34).f4 := by rw [mkT_plc hl1]; omega
    have hXn : X0 ≠ .nil := by rintro rfl; rw [plc] at hpX; omega
    refine ⟨max kc (t.length + 1), q1, q2, ?_, ?_, ?_⟩
    ·rw [hroot _ (Nat.le_max_left _ _), if_pos hb, if_pos (by omega), if_pos (by omega), if_neg (fun h => hs ((sent_iff _).1 h)), hb1, Option.bind_some, if_pos hb1t, hord _ (by omega), Option.bind_some]
     exact hq
    ·intro h0
     have h1 := hq1 h0
     refine ⟨X0, ⟨t.getD 0 z34, t.getD (t.getD 0 z34).f4.toNat z34, ((t.getD 0 z34).f4.toNat : Nat), ((t.getD (t.getD 0 z34).f4.toNat z34).f5.toNat : Nat), ((t.getD 0 z34).f5.toNat : Nat), ?_, hcr.2.1, hcr.2.2.1, hcr1.2.1, hcr1.2.2.1, ?_, hXn⟩, by rw [h1.1, hpX]⟩
     ·rw [hT, hT1, hrl.2, hrl1.2]; rfl
     ·exact (allT_mkT hl1).2 ((allmem t _).1 h1.2)
    ·rintro Y ⟨n0, n1, p1, q1', q0, e, _, _, _, _, hin, _⟩
     rw [hT, hT1] at e
     injection e with _ _ e _
     injection e with _ _ e _
     subst e
     have h1 := hq2 ((allmem t _).2 ((allT_mkT hl1).1 hin))
     exact ⟨h1.2, by rw [h1.1, hpX]⟩
   ·refine ⟨kc, 0, 3, ?_, fun h => absurd h (by decide), ?_⟩
    ·rw [hroot kc (Nat.le_refl _), if_pos hb, if_pos (by omega), if_pos (by omega), if_neg (fun h => hs ((sent_iff _).1 h)), hb1, Option.bind_some, if_neg hb1t]
    ·intro X0 hX
     exact absurd (hb1'.2 (crown_cr hg hX).2.2) hb1t
 ·refine ⟨kc, 0, 3, ?_, fun h => absurd h (by decide), ?_⟩
  ·rw [hroot kc (Nat.le_refl _), if_neg hb]
  ·intro X0 hX
   exact absurd (hb0'.2 (crown_cr hg hX).1) hb
def Ok : Tr → Prop
 | .nil => False
 | .node n _ l r => (0 ≤ n.f2 ∧ n.f2 ≤ 1000000) ∧ (n.f1 = 0 ∨ (n.f1 = 1 ∧ n.f0 = 0 ∧ n.f3 = 0)) ∧ ((l = .nil ∧ r = .nil ∧ n.f4 = -1 ∧ n.f5 = -1) ∨ (n.f3 = 0 ∧ Ok l ∧ Ok r))
def sums : Tr → Int → List Int
 | .nil, _ => []
 | .node n _ .nil _, a => [a + n.f2]
 | .node n _ (.node m p x y) r, a => sums (.node m p x y) (a + n.f2) ++ sums r (a + n.f2)
theorem ok_ne {T : Tr} (h : Ok T) : T ≠ .nil := by rintro rfl; exact h
theorem ok_split (m : Bool) {T : Tr} (h : Ok T) (hl : lT m T ≠ .nil ∨ rT m T ≠ .nil) : Ok (lT m T) ∧ Ok (rT m T) := by
 cases T with
 | nil => exact h.elim
 | node n p l r =>
  rw [Ok] at h
  rcases h.2.2 with h1 | h1
  ·obtain ⟨rfl, rfl, _⟩ := h1
   cases m <;> simp [lT, rT] at hl
  ·cases m
   ·exact ⟨h1.2.1, h1.2.2⟩
   ·exact ⟨h1.2.2, h1.2.1⟩
theorem ok_wt {T : Tr} (h : Ok T) : 0 ≤ wt T ∧ wt T ≤ 1000000 := by
 cases T with
 | nil => exact h.elim
 | node n p l r => exact h.1
theorem wt_pos_ne {T : Tr} (h : 0 ≤ wt T) : T ≠ .nil := by rintro rfl; simp [wt] at h
theorem sums_split (m : Bool) {T : Tr} (h : Ok T) (hl : lT m T ≠ .nil) (a : Int) : sums T a = if m then sums (rT m T) (a + wt T) ++ sums (lT m T) (a + wt T) else sums (lT m T) (a + wt T) ++ sums (rT m T) (a + wt T) := by
 have h2 := ok_split m h (.inl hl)
 cases T with
 | nil => exact h.elim
 | node n p l r =>
  cases m with
  | false =>
   cases l with
   | nil => exact absurd rfl hl
   | node _ _ _ _ => rfl
  | true =>
   cases l with
   | nil => exact h2.2.elim
   | node _ _ _ _ => rfl
theorem sums_put (m : Bool) (k x : Int) {L R : Tr} (hL : L ≠ .nil) (hR : R ≠ .nil) (a : Int) : sums (putT m k x L R) a = if m then sums R (a + x) ++ sums L (a + x) else sums L (a + x) ++ sums R (a + x) := by
 cases m with
 | false =>
  cases L with
  | nil => exact absurd rfl hL
  | node _ _ _ _ => rfl
 | true =>
  cases R with
  | nil => exact absurd rfl hR
  | node _ _ _ _ => rfl
theorem sums_as (x : Int) {T : Tr} (h : T ≠ .nil) (a : Int) : sums (asT x T) a = sums T (a + x - wt T) := by
 cases T with
 | nil => exact absurd rfl h
 | node n p l r =>
  cases l with
  | nil => simp only [asT, sums, wt]; congr 1; omega
  | node _ _ _ _ => simp only [asT, sums, wt]; rw [show a + x - n.f2 + n.f2 = a + x by omega]
theorem wt_put (m : Bool) (k x : Int) (L R : Tr) : wt (putT m k x L R) = x := rfl
theorem wt_as (x : Int) {T : Tr} (h : T ≠ .nil) : wt (asT x T) = x := by
 cases T with
 | nil => exact absurd rfl h
 | node _ _ _ _ => rfl
theorem put_ne (m : Bool) (k x : Int) (L R : Tr) : putT m k x L R ≠ .nil := by simp [putT]
theorem as_ne (x : Int) {T : Tr} (h : T ≠ .nil) : asT x T ≠ .nil := by
 cases T with
 | nil => exact absurd rfl h
 | node _ _ _ _ => simp [asT]
theorem ok_put {m : Bool} {k x : Int} {L R : Tr} (hx : 0 ≤ x ∧ x ≤ 1000000) (hL : Ok L) (hR : Ok R) : Ok (putT m k x L R) := by
 cases m
 ·exact ⟨hx, .inl rfl, .inr ⟨rfl, hL, hR⟩⟩
 ·exact ⟨hx, .inl rfl, .inr ⟨rfl, hR, hL⟩⟩
theorem ok_as {x : Int} {T : Tr} (hx : 0 ≤ x ∧ x ≤ 1000000) (h : Ok T) : Ok (asT x T) := by
 cases T with
 | nil => exact h.elim
 | node n p l r => exact ⟨hx, h.2.1, h.2.2⟩
theorem size_split (m : Bool) {T : Tr} (h : T ≠ .nil) : sizeT T = 1 + sizeT (lT m T) + sizeT (rT m T) := by
 cases T with
 | nil => exact absurd rfl h
 | node n p l r => cases m <;> simp only [sizeT, lT, rT, if_true] <;> first | rfl | omega
theorem size_put (m : Bool) (k x : Int) (L R : Tr) : sizeT (putT m k x L R) = 1 + sizeT L + sizeT R := by
 cases m <;> simp only [putT, sizeT, if_true] <;> first | rfl | omega
theorem size_as (x : Int) {T : Tr} : sizeT (asT x T) = sizeT T := by cases T <;> rfl
theorem all_put {P : S34 → Prop} {m : Bool} {k x : Int} {L R : Tr} (hn : P ⟨k, 0, x, 0, 0, 0⟩) (hL : allT P L) (hR : allT P R) : allT P (putT m k x L R) := by
 cases m
 ·exact ⟨hn, hL, hR⟩
 ·exact ⟨hn, hR, hL⟩
theorem all_as {x : Int} {T : Tr} (h : allT (fun n => n.f1 = 0) T) : allT (fun n => n.f1 = 0) (asT x T) := by
 cases T with
 | nil => exact h
 | node n p l r => exact h
theorem all_l {P : S34 → Prop} {m : Bool} {T : Tr} (h : allT P T) : allT P (lT m T) := by
 cases T with
 | nil => exact h
 | node n p l r =>
  cases m
  ·exact h.2.1
  ·exact h.2.2
theorem all_r {P : S34 → Prop} {m : Bool} {T : Tr} (h : allT P T) : allT P (rT m T) := by
 cases T with
 | nil => exact h
 | node n p l r =>
  cases m
  ·exact h.2.2
  ·exact h.2.1
theorem inner_ne {T : Tr} (h : innerB T = true) : lT false T ≠ .nil ∧ rT true T ≠ .nil := by
 cases T with
 | nil => simp [innerB] at h
 | node n p l r =>
  cases l with
  | nil => simp [innerB] at h
  | node _ _ _ _ => simp [lT, rT]
theorem inner_lT (m : Bool) {T : Tr} (hk : Ok T) (h : innerB T = true) : lT m T ≠ .nil := by
 cases m with
 | false => exact (inner_ne h).1
 | true => exact ok_ne (ok_split true hk (.inr (inner_ne h).2)).1
structure Does (X Y : Tr) : Prop where
 size : sizeT Y = sizeT X
 top : 0 ≤ wt Y ∧ wt Y ≤ 1000001
 ok : wt Y ≤ 1000000 → Ok Y
 ok1 : Ok (setW Y 1)
 sums : ∀ a, sums Y a = sums X a
 all : allT (fun n => n.f1 = 0) X → allT (fun n => n.f1 = 0) Y
theorem set_put (m : Bool) (k x y : Int) (L R : Tr) : setW (putT m k x L R) y = putT m k y L R := rfl
theorem do1_does (m : Bool) {X : Tr} (hX : Ok X) (hc : can1 m X = true) : Does X (do1 m X) := by
 simp only [can1, Bool.and_eq_true, Bool.or_eq_true, decide_eq_true_eq, beq_iff_eq] at hc
 have ne_L : lT m X ≠ .nil := wt_pos_ne (by omega)
 have k_X := ok_split m hX (.inl ne_L)
 have ok_L := k_X.1
 have ok_R := k_X.2
 have w_L := ok_wt ok_L
 have n_L := ok_ne ok_L
 have w_R := ok_wt ok_R
 have n_R := ok_ne ok_R
 have w_X := ok_wt hX
 have n_X := ok_ne hX
 have s_X := size_split m n_X
 have hw : wrap64 (wt X - 1) = wt X - 1 := Go.IntWalk.wrap64_in _ (by omega)
 have hw1 : wrap64 (wt X + 1) = wt X + 1 := Go.IntWalk.wrap64_in _ (by omega)
 have hw_L : wrap64 (wt (lT m X) - 1) = wt (lT m X) - 1 := Go.IntWalk.wrap64_in _ (by omega)
 have hw_R : wrap64 (wt (rT m X) - 1) = wt (rT m X) - 1 := Go.IntWalk.wrap64_in _ (by omega)
 unfold do1
 try unfold lessT
 try simp only [hw, hw1, hw_L, hw_R]
 refine ⟨?_, ?_, ?_, ?_, ?_, ?_⟩
 ·simp only [size_put, size_as]; omega
 ·simp only [wt_put]; omega
 ·intro hy; simp only [wt_put] at hy; repeat (first | assumption | (refine ok_put (by omega) ?_ ?_) | (refine ok_as (by omega) ?_))
 ·rw [set_put]; repeat (first | assumption | (refine ok_put (by omega) ?_ ?_) | (refine ok_as (by omega) ?_))
 ·intro a
  have e_X : ∀ a, sums (X) a = _ := sums_split m hX n_L
  cases m
  ·simp only [if_true, if_false, Bool.false_eq_true] at e_X
   simp only [e_X]
   repeat rw [sums_put _ _ _ (by first | exact put_ne _ _ _ _ _ | exact as_ne _ (by assumption) | assumption) (by first | exact put_ne _ _ _ _ _ | exact as_ne _ (by assumption) | assumption)]
   try simp only [if_true, if_false, Bool.false_eq_true]
   repeat rw [sums_as _ (by assumption)]
   try simp only [List.append_assoc]
   repeat (first | rfl | (refine congr (congrArg HAppend.hAppend (congrArg _ (by omega))) ?_) | (refine congrArg _ (by omega)))
  ·simp only [if_true, if_false, Bool.false_eq_true] at e_X
   simp only [e_X]
   repeat rw [sums_put _ _ _ (by first | exact put_ne _ _ _ _ _ | exact as_ne _ (by assumption) | assumption) (by first | exact put_ne _ _ _ _ _ | exact as_ne _ (by assumption) | assumption)]
   try simp only [if_true, if_false, Bool.false_eq_true]
   repeat rw [sums_as _ (by assumption)]
   try simp only [List.append_assoc]
   repeat (first | rfl | (refine congr (congrArg HAppend.hAppend (congrArg _ (by omega))) ?_) | (refine congrArg _ (by omega)))
 ·intro ha; repeat (first | assumption | (refine all_put rfl ?_ ?_) | (refine all_as ?_) | (refine all_l ?_) | (refine all_r ?_))
theorem do2_does (m : Bool) {X : Tr} (hX : Ok X) (hc : can2 m X = true) : Does X (do2 m X) := by
 simp only [can2, Bool.and_eq_true, Bool.or_eq_true, decide_eq_true_eq, beq_iff_eq] at hc
 have ne_L : lT m X ≠ .nil := wt_pos_ne (by omega)
 have k_X := ok_split m hX (.inl ne_L)
 have ok_L := k_X.1
 have ok_R := k_X.2
 have ne_LL : lT m (lT m X) ≠ .nil := wt_pos_ne (by omega)
 have k_L := ok_split m ok_L (.inl ne_LL)
 have ok_LL := k_L.1
 have ok_LR := k_L.2
 have w_L := ok_wt ok_L
 have n_L := ok_ne ok_L
 have w_R := ok_wt ok_R
 have n_R := ok_ne ok_R
 have w_LL := ok_wt ok_LL
 have n_LL := ok_ne ok_LL
 have w_LR := ok_wt ok_LR
 have n_LR := ok_ne ok_LR
 have w_X := ok_wt hX
 have n_X := ok_ne hX
 have s_X := size_split m n_X
 have s_L := size_split m n_L
 have hw : wrap64 (wt X - 1) = wt X - 1 := Go.IntWalk.wrap64_in _ (by omega)
 have hw1 : wrap64 (wt X + 1) = wt X + 1 := Go.IntWalk.wrap64_in _ (by omega)
 unfold do2
 try unfold lessT
 try simp only [hw, hw1]
 refine ⟨?_, ?_, ?_, ?_, ?_, ?_⟩
 ·simp only [size_put, size_as]; omega
 ·simp only [wt_put]; omega
 ·intro hy; simp only [wt_put] at hy; repeat (first | assumption | (refine ok_put (by omega) ?_ ?_) | (refine ok_as (by omega) ?_))
 ·rw [set_put]; repeat (first | assumption | (refine ok_put (by omega) ?_ ?_) | (refine ok_as (by omega) ?_))
 ·intro a
  have e_X : ∀ a, sums (X) a = _ := sums_split m hX n_L
  have e_L : ∀ a, sums (lT m X) a = _ := sums_split m ok_L n_LL
  cases m
  ·simp only [if_true, if_false, Bool.false_eq_true] at e_X e_L
   simp only [e_X, e_L]
   repeat rw [sums_put _ _ _ (by first | exact put_ne _ _ _ _ _ | exact as_ne _ (by assumption) | assumption) (by first | exact put_ne _ _ _ _ _ | exact as_ne _ (by assumption) | assumption)]
   try simp only [if_true, if_false, Bool.false_eq_true]
   try simp only [List.append_assoc]
   repeat (first | rfl | (refine congr (congrArg HAppend.hAppend (congrArg _ (by omega))) ?_) | (refine congrArg _ (by omega)))
  ·simp only [if_true, if_false, Bool.false_eq_true] at e_X e_L
   simp only [e_X, e_L]
   repeat rw [sums_put _ _ _ (by first | exact put_ne _ _ _ _ _ | exact as_ne _ (by assumption) | assumption) (by first | exact put_ne _ _ _ _ _ | exact as_ne _ (by assumption) | assumption)]
   try simp only [if_true, if_false, Bool.false_eq_true]
   try simp only [List.append_assoc]
   repeat (first | rfl | (refine congr (congrArg HAppend.hAppend (congrArg _ (by omega))) ?_) | (refine congrArg _ (by omega)))
 ·intro ha; repeat (first | assumption | (refine all_put rfl ?_ ?_) | (refine all_as ?_) | (refine all_l ?_) | (refine all_r ?_))
theorem do3_does (m : Bool) {X : Tr} (hX : Ok X) (hc : can3 m X = true) : Does X (do3 m X) := by
 simp only [can3, Bool.and_eq_true, Bool.or_eq_true, decide_eq_true_eq, beq_iff_eq] at hc
 have ne_L : lT m X ≠ .nil := wt_pos_ne (by omega)
 have k_X := ok_split m hX (.inl ne_L)
 have ok_L := k_X.1
 have ok_R := k_X.2
 have ne_LR : rT m (lT m X) ≠ .nil := wt_pos_ne (by omega)
 have k_L := ok_split m ok_L (.inr ne_LR)
 have ok_LL := k_L.1
 have ok_LR := k_L.2
 have ne_LRL : lT m (rT m (lT m X)) ≠ .nil := inner_lT m ok_LR (by simp only [hc])
 have k_LR := ok_split m ok_LR (.inl ne_LRL)
 have ok_LRL := k_LR.1
 have ok_LRR := k_LR.2
 have w_L := ok_wt ok_L
 have n_L := ok_ne ok_L
 have w_R := ok_wt ok_R
 have n_R := ok_ne ok_R
 have w_LL := ok_wt ok_LL
 have n_LL := ok_ne ok_LL
 have w_LR := ok_wt ok_LR
 have n_LR := ok_ne ok_LR
 have w_LRL := ok_wt ok_LRL
 have n_LRL := ok_ne ok_LRL
 have w_LRR := ok_wt ok_LRR
 have n_LRR := ok_ne ok_LRR
 have w_X := ok_wt hX
 have n_X := ok_ne hX
 have s_X := size_split m n_X
 have s_L := size_split m n_L
 have s_LR := size_split m n_LR
 have hw : wrap64 (wt X - 1) = wt X - 1 := Go.IntWalk.wrap64_in _ (by omega)
 have hw1 : wrap64 (wt X + 1) = wt X + 1 := Go.IntWalk.wrap64_in _ (by omega)
 unfold do3
 try unfold lessT
 try simp only [hw, hw1]
 refine ⟨?_, ?_, ?_, ?_, ?_, ?_⟩
 ·simp only [size_put, size_as]; omega
 ·simp only [wt_put]; omega
 ·intro hy; simp only [wt_put] at hy; repeat (first | assumption | (refine ok_put (by omega) ?_ ?_) | (refine ok_as (by omega) ?_))
 ·rw [set_put]; repeat (first | assumption | (refine ok_put (by omega) ?_ ?_) | (refine ok_as (by omega) ?_))
 ·intro a
  have e_X : ∀ a, sums (X) a = _ := sums_split m hX n_L
  have e_L : ∀ a, sums (lT m X) a = _ := sums_split m ok_L n_LL
  have e_LR : ∀ a, sums (rT m (lT m X)) a = _ := sums_split m ok_LR n_LRL
  cases m
  ·simp only [if_true, if_false, Bool.false_eq_true] at e_X e_L e_LR
   simp only [e_X, e_L, e_LR]
   repeat rw [sums_put _ _ _ (by first | exact put_ne _ _ _ _ _ | exact as_ne _ (by assumption) | assumption) (by first | exact put_ne _ _ _ _ _ | exact as_ne _ (by assumption) | assumption)]
   try simp only [if_true, if_false, Bool.false_eq_true]
   try simp only [List.append_assoc]
   repeat (first | rfl | (refine congr (congrArg HAppend.hAppend (congrArg _ (by omega))) ?_) | (refine congrArg _ (by omega)))
  ·simp only [if_true, if_false, Bool.false_eq_true] at e_X e_L e_LR
   simp only [e_X, e_L, e_LR]
   repeat rw [sums_put _ _ _ (by first | exact put_ne _ _ _ _ _ | exact as_ne _ (by assumption) | assumption) (by first | exact put_ne _ _ _ _ _ | exact as_ne _ (by assumption) | assumption)]
   try simp only [if_true, if_false, Bool.false_eq_true]
   try simp only [List.append_assoc]
   repeat (first | rfl | (refine congr (congrArg HAppend.hAppend (congrArg _ (by omega))) ?_) | (refine congrArg _ (by omega)))
 ·intro ha; repeat (first | assumption | (refine all_put rfl ?_ ?_) | (refine all_as ?_) | (refine all_l ?_) | (refine all_r ?_))
theorem do4_does (m : Bool) {X : Tr} (hX : Ok X) (hc : can4 m X = true) : Does X (do4 m X) := by
 simp only [can4, Bool.and_eq_true, Bool.or_eq_true, decide_eq_true_eq, beq_iff_eq] at hc
 have ne_L : lT m X ≠ .nil := wt_pos_ne (by omega)
 have k_X := ok_split m hX (.inl ne_L)
 have ok_L := k_X.1
 have ok_R := k_X.2
 have w_L := ok_wt ok_L
 have n_L := ok_ne ok_L
 have w_R := ok_wt ok_R
 have n_R := ok_ne ok_R
 have w_X := ok_wt hX
 have n_X := ok_ne hX
 have s_X := size_split m n_X
 have hw : wrap64 (wt X - 1) = wt X - 1 := Go.IntWalk.wrap64_in _ (by omega)
 have hw1 : wrap64 (wt X + 1) = wt X + 1 := Go.IntWalk.wrap64_in _ (by omega)
 have hw_L : wrap64 (wt (lT m X) - 1) = wt (lT m X) - 1 := Go.IntWalk.wrap64_in _ (by omega)
 have hw_R : wrap64 (wt (rT m X) - 1) = wt (rT m X) - 1 := Go.IntWalk.wrap64_in _ (by omega)
 unfold do4
 try unfold lessT
 try simp only [hw, hw1, hw_L, hw_R]
 refine ⟨?_, ?_, ?_, ?_, ?_, ?_⟩
 ·simp only [size_put, size_as]; omega
 ·simp only [wt_put]; omega
 ·intro hy; simp only [wt_put] at hy; repeat (first | assumption | (refine ok_put (by omega) ?_ ?_) | (refine ok_as (by omega) ?_))
 ·rw [set_put]; repeat (first | assumption | (refine ok_put (by omega) ?_ ?_) | (refine ok_as (by omega) ?_))
 ·intro a
  have e_X : ∀ a, sums (X) a = _ := sums_split m hX n_L
  cases m
  ·simp only [if_true, if_false, Bool.false_eq_true] at e_X
   simp only [e_X]
   repeat rw [sums_put _ _ _ (by first | exact put_ne _ _ _ _ _ | exact as_ne _ (by assumption) | assumption) (by first | exact put_ne _ _ _ _ _ | exact as_ne _ (by assumption) | assumption)]
   try simp only [if_true, if_false, Bool.false_eq_true]
   repeat rw [sums_as _ (by assumption)]
   try simp only [List.append_assoc]
   repeat (first | rfl | (refine congr (congrArg HAppend.hAppend (congrArg _ (by omega))) ?_) | (refine congrArg _ (by omega)))
  ·simp only [if_true, if_false, Bool.false_eq_true] at e_X
   simp only [e_X]
   repeat rw [sums_put _ _ _ (by first | exact put_ne _ _ _ _ _ | exact as_ne _ (by assumption) | assumption) (by first | exact put_ne _ _ _ _ _ | exact as_ne _ (by assumption) | assumption)]
   try simp only [if_true, if_false, Bool.false_eq_true]
   repeat rw [sums_as _ (by assumption)]
   try simp only [List.append_assoc]
   repeat (first | rfl | (refine congr (congrArg HAppend.hAppend (congrArg _ (by omega))) ?_) | (refine congrArg _ (by omega)))
 ·intro ha; repeat (first | assumption | (refine all_put rfl ?_ ?_) | (refine all_as ?_) | (refine all_l ?_) | (refine all_r ?_))
theorem do5_does (m : Bool) {X : Tr} (hX : Ok X) (hc : can5 m X = true) : Does X (do5 m X) := by
 simp only [can5, Bool.and_eq_true, Bool.or_eq_true, decide_eq_true_eq, beq_iff_eq] at hc
 have ne_L : lT m X ≠ .nil := wt_pos_ne (by omega)
 have k_X := ok_split m hX (.inl ne_L)
 have ok_L := k_X.1
 have ok_R := k_X.2
 have ne_RL : lT m (rT m X) ≠ .nil := wt_pos_ne (by omega)
 have k_R := ok_split m ok_R (.inl ne_RL)
 have ok_RL := k_R.1
 have ok_RR := k_R.2
 have w_L := ok_wt ok_L
 have n_L := ok_ne ok_L
 have w_R := ok_wt ok_R
 have n_R := ok_ne ok_R
 have w_RL := ok_wt ok_RL
 have n_RL := ok_ne ok_RL
 have w_RR := ok_wt ok_RR
 have n_RR := ok_ne ok_RR
 have w_X := ok_wt hX
 have n_X := ok_ne hX
 have s_X := size_split m n_X
 have s_R := size_split m n_R
 have hw : wrap64 (wt X - 1) = wt X - 1 := Go.IntWalk.wrap64_in _ (by omega)
 have hw1 : wrap64 (wt X + 1) = wt X + 1 := Go.IntWalk.wrap64_in _ (by omega)
 have hw_L : wrap64 (wt (lT m X) - 1) = wt (lT m X) - 1 := Go.IntWalk.wrap64_in _ (by omega)
 have hw_RL : wrap64 (wt (lT m (rT m X)) - 1) = wt (lT m (rT m X)) - 1 := Go.IntWalk.wrap64_in _ (by omega)
 unfold do5
 try unfold lessT
 try simp only [hw, hw1, hw_L, hw_RL]
 refine ⟨?_, ?_, ?_, ?_, ?_, ?_⟩
 ·simp only [size_put, size_as]; omega
 ·simp only [wt_put]; omega
 ·intro hy; simp only [wt_put] at hy; repeat (first | assumption | (refine ok_put (by omega) ?_ ?_) | (refine ok_as (by omega) ?_))
 ·rw [set_put]; repeat (first | assumption | (refine ok_put (by omega) ?_ ?_) | (refine ok_as (by omega) ?_))
 ·intro a
  have e_X : ∀ a, sums (X) a = _ := sums_split m hX n_L
  have e_R : ∀ a, sums (rT m X) a = _ := sums_split m ok_R n_RL
  cases m
  ·simp only [if_true, if_false, Bool.false_eq_true] at e_X e_R
   simp only [e_X, e_R]
   repeat rw [sums_put _ _ _ (by first | exact put_ne _ _ _ _ _ | exact as_ne _ (by assumption) | assumption) (by first | exact put_ne _ _ _ _ _ | exact as_ne _ (by assumption) | assumption)]
   try simp only [if_true, if_false, Bool.false_eq_true]
   repeat rw [sums_as _ (by assumption)]
   try simp only [List.append_assoc]
   repeat (first | rfl | (refine congr (congrArg HAppend.hAppend (congrArg _ (by omega))) ?_) | (refine congrArg _ (by omega)))
  ·simp only [if_true, if_false, Bool.false_eq_true] at e_X e_R
   simp only [e_X, e_R]
   repeat rw [sums_put _ _ _ (by first | exact put_ne _ _ _ _ _ | exact as_ne _ (by assumption) | assumption) (by first | exact put_ne _ _ _ _ _ | exact as_ne _ (by assumption) | assumption)]
   try simp only [if_true, if_false, Bool.false_eq_true]
   repeat rw [sums_as _ (by assumption)]
   try simp only [List.append_assoc]
   repeat (first | rfl | (refine congr (congrArg HAppend.hAppend (congrArg _ (by omega))) ?_) | (refine congrArg _ (by omega)))
 ·intro ha; repeat (first | assumption | (refine all_put rfl ?_ ?_) | (refine all_as ?_) | (refine all_l ?_) | (refine all_r ?_))
theorem do6_does (m : Bool) {X : Tr} (hX : Ok X) (hc : can6 m X = true) : Does X (do6 m X) := by
 simp only [can6, Bool.and_eq_true, Bool.or_eq_true, decide_eq_true_eq, beq_iff_eq] at hc
 have ne_L : lT m X ≠ .nil := wt_pos_ne (by omega)
 have k_X := ok_split m hX (.inl ne_L)
 have ok_L := k_X.1
 have ok_R := k_X.2
 have ne_RL : lT m (rT m X) ≠ .nil := wt_pos_ne (by omega)
 have k_R := ok_split m ok_R (.inl ne_RL)
 have ok_RL := k_R.1
 have ok_RR := k_R.2
 have w_L := ok_wt ok_L
 have n_L := ok_ne ok_L
 have w_R := ok_wt ok_R
 have n_R := ok_ne ok_R
 have w_RL := ok_wt ok_RL
 have n_RL := ok_ne ok_RL
 have w_RR := ok_wt ok_RR
 have n_RR := ok_ne ok_RR
 have w_X := ok_wt hX
 have n_X := ok_ne hX
 have s_X := size_split m n_X
 have s_R := size_split m n_R
 have hw : wrap64 (wt X - 1) = wt X - 1 := Go.IntWalk.wrap64_in _ (by omega)
 have hw1 : wrap64 (wt X + 1) = wt X + 1 := Go.IntWalk.wrap64_in _ (by omega)
 have hw_L : wrap64 (wt (lT m X) - 1) = wt (lT m X) - 1 := Go.IntWalk.wrap64_in _ (by omega)
 have hw_RL : wrap64 (wt (lT m (rT m X)) - 1) = wt (lT m (rT m X)) - 1 := Go.IntWalk.wrap64_in _ (by omega)
 unfold do6
 try unfold lessT
 try simp only [hw, hw1, hw_L, hw_RL]
 refine ⟨?_, ?_, ?_, ?_, ?_, ?_⟩
 ·simp only [size_put, size_as]; omega
 ·simp only [wt_put]; omega
 ·intro hy; simp only [wt_put] at hy; repeat (first | assumption | (refine ok_put (by omega) ?_ ?_) | (refine ok_as (by omega) ?_))
 ·rw [set_put]; repeat (first | assumption | (refine ok_put (by omega) ?_ ?_) | (refine ok_as (by omega) ?_))
 ·intro a
  have e_X : ∀ a, sums (X) a = _ := sums_split m hX n_L
  have e_R : ∀ a, sums (rT m X) a = _ := sums_split m ok_R n_RL
  cases m
  ·simp only [if_true, if_false, Bool.false_eq_true] at e_X e_R
   simp only [e_X, e_R]
   repeat rw [sums_put _ _ _ (by first | exact put_ne _ _ _ _ _ | exact as_ne _ (by assumption) | assumption) (by first | exact put_ne _ _ _ _ _ | exact as_ne _ (by assumption) | assumption)]
   try simp only [if_true, if_false, Bool.false_eq_true]
   repeat rw [sums_as _ (by assumption)]
   try simp only [List.append_assoc]
   repeat (first | rfl | (refine congr (congrArg HAppend.hAppend (congrArg _ (by omega))) ?_) | (refine congrArg _ (by omega)))
  ·simp only [if_true, if_false, Bool.false_eq_true] at e_X e_R
   simp only [e_X, e_R]
   repeat rw [sums_put _ _ _ (by first | exact put_ne _ _ _ _ _ | exact as_ne _ (by assumption) | assumption) (by first | exact put_ne _ _ _ _ _ | exact as_ne _ (by assumption) | assumption)]
   try simp only [if_true, if_false, Bool.false_eq_true]
   repeat rw [sums_as _ (by assumption)]
   try simp only [List.append_assoc]
   repeat (first | rfl | (refine congr (congrArg HAppend.hAppend (congrArg _ (by omega))) ?_) | (refine congrArg _ (by omega)))
 ·intro ha; repeat (first | assumption | (refine all_put rfl ?_ ?_) | (refine all_as ?_) | (refine all_l ?_) | (refine all_r ?_))
theorem do7_does (m : Bool) {X : Tr} (hX : Ok X) (hc : can7 m X = true) : Does X (do7 m X) := by
 simp only [can7, Bool.and_eq_true, Bool.or_eq_true, decide_eq_true_eq, beq_iff_eq] at hc
 have ne_L : lT m X ≠ .nil := wt_pos_ne (by omega)
 have k_X := ok_split m hX (.inl ne_L)
 have ok_L := k_X.1
 have ok_R := k_X.2
 have ne_RL : lT m (rT m X) ≠ .nil := wt_pos_ne (by omega)
 have k_R := ok_split m ok_R (.inl ne_RL)
 have ok_RL := k_R.1
 have ok_RR := k_R.2
 have ne_A : lT m (lT m (rT m X)) ≠ .nil := wt_pos_ne (by omega)
 have k_RL := ok_split m ok_RL (.inl ne_A)
 have ok_A := k_RL.1
 have ok_B := k_RL.2
 have ne_AL : lT m (lT m (lT m (rT m X))) ≠ .nil := inner_lT m ok_A (by simp only [hc])
 have k_A := ok_split m ok_A (.inl ne_AL)
 have ok_AL := k_A.1
 have ok_AR := k_A.2
 have w_L := ok_wt ok_L
 have n_L := ok_ne ok_L
 have w_R := ok_wt ok_R
 have n_R := ok_ne ok_R
 have w_RL := ok_wt ok_RL
 have n_RL := ok_ne ok_RL
 have w_RR := ok_wt ok_RR
 have n_RR := ok_ne ok_RR
 have w_A := ok_wt ok_A
 have n_A := ok_ne ok_A
 have w_B := ok_wt ok_B
 have n_B := ok_ne ok_B
 have w_AL := ok_wt ok_AL
 have n_AL := ok_ne ok_AL
 have w_AR := ok_wt ok_AR
 have n_AR := ok_ne ok_AR
 have w_X := ok_wt hX
 have n_X := ok_ne hX
 have s_X := size_split m n_X
 have s_R := size_split m n_R
 have s_RL := size_split m n_RL
 have s_A := size_split m n_A
 have hw : wrap64 (wt X - 1) = wt X - 1 := Go.IntWalk.wrap64_in _ (by omega)
 have hw1 : wrap64 (wt X + 1) = wt X + 1 := Go.IntWalk.wrap64_in _ (by omega)
 have hw_L : wrap64 (wt (lT m X) - 1) = wt (lT m X) - 1 := Go.IntWalk.wrap64_in _ (by omega)
 unfold do7
 try unfold lessT
 try simp only [hw, hw1, hw_L]
 refine ⟨?_, ?_, ?_, ?_, ?_, ?_⟩
 ·simp only [size_put, size_as]; omega
 ·simp only [wt_put]; omega
 ·intro hy; simp only [wt_put] at hy; repeat (first | assumption | (refine ok_put (by omega) ?_ ?_) | (refine ok_as (by omega) ?_))
 ·rw [set_put]; repeat (first | assumption | (refine ok_put (by omega) ?_ ?_) | (refine ok_as (by omega) ?_))
 ·intro a
  have e_X : ∀ a, sums (X) a = _ := sums_split m hX n_L
  have e_R : ∀ a, sums (rT m X) a = _ := sums_split m ok_R n_RL
  have e_RL : ∀ a, sums (lT m (rT m X)) a = _ := sums_split m ok_RL n_A
  have e_A : ∀ a, sums (lT m (lT m (rT m X))) a = _ := sums_split m ok_A n_AL
  cases m
  ·simp only [if_true, if_false, Bool.false_eq_true] at e_X e_R e_RL e_A
   simp only [e_X, e_R, e_RL, e_A]
   repeat rw [sums_put _ _ _ (by first | exact put_ne _ _ _ _ _ | exact as_ne _ (by assumption) | assumption) (by first | exact put_ne _ _ _ _ _ | exact as_ne _ (by assumption) | assumption)]
   try simp only [if_true, if_false, Bool.false_eq_true]
   repeat rw [sums_as _ (by assumption)]
   try simp only [List.append_assoc]
   repeat (first | rfl | (refine congr (congrArg HAppend.hAppend (congrArg _ (by omega))) ?_) | (refine congrArg _ (by omega)))
  ·simp only [if_true, if_false, Bool.false_eq_true] at e_X e_R e_RL e_A
   simp only [e_X, e_R, e_RL, e_A]
   repeat rw [sums_put _ _ _ (by first | exact put_ne _ _ _ _ _ | exact as_ne _ (by assumption) | assumption) (by first | exact put_ne _ _ _ _ _ | exact as_ne _ (by assumption) | assumption)]
   try simp only [if_true, if_false, Bool.false_eq_true]
   repeat rw [sums_as _ (by assumption)]
   try simp only [List.append_assoc]
   repeat (first | rfl | (refine congr (congrArg HAppend.hAppend (congrArg _ (by omega))) ?_) | (refine congrArg _ (by omega)))
 ·intro ha; repeat (first | assumption | (refine all_put rfl ?_ ?_) | (refine all_as ?_) | (refine all_l ?_) | (refine all_r ?_))
theorem do8_does (m : Bool) {X : Tr} (hX : Ok X) (hc : can8 m X = true) : Does X (do8 m X) := by
 simp only [can8, Bool.and_eq_true, Bool.or_eq_true, decide_eq_true_eq, beq_iff_eq] at hc
 have ne_L : lT m X ≠ .nil := wt_pos_ne (by omega)
 have k_X := ok_split m hX (.inl ne_L)
 have ok_L := k_X.1
 have ok_R := k_X.2
 have ne_RL : lT m (rT m X) ≠ .nil := wt_pos_ne (by omega)
 have k_R := ok_split m ok_R (.inl ne_RL)
 have ok_RL := k_R.1
 have ok_RR := k_R.2
 have ne_B : rT m (lT m (rT m X)) ≠ .nil := wt_pos_ne (by omega)
 have k_RL := ok_split m ok_RL (.inr ne_B)
 have ok_A := k_RL.1
 have ok_B := k_RL.2
 have w_L := ok_wt ok_L
 have n_L := ok_ne ok_L
 have w_R := ok_wt ok_R
 have n_R := ok_ne ok_R
 have w_RL := ok_wt ok_RL
 have n_RL := ok_ne ok_RL
 have w_RR := ok_wt ok_RR
 have n_RR := ok_ne ok_RR
 have w_A := ok_wt ok_A
 have n_A := ok_ne ok_A
 have w_B := ok_wt ok_B
 have n_B := ok_ne ok_B
 have w_X := ok_wt hX
 have n_X := ok_ne hX
 have s_X := size_split m n_X
 have s_R := size_split m n_R
 have s_RL := size_split m n_RL
 have hw : wrap64 (wt X - 1) = wt X - 1 := Go.IntWalk.wrap64_in _ (by omega)
 have hw1 : wrap64 (wt X + 1) = wt X + 1 := Go.IntWalk.wrap64_in _ (by omega)
 have hw_L : wrap64 (wt (lT m X) - 1) = wt (lT m X) - 1 := Go.IntWalk.wrap64_in _ (by omega)
 have hw_B : wrap64 (wt (rT m (lT m (rT m X))) - 1) = wt (rT m (lT m (rT m X))) - 1 := Go.IntWalk.wrap64_in _ (by omega)
 unfold do8
 try unfold lessT
 try simp only [hw, hw1, hw_L, hw_B]
 refine ⟨?_, ?_, ?_, ?_, ?_, ?_⟩
 ·simp only [size_put, size_as]; omega
 ·simp only [wt_put]; omega
 ·intro hy; simp only [wt_put] at hy; repeat (first | assumption | (refine ok_put (by omega) ?_ ?_) | (refine ok_as (by omega) ?_))
 ·rw [set_put]; repeat (first | assumption | (refine ok_put (by omega) ?_ ?_) | (refine ok_as (by omega) ?_))
 ·intro a
  have e_X : ∀ a, sums (X) a = _ := sums_split m hX n_L
  have e_R : ∀ a, sums (rT m X) a = _ := sums_split m ok_R n_RL
  have e_RL : ∀ a, sums (lT m (rT m X)) a = _ := sums_split m ok_RL n_A
  cases m
  ·simp only [if_true, if_false, Bool.false_eq_true] at e_X e_R e_RL
   simp only [e_X, e_R, e_RL]
   repeat rw [sums_put _ _ _ (by first | exact put_ne _ _ _ _ _ | exact as_ne _ (by assumption) | assumption) (by first | exact put_ne _ _ _ _ _ | exact as_ne _ (by assumption) | assumption)]
   try simp only [if_true, if_false, Bool.false_eq_true]
   repeat rw [sums_as _ (by assumption)]
   try simp only [List.append_assoc]
   repeat (first | rfl | (refine congr (congrArg HAppend.hAppend (congrArg _ (by omega))) ?_) | (refine congrArg _ (by omega)))
  ·simp only [if_true, if_false, Bool.false_eq_true] at e_X e_R e_RL
   simp only [e_X, e_R, e_RL]
   repeat rw [sums_put _ _ _ (by first | exact put_ne _ _ _ _ _ | exact as_ne _ (by assumption) | assumption) (by first | exact put_ne _ _ _ _ _ | exact as_ne _ (by assumption) | assumption)]
   try simp only [if_true, if_false, Bool.false_eq_true]
   repeat rw [sums_as _ (by assumption)]
   try simp only [List.append_assoc]
   repeat (first | rfl | (refine congr (congrArg HAppend.hAppend (congrArg _ (by omega))) ?_) | (refine congrArg _ (by omega)))
 ·intro ha; repeat (first | assumption | (refine all_put rfl ?_ ?_) | (refine all_as ?_) | (refine all_l ?_) | (refine all_r ?_))
theorem do9_does (m : Bool) {X : Tr} (hX : Ok X) (hc : can9 m X = true) : Does X (do9 m X) := by
 simp only [can9, Bool.and_eq_true, Bool.or_eq_true, decide_eq_true_eq, beq_iff_eq] at hc
 have ne_L : lT m X ≠ .nil := wt_pos_ne (by omega)
 have k_X := ok_split m hX (.inl ne_L)
 have ok_L := k_X.1
 have ok_R := k_X.2
 have ne_RR : rT m (rT m X) ≠ .nil := wt_pos_ne (by omega)
 have k_R := ok_split m ok_R (.inr ne_RR)
 have ok_RL := k_R.1
 have ok_RR := k_R.2
 have w_L := ok_wt ok_L
 have n_L := ok_ne ok_L
 have w_R := ok_wt ok_R
 have n_R := ok_ne ok_R
 have w_RL := ok_wt ok_RL
 have n_RL := ok_ne ok_RL
 have w_RR := ok_wt ok_RR
 have n_RR := ok_ne ok_RR
 have w_X := ok_wt hX
 have n_X := ok_ne hX
 have s_X := size_split m n_X
 have s_R := size_split m n_R
 have hw : wrap64 (wt X - 1) = wt X - 1 := Go.IntWalk.wrap64_in _ (by omega)
 have hw1 : wrap64 (wt X + 1) = wt X + 1 := Go.IntWalk.wrap64_in _ (by omega)
 have hw_L : wrap64 (wt (lT m X) - 1) = wt (lT m X) - 1 := Go.IntWalk.wrap64_in _ (by omega)
 have hw_RR : wrap64 (wt (rT m (rT m X)) - 1) = wt (rT m (rT m X)) - 1 := Go.IntWalk.wrap64_in _ (by omega)
 unfold do9
 try unfold lessT
 try simp only [hw, hw1, hw_L, hw_RR]
 refine ⟨?_, ?_, ?_, ?_, ?_, ?_⟩
 ·simp only [size_put, size_as]; omega
 ·simp only [wt_put]; omega
 ·intro hy; simp only [wt_put] at hy; repeat (first | assumption | (refine ok_put (by omega) ?_ ?_) | (refine ok_as (by omega) ?_))
 ·rw [set_put]; repeat (first | assumption | (refine ok_put (by omega) ?_ ?_) | (refine ok_as (by omega) ?_))
 ·intro a
  have e_X : ∀ a, sums (X) a = _ := sums_split m hX n_L
  have e_R : ∀ a, sums (rT m X) a = _ := sums_split m ok_R n_RL
  cases m
  ·simp only [if_true, if_false, Bool.false_eq_true] at e_X e_R
   simp only [e_X, e_R]
   repeat rw [sums_put _ _ _ (by first | exact put_ne _ _ _ _ _ | exact as_ne _ (by assumption) | assumption) (by first | exact put_ne _ _ _ _ _ | exact as_ne _ (by assumption) | assumption)]
   try simp only [if_true, if_false, Bool.false_eq_true]
   repeat rw [sums_as _ (by assumption)]
   try simp only [List.append_assoc]
   repeat (first | rfl | (refine congr (congrArg HAppend.hAppend (congrArg _ (by omega))) ?_) | (refine congrArg _ (by omega)))
  ·simp only [if_true, if_false, Bool.false_eq_true] at e_X e_R
   simp only [e_X, e_R]
   repeat rw [sums_put _ _ _ (by first | exact put_ne _ _ _ _ _ | exact as_ne _ (by assumption) | assumption) (by first | exact put_ne _ _ _ _ _ | exact as_ne _ (by assumption) | assumption)]
   try simp only [if_true, if_false, Bool.false_eq_true]
   repeat rw [sums_as _ (by assumption)]
   try simp only [List.append_assoc]
   repeat (first | rfl | (refine congr (congrArg HAppend.hAppend (congrArg _ (by omega))) ?_) | (refine congrArg _ (by omega)))
 ·intro ha; repeat (first | assumption | (refine all_put rfl ?_ ?_) | (refine all_as ?_) | (refine all_l ?_) | (refine all_r ?_))
theorem do10_does (m : Bool) {X : Tr} (hX : Ok X) (hc : can10 m X = true) : Does X (do10 m X) := by
 simp only [can10, Bool.and_eq_true, Bool.or_eq_true, decide_eq_true_eq, beq_iff_eq] at hc
 have ne_L : lT m X ≠ .nil := wt_pos_ne (by omega)
 have k_X := ok_split m hX (.inl ne_L)
 have ok_L := k_X.1
 have ok_R := k_X.2
 have ne_RL : lT m (rT m X) ≠ .nil := wt_pos_ne (by omega)
 have k_R := ok_split m ok_R (.inl ne_RL)
 have ok_RL := k_R.1
 have ok_RR := k_R.2
 have ne_A : lT m (lT m (rT m X)) ≠ .nil := inner_lT m ok_RL (by simp only [hc])
 have k_RL := ok_split m ok_RL (.inl ne_A)
 have ok_A := k_RL.1
 have ok_B := k_RL.2
 have w_L := ok_wt ok_L
 have n_L := ok_ne ok_L
 have w_R := ok_wt ok_R
 have n_R := ok_ne ok_R
 have w_RL := ok_wt ok_RL
 have n_RL := ok_ne ok_RL
 have w_RR := ok_wt ok_RR
 have n_RR := ok_ne ok_RR
 have w_A := ok_wt ok_A
 have n_A := ok_ne ok_A
 have w_B := ok_wt ok_B
 have n_B := ok_ne ok_B
 have w_X := ok_wt hX
 have n_X := ok_ne hX
 have s_X := size_split m n_X
 have s_R := size_split m n_R
 have s_RL := size_split m n_RL
 have hw : wrap64 (wt X - 1) = wt X - 1 := Go.IntWalk.wrap64_in _ (by omega)
 have hw1 : wrap64 (wt X + 1) = wt X + 1 := Go.IntWalk.wrap64_in _ (by omega)
 have hw_L : wrap64 (wt (lT m X) - 1) = wt (lT m X) - 1 := Go.IntWalk.wrap64_in _ (by omega)
 unfold do10
 try unfold lessT
 try simp only [hw, hw1, hw_L]
 refine ⟨?_, ?_, ?_, ?_, ?_, ?_⟩
 ·simp only [size_put, size_as]; omega
 ·simp only [wt_put]; omega
 ·intro hy; simp only [wt_put] at hy; repeat (first | assumption | (refine ok_put (by omega) ?_ ?_) | (refine ok_as (by omega) ?_))
 ·rw [set_put]; repeat (first | assumption | (refine ok_put (by omega) ?_ ?_) | (refine ok_as (by omega) ?_))
 ·intro a
  have e_X : ∀ a, sums (X) a = _ := sums_split m hX n_L
  have e_R : ∀ a, sums (rT m X) a = _ := sums_split m ok_R n_RL
  have e_RL : ∀ a, sums (lT m (rT m X)) a = _ := sums_split m ok_RL n_A
  cases m
  ·simp only [if_true, if_false, Bool.false_eq_true] at e_X e_R e_RL
   simp only [e_X, e_R, e_RL]
   repeat rw [sums_put _ _ _ (by first | exact put_ne _ _ _ _ _ | exact as_ne _ (by assumption) | assumption) (by first | exact put_ne _ _ _ _ _ | exact as_ne _ (by assumption) | assumption)]
   try simp only [if_true, if_false, Bool.false_eq_true]
   repeat rw [sums_as _ (by assumption)]
   try simp only [List.append_assoc]
   repeat (first | rfl | (refine congr (congrArg HAppend.hAppend (congrArg _ (by omega))) ?_) | (refine congrArg _ (by omega)))
  ·simp only [if_true, if_false, Bool.false_eq_true] at e_X e_R e_RL
   simp only [e_X, e_R, e_RL]
   repeat rw [sums_put _ _ _ (by first | exact put_ne _ _ _ _ _ | exact as_ne _ (by assumption) | assumption) (by first | exact put_ne _ _ _ _ _ | exact as_ne _ (by assumption) | assumption)]
   try simp only [if_true, if_false, Bool.false_eq_true]
   repeat rw [sums_as _ (by assumption)]
   try simp only [List.append_assoc]
   repeat (first | rfl | (refine congr (congrArg HAppend.hAppend (congrArg _ (by omega))) ?_) | (refine congrArg _ (by omega)))
 ·intro ha; repeat (first | assumption | (refine all_put rfl ?_ ?_) | (refine all_as ?_) | (refine all_l ?_) | (refine all_r ?_))
theorem do11_does (m : Bool) {X : Tr} (hX : Ok X) (hc : can11 m X = true) : Does X (do11 m X) := by
 simp only [can11, Bool.and_eq_true, Bool.or_eq_true, decide_eq_true_eq, beq_iff_eq] at hc
 have ne_L : lT m X ≠ .nil := wt_pos_ne (by omega)
 have k_X := ok_split m hX (.inl ne_L)
 have ok_L := k_X.1
 have ok_R := k_X.2
 have w_L := ok_wt ok_L
 have n_L := ok_ne ok_L
 have w_R := ok_wt ok_R
 have n_R := ok_ne ok_R
 have w_X := ok_wt hX
 have n_X := ok_ne hX
 have s_X := size_split m n_X
 have hw : wrap64 (wt X - 1) = wt X - 1 := Go.IntWalk.wrap64_in _ (by omega)
 have hw1 : wrap64 (wt X + 1) = wt X + 1 := Go.IntWalk.wrap64_in _ (by omega)
 have hw_L : wrap64 (wt (lT m X) - 1) = wt (lT m X) - 1 := Go.IntWalk.wrap64_in _ (by omega)
 have hw_R : wrap64 (wt (rT m X) - 1) = wt (rT m X) - 1 := Go.IntWalk.wrap64_in _ (by omega)
 unfold do11
 try unfold lessT
 try simp only [hw, hw1, hw_L, hw_R]
 refine ⟨?_, ?_, ?_, ?_, ?_, ?_⟩
 ·simp only [size_put, size_as]; omega
 ·simp only [wt_put]; omega
 ·intro hy; simp only [wt_put] at hy; repeat (first | assumption | (refine ok_put (by omega) ?_ ?_) | (refine ok_as (by omega) ?_))
 ·rw [set_put]; repeat (first | assumption | (refine ok_put (by omega) ?_ ?_) | (refine ok_as (by omega) ?_))
 ·intro a
  have e_X : ∀ a, sums (X) a = _ := sums_split m hX n_L
  cases m
  ·simp only [if_true, if_false, Bool.false_eq_true] at e_X
   simp only [e_X]
   repeat rw [sums_put _ _ _ (by first | exact put_ne _ _ _ _ _ | exact as_ne _ (by assumption) | assumption) (by first | exact put_ne _ _ _ _ _ | exact as_ne _ (by assumption) | assumption)]
   try simp only [if_true, if_false, Bool.false_eq_true]
   repeat rw [sums_as _ (by assumption)]
   try simp only [List.append_assoc]
   repeat (first | rfl | (refine congr (congrArg HAppend.hAppend (congrArg _ (by omega))) ?_) | (refine congrArg _ (by omega)))
  ·simp only [if_true, if_false, Bool.false_eq_true] at e_X
   simp only [e_X]
   repeat rw [sums_put _ _ _ (by first | exact put_ne _ _ _ _ _ | exact as_ne _ (by assumption) | assumption) (by first | exact put_ne _ _ _ _ _ | exact as_ne _ (by assumption) | assumption)]
   try simp only [if_true, if_false, Bool.false_eq_true]
   repeat rw [sums_as _ (by assumption)]
   try simp only [List.append_assoc]
   repeat (first | rfl | (refine congr (congrArg HAppend.hAppend (congrArg _ (by omega))) ?_) | (refine congrArg _ (by omega)))
 ·intro ha; repeat (first | assumption | (refine all_put rfl ?_ ?_) | (refine all_as ?_) | (refine all_l ?_) | (refine all_r ?_))
theorem doT_does (m rt : Bool) {X : Tr} {kind : Int} (hk : 1 ≤ kind ∧ kind ≤ 12) (h12 : kind ≠ 12) (hX : Ok X) (hc : canT m rt X kind = true) : Does X (doT m X kind) := by
 have hd : kind = 1 ∨ kind = 2 ∨ kind = 3 ∨ kind = 4 ∨ kind = 5 ∨ kind = 6 ∨ kind = 7 ∨ kind = 8 ∨ kind = 9 ∨ kind = 10 ∨ kind = 11 := by omega
 rcases hd with rfl | rfl | rfl | rfl | rfl | rfl | rfl | rfl | rfl | rfl | rfl
 ·exact do1_does m hX hc
 ·exact do2_does m hX hc
 ·exact do3_does m hX hc
 ·exact do4_does m hX hc
 ·exact do5_does m hX hc
 ·exact do6_does m hX hc
 ·exact do7_does m hX hc
 ·exact do8_does m hX hc
 ·exact do9_does m hX hc
 ·exact do10_does m hX hc
 ·exact do11_does m hX hc
theorem can12 {m rt : Bool} {X : Tr} (hc : canT m rt X 12 = true) : rt = true ∧ wt X ≠ 1 := by
 have : (rt && wt X != 1) = true := hc
 simpa using this
theorem sums_set (x : Int) {Y : Tr} (h : Y ≠ .nil) (a : Int) : sums (setW Y x) a = sums Y (a + (x - wt Y)) := by
 cases Y with
 | nil => exact absurd rfl h
 | node n p l r =>
  cases l with
  | nil => simp only [setW, sums, wt]; congr 1; omega
  | node _ _ _ _ => simp only [setW, sums, wt]; rw [show a + (x - n.f2) + n.f2 = a + x by omega]
theorem size_set (x : Int) (Y : Tr) : sizeT (setW Y x) = sizeT Y := by cases Y <;> rfl
theorem all_set {x : Int} {T : Tr} (h : allT (fun n => n.f1 = 0) T) : allT (fun n => n.f1 = 0) (setW T x) := by
 cases T with
 | nil => exact h
 | node n p l r => exact h
theorem setW_as (x y : Int) (T : Tr) : setW (asT x T) y = asT y T := by cases T <;> rfl
structure Gives (rt : Bool) (X R : Tr) : Prop where
 size : sizeT R = sizeT X
 ok : Ok R
 all : allT (fun n => n.f1 = 0) X → allT (fun n => n.f1 = 0) R
 plain : rt = false → ∀ a, sums R a = sums X a
 root : rt = true → wt R = 1 ∧ ∃ d, ∀ a, sums R a = sums X (a + d)
theorem ok_set_top {Y : Tr} (h : Ok (setW Y 1)) : Y ≠ .nil := by
 cases Y with
 | nil => exact h.elim
 | node _ _ _ _ => simp
theorem gives_root (m : Bool) {X : Tr} {kind : Int} (hk : 1 ≤ kind ∧ kind ≤ 12) (hX : Ok X) (hc : canT m true X kind = true) : Gives true X (setW (doT m X kind) 1) := by
 by_cases h12 : kind = 12
 ·subst h12
  have e : doT m X 12 = asT 1 X := rfl
  rw [e, setW_as]
  refine ⟨size_as 1, ok_as (by omega) hX, fun h => all_as h, fun h => absurd h (by simp), fun _ => ⟨wt_as 1 (ok_ne hX), 1 - wt X, fun a => ?_⟩⟩
  rw [sums_as 1 (ok_ne hX)]
  congr 1
  omega
 ·have h := doT_does m true hk h12 hX hc
  have hn := ok_set_top h.ok1
  refine ⟨by rw [size_set, h.size], h.ok1, fun ha => all_set (h.all ha), fun h => absurd h (by simp), fun _ => ⟨?_, 1 - wt (doT m X kind), fun a => ?_⟩⟩
  ·cases hd : doT m X kind with
   | nil => exact absurd hd hn
   | node _ _ _ _ => rfl
  ·rw [sums_set 1 hn, h.sums]
theorem gives_plain (m : Bool) {X : Tr} {kind : Int} (hk : 1 ≤ kind ∧ kind ≤ 12) (hX : Ok X) (hc : canT m false X kind = true) (hb : ¬ 1000000 < wt (doT m X kind)) : Gives false X (doT m X kind) := by
 have h12 : kind ≠ 12 := by rintro rfl; exact absurd (can12 hc).1 (by simp)
 have h := doT_does m false hk h12 hX hc
 exact ⟨h.size, h.ok (by omega), h.all, fun _ => h.sums, fun h => absurd h (by simp)⟩
def replT (c : Nat) (R : Tr) : Tr → Tr
 | .nil => .nil
 | .node n p l r => .node n p (if plc l = c then R else replT c R l) (if plc r = c then R else replT c R r)
theorem plc_nil (c : Nat) : ¬ plc .nil = (c : Int) := by simp only [plc]; omega
theorem mkR_eq (t : List S34) (c : Nat) (R : Tr) : ∀ (k i : Nat) (T : Tr), mkT t k i = some T → mkR t c R k i = some (replT c R T) := by
 intro k
 induction k with
 | zero => intro i T h; simp [mkT] at h
 | succ k ih =>
  intro i T h
  rw [mkT] at h
  rw [mkR]
  split at h
  case isFalse => exact absurd h (by simp)
  rename_i hi
  rw [if_pos hi]
  split at h
  ·rename_i h4
   obtain ⟨l, hl, h⟩ := Option.bind_eq_some_iff.1 h
   obtain ⟨r, hr, h⟩ := Option.bind_eq_some_iff.1 h
   obtain rfl := Option.some.inj h
   have e : ∀ (j : Nat) (S : Tr), mkT t k j = some S → (if j = c then some R else mkR t c R k j) = some (if plc S = c then R else replT c R S) := by
    intro j S hS
    rw [mkT_plc hS]
    by_cases ej : j = c
    ·rw [if_pos ej, if_pos (by omega)]
    ·rw [if_neg ej, if_neg (by omega), ih j S hS]
   rw [if_pos h4, e _ _ hl, Option.bind_some, e _ _ hr, Option.bind_some, replT]
  ·rename_i h4
   obtain rfl := Option.some.inj h
   rw [if_neg h4, replT, if_neg (plc_nil c), replT]
theorem ok_mkT {t : List S34} (hf : ∀ i, i < t.length → fmN (t.getD i z34) t.length = true) : ∀ {k i : Nat} {T : Tr}, mkT t k i = some T → Ok T := by
 intro k
 induction k with
 | zero => intro i T h; simp [mkT] at h
 | succ k ih =>
  intro i T h
  by_cases hl : (t.getD i z34).f4 = -1 ∧ (t.getD i z34).f5 = -1
  ·obtain ⟨hi, rfl⟩ := mkT_leaf hf h hl
   have := (fmN_iff _ _).1 (hf i hi)
   exact ⟨this.1, this.2.1, .inl ⟨rfl, rfl, hl⟩⟩
  ·obtain ⟨k', l, r, hk, hi, h1, h2, rfl⟩ := mkT_inner hf h hl
   obtain rfl : k = k' := by omega
   have := (fmN_iff _ _).1 (hf i hi)
   exact ⟨this.1, this.2.1, .inr ⟨by omega, ih h1, ih h2⟩⟩
theorem sub_ex {t : List S34} : ∀ {k i : Nat} {T : Tr}, mkT t k i = some T → ∀ p ∈ plT T, ∃ X, mkT t k p.toNat = some X ∧ (∀ P, allT P T → allT P X) := by
 intro k
 induction k with
 | zero => intro i T h; simp [mkT] at h
 | succ k ih =>
  intro i T h p hp
  have h0 := h
  rw [mkT] at h
  split at h
  case isFalse => exact absurd h (by simp)
  rename_i hi
  split at h
  ·obtain ⟨l, hl, h⟩ := Option.bind_eq_some_iff.1 h
   obtain ⟨r, hr, h⟩ := Option.bind_eq_some_iff.1 h
   obtain rfl := Option.some.inj h
   simp only [plT, List.mem_cons, List.mem_append] at hp
   rcases hp with rfl | hp | hp
   ·exact ⟨_, by rw [Int.toNat_natCast]; exact h0, fun _ h => h⟩
   ·obtain ⟨X, h1, h2⟩ := ih hl p hp
    exact ⟨X, mkT_mono _ _ _ _ h1, fun P h => h2 P h.2.1⟩
   ·obtain ⟨X, h1, h2⟩ := ih hr p hp
    exact ⟨X, mkT_mono _ _ _ _ h1, fun P h => h2 P h.2.2⟩
  ·obtain rfl := Option.some.inj h
   simp only [plT, List.append_nil, List.mem_cons, List.not_mem_nil, or_false] at hp
   subst hp
   exact ⟨_, by rw [Int.toNat_natCast]; exact h0, fun _ h => h⟩
theorem repl_ok {c : Nat} {R : Tr} (hR : Ok R) : ∀ {T : Tr}, Ok T → Ok (replT c R T)
 | .nil, h => h
 | .node n p l r, h => by
  rw [replT]
  refine ⟨h.1, h.2.1, ?_⟩
  rcases h.2.2 with ⟨rfl, rfl, h4, h5⟩ | ⟨h3, hl, hr⟩
  ·refine .inl ⟨?_, ?_, h4, h5⟩ <;> rw [if_neg (plc_nil c)] <;> rfl
  ·refine .inr ⟨h3, ?_, ?_⟩
   ·split
    ·exact hR
    ·exact repl_ok hR hl
   ·split
    ·exact hR
    ·exact repl_ok hR hr
theorem repl_size {t : List S34} {c K : Nat} {X R : Tr} (hX : mkT t K c = some X) (hs : sizeT R = sizeT X) : ∀ (k i : Nat) (T : Tr), mkT t k i = some T → sizeT (replT c R T) = sizeT T := by
 intro k
 induction k with
 | zero => intro i T h; simp [mkT] at h
 | succ k ih =>
  intro i T h
  rw [mkT] at h
  split at h
  case isFalse => exact absurd h (by simp)
  rename_i hi
  split at h
  ·obtain ⟨l, hl, h⟩ := Option.bind_eq_some_iff.1 h
   obtain ⟨r, hr, h⟩ := Option.bind_eq_some_iff.1 h
   obtain rfl := Option.some.inj h
   have e : ∀ (j : Nat) (S : Tr), mkT t k j = some S → sizeT (if plc S = c then R else replT c R S) = sizeT S := by
    intro j S hS
    split
    ·rename_i hp
     rw [mkT_plc hS] at hp
     obtain rfl : j = c := by omega
     rw [hs, mkT_fun t hS hX]
    ·exact ih j S hS
   rw [replT, sizeT, e _ _ hl, e _ _ hr, sizeT]
  ·obtain rfl := Option.some.inj h
   rw [replT, if_neg (plc_nil c)]
   rfl
def newX (c : Nat) (R X0 : Tr) : Tr := if plc X0 = c then R else replT c R X0
section
attribute [local go_sem] max2_int min2_int max_two min_two max_three min_three max_four min_four
def larchlaw18_to.f (a0_0 : Int) (a0_1 : Bool) : Option (Int × Bool) := some (a0_0, a0_1)
theorem larchlaw18_to.calls (a0_0 : Int) (a0_1 : Bool) (r1 : Int) (r2 : Bool) (w : World) (h : larchlaw18_to.f a0_0 a0_1 = some (r1, r2)) :
  Calls Try.prog 29 #[.agg #[.int .i64 a0_0, .bool a0_1]] w (RB w (.agg #[.int .i64 r1, .bool r2])) := by
 have HB := Am (Below.refl w.heap.size w)
 have H : (some (a0_0, a0_1)) = some (r1, r2) := h
 clear h
 simp only [Option.some.injEq, Prod.mk.injEq] at H
 obtain ⟨rfl, rfl⟩ := H
 go_enter Try.func29, Try.ntmps29
 go_wp2_with (first | ((with_reducible refine gs 1 rfl ?_); refine bE 1 (cs := #[.int .i64 a0_0, .bool a0_1]) (t := 24) ?_; intro gb204 hg w2 hbox hb; obtain ⟨n0_, BK204, GW204, GE204⟩ := bx hg hbox hb; clear HB; have HB := n0_; clear n0_ hb hbox hg) | ((with_reducible refine gs 2 rfl ?_); refine box_event ?hg (N := 2) ?hd (cs := #[.int .i64 0, .bool false]) (t := 62) ?hr ?_; (case hd => rfl); (case hg => rfl); (case hr => first | (go_simp; done) | (go_simp; rfl)); intro gb205 hg w3 hbox hb; have n0_ := Am (blk_below (bk BK204.out) hb); have n1_ := Am (below_step bs hb); have n2_ := Am (hbox); have n3_ := Am ((bz' hg : w.heap.size ≤ gb205)); have n4_ := Am ((bz' hg : w.heap.size ≤ gb205)); have n5_ := Am ((by rw [hg]; exact Nat.ne_of_lt (blk_lt (g := gb204) (o := .cells #[.int .i64 a0_0, .bool a0_1] 24 (0, 0)) (bk BK204.out)) : gb204 ≠ gb205)); have n6_ := Am ((by rw [hg]; exact Nat.ne_of_gt (blk_lt (g := gb204) (o := .cells #[.int .i64 a0_0, .bool a0_1] 24 (0, 0)) (bk BK204.out)) : gb205 ≠ gb204)); clear BK204; clear HB; have BK204 := n0_; have HB := n1_; have BK205 := n2_; have GW205 := n3_; have GE205 := n4_; have NB204_205 := n5_; have NB205_204 := n6_; clear n0_ n1_ n2_ n3_ n4_ n5_ n6_; clear hb hbox hg; have hnb4 := NB204_205.out; have hnc4 := NB205_204.out; obtain ⟨z5_0, z5_1, f5_0, f5_1⟩ := cf2 BK204.out; obtain ⟨z6_0, z6_1, f6_0, f6_1⟩ := cf2 BK205.out))
 refine bodyPost_ret (results_cell_row rfl _ _ gb205 62 #[.int .i64 a0_0, .bool a0_1] (0, 0) _ rfl (bp2 BK205.out) Try.underlying62 rfl (by kernel_rfl)) rfl ?_
 exact ⟨er, bs⟩
end
theorem keys_nil (k : Nat) (t : List S34) (r : Int) (met : List Bool) : steps_keys.l0 (k + 1) t r met [] = some (r, met, 0) := by
 rw [steps_keys.l0]
 exact if_neg (by simp)
theorem keys_step (k : Nat) (t : List S34) (r : Int) (met : List Bool) (i : Int) (s : List Int) (hs : s.length < 17592186044416) :
  steps_keys.l0 (k + 1) t r met (i :: s).reverse =
   if 0 ≤ i then (if i < met.length then (if i < t.length then
    (if (t.getD i.toNat z34).f4 ≥ 0 then (if s.length + 2 < 17592186044416 then steps_keys.l0 k t r (met.set i.toNat true) ((t.getD i.toNat z34).f5 :: (t.getD i.toNat z34).f4 :: s).reverse else none)
     else steps_keys.l0 k t r (met.set i.toNat true) s.reverse) else none) else none) else none := by
 have e : (i :: s).reverse = s.reverse ++ [i] := List.reverse_cons
 have e2 : ((t.getD i.toNat z34).f5 :: (t.getD i.toNat z34).f4 :: s).reverse = s.reverse ++ [(t.getD i.toNat z34).f4, (t.getD i.toNat z34).f5] := by simp
 rw [e, e2]
 generalize hr : s.reverse = s'
 have hl : s'.length = s.length := by rw [← hr, List.length_reverse]
 rw [← hl] at hs ⊢
 have h1 : wrap64 (((s' ++ [i]).length : Int) - 1) = s'.length := by rw [List.length_append, List.length_singleton, Go.IntWalk.wrap64_in _ (by omega)]; omega
 have h2 : rd (s' ++ [i]) (s'.length : Int) = i := by simp [rd]
 have h3 : (s' ++ [i]).take ((s'.length : Int)).toNat = s' := by simp
 rw [steps_keys.l0, h1, h2, h3]
 rw [if_pos (by rw [List.length_append, List.length_singleton]; omega), if_pos (by omega), if_pos (by rw [List.length_append, List.length_singleton]; omega), if_pos (by rw [List.length_append, List.length_singleton]; omega)]
 rw [show rd_T34 t i = t.getD i.toNat z34 from rfl]
 simp only [Option.bind_some, List.length_cons, List.length_nil, Nat.zero_add]
theorem keys_tree (t : List S34) (r : Int) (K : Nat) (hlen : t.length ≤ 100000) (hf : FormT t) : ∀ (k : Nat) (met : List Bool) (s ps : List Int), met.length = t.length → plF t K s = some ps → ps.length < k → ps.length ≤ 1000000 →
  ∃ met', steps_keys.l0 k t r met s.reverse = some (r, met', 0) ∧ met'.length = t.length ∧ ∀ c : Nat, c < t.length → (met'.getD c false = true ↔ met.getD c false = true ∨ (c : Int) ∈ ps) := by
 intro k
 induction k with
 | zero => intro met s ps _ _ h; exact absurd h (by omega)
 | succ k ih =>
  intro met s ps hm hp hk ho
  cases s with
  | nil =>
   rw [plF] at hp
   injection hp with hp
   subst hp
   exact ⟨met, by rw [List.reverse_nil, keys_nil], hm, fun c hc => by simp⟩
  | cons i s =>
   obtain ⟨T, q, h0, hT, hq, rfl⟩ := plF_cons hp
   have hsl := plF_len hp
   rw [List.length_cons, List.length_append] at hsl
   rw [List.length_append] at hk ho
   rw [keys_step _ _ _ _ _ _ (by omega), if_pos h0]
   cases K with
   | zero => simp [mkT] at hT
   | succ K =>
    rw [mkT] at hT
    split at hT
    case isFalse => exact absurd hT (by simp)
    rename_i hi
    rw [if_pos (by omega), if_pos (by omega)]
    have hset : ∀ c : Nat, c < t.length → ((met.set i.toNat true).getD c false = true ↔ met.getD c false = true ∨ (c : Int) = i) := by
     intro c hc
     by_cases e : i.toNat = c
     ·subst e
      rw [getD_set_eq _ _ _ (by omega)]
      simp; omega
     ·rw [getD_set_ne _ _ _ e]
      have : ¬ (c : Int) = i := by omega
      simp [this]
    split at hT
    ·rename_i h4
     obtain ⟨Tl, hl, hT⟩ := Option.bind_eq_some_iff.1 hT
     obtain ⟨Tr', hr, hT⟩ := Option.bind_eq_some_iff.1 hT
     obtain rfl := Option.some.inj hT
     simp only [plT, List.length_cons, List.length_append] at hk ho hsl
     have h5 : 0 ≤ (t.getD i.toNat z34).f5 := by have := hf i.toNat hi; omega
     rw [if_pos h4, if_pos (by omega)]
     obtain ⟨met', e1, e2, e3⟩ := ih (met.set i.toNat true) (_ :: _ :: s) _ (by rw [List.length_set, hm]) (plF_mk h5 (mkT_mono t _ _ _ hr) (plF_mk h4 (mkT_mono t _ _ _ hl) hq)) (by simp only [List.length_append]; omega) (by simp only [List.length_append]; omega)
     refine ⟨met', e1, e2, fun c hc => ?_⟩
     rw [e3 c hc, hset c hc]
     simp only [plT, List.cons_append, List.mem_cons, List.mem_append, Int.toNat_of_nonneg h0, or_assoc]
     exact or_congr_right (or_congr_right or_left_comm)
    ·rename_i h4
     obtain rfl := Option.some.inj hT
     simp only [plT, List.length_cons, List.length_nil, List.append_nil] at hk ho hsl
     rw [if_neg (by omega)]
     obtain ⟨met', e1, e2, e3⟩ := ih (met.set i.toNat true) s _ (by rw [List.length_set, hm]) hq (by omega) (by omega)
     refine ⟨met', e1, e2, fun c hc => ?_⟩
     rw [e3 c hc, hset c hc]
     simp only [plT, List.cons_append, List.nil_append, List.mem_cons, List.mem_append, Int.toNat_of_nonneg h0, or_assoc]
theorem root_total (t : List S34) : ∃ k r1 r2, table_Root.f k t = some (r1, r2) ∧ (r2 = 0 → ∃ T X0, Good t T ∧ Crown T X0 ∧ plc X0 = r1) := by
 obtain ⟨k, r, h, hg⟩ := check_total t
 by_cases h0 : r = 0
 ·obtain ⟨T, hT⟩ := hg h0
  obtain ⟨k', r1, r2, h1, h2, _⟩ := root_good hT
  exact ⟨k', r1, r2, h1, fun e => by obtain ⟨X0, h3, h4⟩ := h2 e; exact ⟨T, X0, hT, h3, h4⟩⟩
 ·refine ⟨k, 0, r, ?_, fun e => absurd e h0⟩
  unfold table_Root.f
  rw [h, Option.bind_some, if_neg h0]
theorem crown_tree {t : List S34} {T X0 : Tr} (hg : Good t T) (h : Crown T X0) : ∃ c0 : Nat, plc X0 = c0 ∧ c0 < t.length ∧ mkT t t.length c0 = some X0 ∧ (plT X0).Nodup ∧ (plT X0).length ≤ t.length := by
 have hn := hg.nodup
 have ha := hg.all
 obtain ⟨n0, n1, p1, q1, q0, rfl, _, _, _, _, _, hXn⟩ := h
 obtain ⟨_, _, _, h3⟩ := mkT_node hg.form hg.tree
 obtain ⟨_, k1, hk1, h5, _⟩ := h3 (by simp)
 obtain ⟨_, _, _, e3⟩ := mkT_node hg.form h5
 obtain ⟨_, k2, hk2, e5, _⟩ := e3 hXn
 simp only [plT, List.cons_append, List.nodup_cons, List.length_cons, List.length_append] at hn ha
 refine ⟨n1.f4.toNat, mkT_plc e5, ?_, mkT_le t (by omega) e5, ?_, by omega⟩
 ·have := (plT_mem _ _ _ e5).2 _ (plT_mem _ _ _ e5).1
  omega
 ·have h1 := hn.2.2
  rw [List.append_assoc] at h1
  exact nodup_app_l h1
theorem fullB_ok : ∀ {T : Tr}, Ok T → fullB T = true
 | .nil, h => h.elim
 | .node n p l r, h => by
  rcases h.2.2 with ⟨rfl, rfl, _⟩ | ⟨_, hl, hr⟩
  ·rfl
  ·cases l with
   | nil => exact hl.elim
   | node _ _ _ _ =>
    cases r with
    | nil => exact hr.elim
    | node _ _ _ _ => rw [fullB, fullB_ok hl, fullB_ok hr]; rfl
theorem okB_good {t : List S34} {T : Tr} (hg : Good t T) : okB t = true := by
 unfold okB
 rw [Bool.and_eq_true, decide_eq_true_eq, List.all_eq_true]
 refine ⟨hg.len, fun x hx => ?_⟩
 obtain ⟨i, hi, rfl⟩ := List.getElem_of_mem hx
 have := (fmN_iff _ _).1 (hg.form i hi)
 rw [List.getD, List.getElem?_eq_getElem hi, Option.getD_some] at this
 simp only [Bool.or_eq_true, Bool.and_eq_true, decide_eq_true_eq]
 omega
theorem size_pl : ∀ T, sizeT T = (plT T).length
 | .nil => rfl
 | .node _ _ l r => by rw [sizeT, plT, List.length_cons, List.length_append, size_pl l, size_pl r]; omega
structure Moved (t : List S34) (a1 kind : Int) (mir : Bool) (u : List S34) (T X0 X R : Tr) (c : Nat) (rt : Bool) : Prop where
 good : Good t T
 crown : Crown T X0
 place : a1 = c
 inX : (c : Int) ∈ plT X0
 sub : mkT t t.length c = some X
 isrt : (a1 == plc X0) = rt
 gives : Gives rt X R
 can : canT mir rt X kind = true
 kinds : 1 ≤ kind ∧ kind ≤ 12
 isR : R = if rt = true then setW (doT mir X kind) 1 else doT mir X kind
 okR : Ok (replT c R T)
 sizeR : sizeT (replT c R T) = t.length
 isu : u = flatT (replT c R T) 0
section
attribute [local go_sem] max2_int min2_int max_two min_two max_three min_three max_four min_four
end
section
attribute [local go_sem] max2_int min2_int max_two min_two max_three min_three max_four min_four
theorem eqA24 (d : Nat) (w : World) (x0 y0 : Int) (x1 y1 : Bool) :
  (Op.equalIn (d + 2) 24 (.agg #[.int .i64 x0, .bool x1]) (.agg #[.int .i64 y0, .bool y1])).run Try.prog w = .ok (x0 == y0 && (x1 == y1)) w := by
 refine eqA_of Try.underlying24 (by kernel_rfl) ?_
 refine eqf_cons (by rfl) (by go_simp; rfl) (by go_simp; rfl) (by go_simp) ?_
 exact eqf_last (by rfl) (by go_simp; rfl) (by go_simp; rfl) (by go_simp)
end
section
attribute [local go_sem] max2_int min2_int max_two min_two max_three min_three max_four min_four
mutual
def larchref16_node.j0 : Nat → Int → Bool → Int → Int → Int → Int → Int → Int → Option (Bool)
 | 0, _, _, _, _, _, _, _, _ => none
 | k + 1, x1, x5, x509000, x509001, x509002, x509003, x509004, x509005 => if x5 = true then (larchref16_node.j1 k x5 false x509000 x509001 x509002 x509003 x509004 x509005) else (if x509004 < 1 then (larchref16_node.j1 k x5 true x509000 x509001 x509002 x509003 x509004 x509005) else (if x509004 ≥ x1 then (larchref16_node.j1 k x5 true x509000 x509001 x509002 x509003 x509004 x509005) else (if x509005 < 1 then (larchref16_node.j1 k x5 true x509000 x509001 x509002 x509003 x509004 x509005) else (if x509005 ≥ x1 then (larchref16_node.j1 k x5 true x509000 x509001 x509002 x509003 x509004 x509005) else (larchref16_node.j1 k x5 (x509004 == x509005) x509000 x509001 x509002 x509003 x509004 x509005)))))
def larchref16_node.j1 : Nat → Bool → Bool → Int → Int → Int → Int → Int → Int → Option (Bool)
 | 0, _, _, _, _, _, _, _, _ => none
 | k + 1, x5, x44, x509000, x509001, x509002, x509003, x509004, x509005 => if x44 = true then (some false) else (if x509001 = 0 then (if x509001 = 1 then (if x509000 = 0 then (if x509003 = 0 then (if x5 = true then (if x509002 ≥ 0 then (some (decide (x509002 ≤ 1000000))) else (some false)) else (if x509002 ≥ 0 then (some (decide (x509002 ≤ 1000000))) else (some false))) else (some false)) else (some false)) else (if x5 = true then (if x509002 ≥ 0 then (some (decide (x509002 ≤ 1000000))) else (some false)) else (if x509003 = 0 then (if x509002 ≥ 0 then (some (decide (x509002 ≤ 1000000))) else (some false)) else (some false)))) else (if x509001 = 1 then (if x509000 = 0 then (if x509003 = 0 then (if x5 = true then (if x509002 ≥ 0 then (some (decide (x509002 ≤ 1000000))) else (some false)) else (if x509002 ≥ 0 then (some (decide (x509002 ≤ 1000000))) else (some false))) else (some false)) else (some false)) else (some false)))
end
def larchref16_node.f (k : Nat) (a0_0 : Int) (a0_1 : Int) (a0_2 : Int) (a0_3 : Int) (a0_4 : Int) (a0_5 : Int) (a1 : Int) : Option (Bool) := if a0_4 = (-1) then (larchref16_node.j0 k a1 (a0_5 == (-1)) a0_0 a0_1 a0_2 a0_3 a0_4 a0_5) else (larchref16_node.j0 k a1 false a0_0 a0_1 a0_2 a0_3 a0_4 a0_5)
theorem larchref16_node.mono_l : ∀ k, (∀ y0 y1 y2 y3 y4 y5 y6 y7, LeO (larchref16_node.j0 k y0 y1 y2 y3 y4 y5 y6 y7) (larchref16_node.j0 (k + 1) y0 y1 y2 y3 y4 y5 y6 y7)) ∧ (∀ y0 y1 y2 y3 y4 y5 y6 y7, LeO (larchref16_node.j1 k y0 y1 y2 y3 y4 y5 y6 y7) (larchref16_node.j1 (k + 1) y0 y1 y2 y3 y4 y5 y6 y7))
 | 0 => ⟨fun _ _ _ _ _ _ _ _ r h => by simp [larchref16_node.j0] at h, fun _ _ _ _ _ _ _ _ r h => by simp [larchref16_node.j1] at h⟩
 | k + 1 => by
  obtain ⟨ih0, ih1⟩ := larchref16_node.mono_l k
  refine ⟨?_, ?_⟩
  ·intro y0 y1 y2 y3 y4 y5 y6 y7
   unfold larchref16_node.j0
   repeat' first
   | (with_reducible exact ih0 _ _ _ _ _ _ _ _)
   | (with_reducible exact ih1 _ _ _ _ _ _ _ _)
   | (with_reducible exact LeO.refl _)
   | (with_reducible exact LeO.none _)
   | (with_reducible refine LeO.ite ?_ ?_)
   | (with_reducible refine LeO.bind ?_ (fun _ => ?_))
   | exact ih0 _ _ _ _ _ _ _ _
   | exact ih1 _ _ _ _ _ _ _ _
   | exact LeO.none _
   | refine LeO.ite ?_ ?_
   | refine LeO.bind ?_ (fun _ => ?_)
  ·intro y0 y1 y2 y3 y4 y5 y6 y7
   unfold larchref16_node.j1
   repeat' first
   | (with_reducible exact ih0 _ _ _ _ _ _ _ _)
   | (with_reducible exact ih1 _ _ _ _ _ _ _ _)
   | (with_reducible exact LeO.refl _)
   | (with_reducible exact LeO.none _)
   | (with_reducible refine LeO.ite ?_ ?_)
   | (with_reducible refine LeO.bind ?_ (fun _ => ?_))
   | exact ih0 _ _ _ _ _ _ _ _
   | exact ih1 _ _ _ _ _ _ _ _
   | exact LeO.none _
   | refine LeO.ite ?_ ?_
   | refine LeO.bind ?_ (fun _ => ?_)
theorem larchref16_node.mono : ∀ a0 a1 a2 a3 a4 a5 a6 k, LeO (larchref16_node.f k a0 a1 a2 a3 a4 a5 a6) (larchref16_node.f (k + 1) a0 a1 a2 a3 a4 a5 a6) := by
 intro a0 a1 a2 a3 a4 a5 a6 k
 obtain ⟨ih0, ih1⟩ := larchref16_node.mono_l k
 unfold larchref16_node.f
 repeat' first
   | (with_reducible exact ih0 _ _ _ _ _ _ _ _)
   | (with_reducible exact ih1 _ _ _ _ _ _ _ _)
   | (with_reducible exact LeO.refl _)
   | (with_reducible exact LeO.none _)
   | (with_reducible refine LeO.ite ?_ ?_)
   | (with_reducible refine LeO.bind ?_ (fun _ => ?_))
   | exact ih0 _ _ _ _ _ _ _ _
   | exact ih1 _ _ _ _ _ _ _ _
   | exact LeO.none _
   | refine LeO.ite ?_ ?_
   | refine LeO.bind ?_ (fun _ => ?_)
theorem larchref16_node.calls (k : Nat) (a0_0 : Int) (a0_1 : Int) (a0_2 : Int) (a0_3 : Int) (a0_4 : Int) (a0_5 : Int) (a1 : Int) (r : Bool) (w : World) (h : larchref16_node.f k a0_0 a0_1 a0_2 a0_3 a0_4 a0_5 a1 = some r) :
  Calls Try.prog 75 #[.agg #[.int .i64 a0_0, .int .i64 a0_1, .int .i64 a0_2, .int .i64 a0_3, .int .i64 a0_4, .int .i64 a0_5], .int .i64 a1] w (RB w (.bool r)) := by
 have HB := Am (Below.refl w.heap.size w)
 have H : (if a0_4 = (-1) then (larchref16_node.j0 k a1 (a0_5 == (-1)) a0_0 a0_1 a0_2 a0_3 a0_4 a0_5) else (larchref16_node.j0 k a1 false a0_0 a0_1 a0_2 a0_3 a0_4 a0_5)) = some r := h
 clear h
 have HC3 := Am H
 clear H
 go_enter Try.func75, Try.ntmps75
 go_upto_region 1 with (first | ((with_reducible refine gs 2 rfl ?_); refine bE 2 (cs := #[.int .i64 a0_0, .int .i64 a0_1, .int .i64 a0_2, .int .i64 a0_3, .int .i64 a0_4, .int .i64 a0_5]) (t := 34) ?_; intro gb508 hg w4 hbox hb; obtain ⟨n0_, BK508, GW508, GE508⟩ := bx hg hbox hb; clear HB; have HB := n0_; clear n0_ hb hbox hg))
 (try simp only [Act.put, sI, sZ, sS])
 go_cut [5] (fun v5 wc => ∃ (kq : Nat) (x5_2 : Bool), v5 = .bool x5_2 ∧ Aside0 (larchref16_node.j0 kq a1 x5_2 a0_0 a0_1 a0_2 a0_3 a0_4 a0_5 = some r) ∧ Aside0 (kq ≤ k) ∧ Aside0 (wc.heap[gb508]? = some (.cells #[.int .i64 a0_0, .int .i64 a0_1, .int .i64 a0_2, .int .i64 a0_3, .int .i64 a0_4, .int .i64 a0_5] 34 (0, 0))) ∧ Aside0 (Below w.heap.size w wc))
 case first =>
  have H := HC3.out
  clear HC3
  by_cases c5 : a0_4 = (-1)
  ·rw [if_pos c5] at H
   obtain ⟨c5b0, c5b1⟩ := eq2 c5
   clear c5
   (first | rw [c5b0] | (simp only [i64_w, i32_w]; rw [c5b0]) | skip)
   have H' := Am H
   clear H
   obtain ⟨z6_0, z6_1, z6_2, z6_3, z6_4, z6_5, f6_0, f6_1, f6_2, f6_3, f6_4, f6_5⟩ := cf6 BK508.out
   go_wp2
   go_meet
   case rel => exact ⟨_, ((a0_5 == (-1))), (by first | rfl | (simp; done) | (simp [*]; done)), H', ⟨by first | omega | exact Nat.le_refl _⟩, ⟨bk BK508.out⟩, ⟨bs⟩⟩
  ·rw [if_neg c5] at H
   obtain ⟨c5b0, c5b1⟩ := ne2 c5
   (first | rw [c5b0] | (simp only [i64_w, i32_w]; rw [c5b0]) | skip)
   have H' := Am H
   clear H
   obtain ⟨z7_0, z7_1, z7_2, z7_3, z7_4, z7_5, f7_0, f7_1, f7_2, f7_3, f7_4, f7_5⟩ := cf6 BK508.out
   go_wp2
   go_meet
   case rel => exact ⟨_, (false), (by first | rfl | (simp; done) | (simp [*]; done)), H', ⟨by first | omega | exact Nat.le_refl _⟩, ⟨bk BK508.out⟩, ⟨bs⟩⟩
 case rest =>
  clear HC3
  try clear p2
  try clear c5
  try clear c5b0
  try clear c5b1
  try clear c7
  try clear z6_0
  try clear z6_1
  try clear z6_2
  try clear z6_3
  try clear z6_4
  try clear z6_5
  try clear z7_0
  try clear z7_1
  try clear z7_2
  try clear z7_3
  try clear z7_4
  try clear z7_5
  try clear f6_0
  try clear f6_1
  try clear f6_2
  try clear f6_3
  try clear f6_4
  try clear f6_5
  try clear f7_0
  try clear f7_1
  try clear f7_2
  try clear f7_3
  try clear f7_4
  try clear f7_5
  obtain ⟨kq, x5_2, rfl, HA, HJ2, BK508, HB⟩ := hcut
  cases kq with
  | zero => exact absurd HA.out (by simp [larchref16_node.j0])
  | succ kj2 =>
   have H := HA.out
   clear HA
   simp only [larchref16_node.j0] at H
   have HC8 := Am H
   clear H
   go_upto_region 2 with (fail)
   go_cut [44] (fun v44 wc => ∃ (kq : Nat) (x44_7 : Bool), v44 = .bool x44_7 ∧ Aside0 (larchref16_node.j1 kq x5_2 x44_7 a0_0 a0_1 a0_2 a0_3 a0_4 a0_5 = some r) ∧ Aside0 (kq ≤ kj2) ∧ Aside0 (wc.heap[gb508]? = some (.cells #[.int .i64 a0_0, .int .i64 a0_1, .int .i64 a0_2, .int .i64 a0_3, .int .i64 a0_4, .int .i64 a0_5] 34 (0, 0))) ∧ Aside0 (Below w.heap.size w wc))
   case first =>
    have H := HC8.out
    clear HC8
    by_cases c9 : x5_2 = true
    ·subst c9
     rw [if_pos rfl] at H
     have H' := Am H
     clear H
     go_wp2
     go_meet
     case rel => exact ⟨_, (false), (by first | rfl | (simp; done) | (simp [*]; done)), H', ⟨by have := HJ2.out; first | omega | exact Nat.le_refl _⟩, ⟨bk BK508.out⟩, ⟨bs⟩⟩
    ·replace c9 := Bool.eq_false_iff.mpr c9
     subst c9
     rw [if_neg nf] at H
     by_cases c10 : a0_4 < 1
     ·rw [if_pos c10] at H
      have c10b0 := decide_eq_true c10
      clear c10
      (first | rw [c10b0] | (simp only [i64_w, i32_w]; rw [c10b0]) | skip)
      have H' := Am H
      clear H
      obtain ⟨z11_0, z11_1, z11_2, z11_3, z11_4, z11_5, f11_0, f11_1, f11_2, f11_3, f11_4, f11_5⟩ := cf6 BK508.out
      go_wp2
      go_meet
      case rel => exact ⟨_, (true), (by first | rfl | (simp; done) | (simp [*]; done)), H', ⟨by have := HJ2.out; first | omega | exact Nat.le_refl _⟩, ⟨bk BK508.out⟩, ⟨bs⟩⟩
     ·rw [if_neg c10] at H
      have c10b0 := decide_eq_false c10
      clear c10
      (first | rw [c10b0] | (simp only [i64_w, i32_w]; rw [c10b0]) | skip)
      by_cases c12 : a0_4 ≥ a1
      ·rw [if_pos c12] at H
       have c12b0 : decide (a1 ≤ a0_4) = true := decide_eq_true c12
       clear c12
       have H' := Am H
       clear H
       obtain ⟨z13_0, z13_1, z13_2, z13_3, z13_4, z13_5, f13_0, f13_1, f13_2, f13_3, f13_4, f13_5⟩ := cf6 BK508.out
       go_wp2
       go_meet
       case rel => exact ⟨_, (true), (by first | rfl | (simp; done) | (simp [*]; done)), H', ⟨by have := HJ2.out; first | omega | exact Nat.le_refl _⟩, ⟨bk BK508.out⟩, ⟨bs⟩⟩
      ·rw [if_neg c12] at H
       have c12b0 : decide (a1 ≤ a0_4) = false := decide_eq_false c12
       clear c12
       by_cases c14 : a0_5 < 1
       ·rw [if_pos c14] at H
        have c14b0 := decide_eq_true c14
        clear c14
        have H' := Am H
        clear H
        obtain ⟨z15_0, z15_1, z15_2, z15_3, z15_4, z15_5, f15_0, f15_1, f15_2, f15_3, f15_4, f15_5⟩ := cf6 BK508.out
        go_wp2
        go_meet
        case rel => exact ⟨_, (true), (by first | rfl | (simp; done) | (simp [*]; done)), H', ⟨by have := HJ2.out; first | omega | exact Nat.le_refl _⟩, ⟨bk BK508.out⟩, ⟨bs⟩⟩
       ·rw [if_neg c14] at H
        have c14b0 := decide_eq_false c14
        clear c14
        by_cases c16 : a0_5 ≥ a1
        ·rw [if_pos c16] at H
         have c16b0 : decide (a1 ≤ a0_5) = true := decide_eq_true c16
         clear c16
         have H' := Am H
         clear H
         obtain ⟨z17_0, z17_1, z17_2, z17_3, z17_4, z17_5, f17_0, f17_1, f17_2, f17_3, f17_4, f17_5⟩ := cf6 BK508.out
         go_wp2
         go_meet
         case rel => exact ⟨_, (true), (by first | rfl | (simp; done) | (simp [*]; done)), H', ⟨by have := HJ2.out; first | omega | exact Nat.le_refl _⟩, ⟨bk BK508.out⟩, ⟨bs⟩⟩
        ·rw [if_neg c16] at H
         have c16b0 : decide (a1 ≤ a0_5) = false := decide_eq_false c16
         clear c16
         have H' := Am H
         clear H
         obtain ⟨z18_0, z18_1, z18_2, z18_3, z18_4, z18_5, f18_0, f18_1, f18_2, f18_3, f18_4, f18_5⟩ := cf6 BK508.out
         go_wp2
         go_meet
         case rel => exact ⟨_, ((a0_4 == a0_5)), (by first | rfl | (simp; done) | (simp [*]; done)), H', ⟨by have := HJ2.out; first | omega | exact Nat.le_refl _⟩, ⟨bk BK508.out⟩, ⟨bs⟩⟩
   case rest =>
    clear HC8
    try clear c1
    try clear c9
    try clear c10
    try clear c10b0
    try clear c12
    try clear c12b0
    try clear c14
    try clear c14b0
    try clear c16
    try clear c16b0
    try clear z11_0
    try clear z11_1
    try clear z11_2
    try clear z11_3
    try clear z11_4
    try clear z11_5
    try clear z13_0
    try clear z13_1
    try clear z13_2
    try clear z13_3
    try clear z13_4
    try clear z13_5
    try clear z15_0
    try clear z15_1
    try clear z15_2
    try clear z15_3
    try clear z15_4
    try clear z15_5
    try clear z17_0
    try clear z17_1
    try clear z17_2
    try clear z17_3
    try clear z17_4
    try clear z17_5
    try clear z18_0
    try clear z18_1
    try clear z18_2
    try clear z18_3
    try clear z18_4
    try clear z18_5
    try clear f11_0
    try clear f11_1
    try clear f11_2
    try clear f11_3
    try clear f11_4
    try clear f11_5
    try clear f13_0
    try clear f13_1
    try clear f13_2
    try clear f13_3
    try clear f13_4
    try clear f13_5
    try clear f15_0
    try clear f15_1
    try clear f15_2
    try clear f15_3
    try clear f15_4
    try clear f15_5
    try clear f17_0
    try clear f17_1
    try clear f17_2
    try clear f17_3
    try clear f17_4
    try clear f17_5
    try clear f18_0
    try clear f18_1
    try clear f18_2
    try clear f18_3
    try clear f18_4
    try clear f18_5
    obtain ⟨kq, x44_7, rfl, HA, HJ7, BK508, HB⟩ := hcut
    cases kq with
    | zero => exact absurd HA.out (by simp [larchref16_node.j1])
    | succ kj7 =>
     have H := HA.out
     clear HA
     simp only [larchref16_node.j1] at H
     by_cases c19 : x44_7 = true
     ·subst c19
      rw [if_pos rfl] at H
      obtain rfl := Option.some.inj H
      go_wp2
      go_ret
      exact ⟨er, bs⟩
     ·replace c19 := Bool.eq_false_iff.mpr c19
      subst c19
      rw [if_neg nf] at H
      by_cases c20 : a0_1 = 0
      ·rw [if_pos c20] at H
       obtain ⟨c20b0, c20b1⟩ := eq2 c20
       clear c20
       by_cases c21 : a0_1 = 1
       ·rw [if_pos c21] at H
        obtain ⟨c21b0, c21b1⟩ := eq2 c21
        clear c21
        by_cases c22 : a0_0 = 0
        ·rw [if_pos c22] at H
         obtain ⟨c22b0, c22b1⟩ := eq2 c22
         clear c22
         by_cases c23 : a0_3 = 0
         ·rw [if_pos c23] at H
          obtain ⟨c23b0, c23b1⟩ := eq2 c23
          clear c23
          by_cases c24 : x5_2 = true
          ·subst c24
           rw [if_pos rfl] at H
           by_cases c25 : a0_2 ≥ 0
           ·rw [if_pos c25] at H
            have c25b0 : decide (0 ≤ a0_2) = true := decide_eq_true c25
            clear c25
            obtain rfl := Option.some.inj H
            obtain ⟨z26_0, z26_1, z26_2, z26_3, z26_4, z26_5, f26_0, f26_1, f26_2, f26_3, f26_4, f26_5⟩ := cf6 BK508.out
            go_wp2
            go_ret
            exact ⟨er, bs⟩
           ·rw [if_neg c25] at H
            have c25b0 : decide (0 ≤ a0_2) = false := decide_eq_false c25
            clear c25
            obtain rfl := Option.some.inj H
            obtain ⟨z27_0, z27_1, z27_2, z27_3, z27_4, z27_5, f27_0, f27_1, f27_2, f27_3, f27_4, f27_5⟩ := cf6 BK508.out
            go_wp2
            go_ret
            exact ⟨er, bs⟩
          ·replace c24 := Bool.eq_false_iff.mpr c24
           subst c24
           rw [if_neg nf] at H
           by_cases c28 : a0_2 ≥ 0
           ·rw [if_pos c28] at H
            have c28b0 : decide (0 ≤ a0_2) = true := decide_eq_true c28
            clear c28
            obtain rfl := Option.some.inj H
            obtain ⟨z29_0, z29_1, z29_2, z29_3, z29_4, z29_5, f29_0, f29_1, f29_2, f29_3, f29_4, f29_5⟩ := cf6 BK508.out
            go_wp2
            go_ret
            exact ⟨er, bs⟩
           ·rw [if_neg c28] at H
            have c28b0 : decide (0 ≤ a0_2) = false := decide_eq_false c28
            clear c28
            obtain rfl := Option.some.inj H
            obtain ⟨z30_0, z30_1, z30_2, z30_3, z30_4, z30_5, f30_0, f30_1, f30_2, f30_3, f30_4, f30_5⟩ := cf6 BK508.out
            go_wp2
            go_ret
            exact ⟨er, bs⟩
         ·rw [if_neg c23] at H
          obtain ⟨c23b0, c23b1⟩ := ne2 c23
          obtain rfl := Option.some.inj H
          obtain ⟨z31_0, z31_1, z31_2, z31_3, z31_4, z31_5, f31_0, f31_1, f31_2, f31_3, f31_4, f31_5⟩ := cf6 BK508.out
          go_wp2
          go_ret
          exact ⟨er, bs⟩
        ·rw [if_neg c22] at H
         obtain ⟨c22b0, c22b1⟩ := ne2 c22
         obtain rfl := Option.some.inj H
         obtain ⟨z32_0, z32_1, z32_2, z32_3, z32_4, z32_5, f32_0, f32_1, f32_2, f32_3, f32_4, f32_5⟩ := cf6 BK508.out
         go_wp2
         go_ret
         exact ⟨er, bs⟩
       ·rw [if_neg c21] at H
        obtain ⟨c21b0, c21b1⟩ := ne2 c21
        by_cases c33 : x5_2 = true
        ·subst c33
         rw [if_pos rfl] at H
         by_cases c34 : a0_2 ≥ 0
         ·rw [if_pos c34] at H
          have c34b0 : decide (0 ≤ a0_2) = true := decide_eq_true c34
          clear c34
          obtain rfl := Option.some.inj H
          obtain ⟨z35_0, z35_1, z35_2, z35_3, z35_4, z35_5, f35_0, f35_1, f35_2, f35_3, f35_4, f35_5⟩ := cf6 BK508.out
          go_wp2
          go_ret
          exact ⟨er, bs⟩
         ·rw [if_neg c34] at H
          have c34b0 : decide (0 ≤ a0_2) = false := decide_eq_false c34
          clear c34
          obtain rfl := Option.some.inj H
          obtain ⟨z36_0, z36_1, z36_2, z36_3, z36_4, z36_5, f36_0, f36_1, f36_2, f36_3, f36_4, f36_5⟩ := cf6 BK508.out
          go_wp2
          go_ret
          exact ⟨er, bs⟩
        ·replace c33 := Bool.eq_false_iff.mpr c33
         subst c33
         rw [if_neg nf] at H
         by_cases c37 : a0_3 = 0
         ·rw [if_pos c37] at H
          obtain ⟨c37b0, c37b1⟩ := eq2 c37
          clear c37
          by_cases c38 : a0_2 ≥ 0
          ·rw [if_pos c38] at H
           have c38b0 : decide (0 ≤ a0_2) = true := decide_eq_true c38
           clear c38
           obtain rfl := Option.some.inj H
           obtain ⟨z39_0, z39_1, z39_2, z39_3, z39_4, z39_5, f39_0, f39_1, f39_2, f39_3, f39_4, f39_5⟩ := cf6 BK508.out
           go_wp2
           go_ret
           exact ⟨er, bs⟩
          ·rw [if_neg c38] at H
           have c38b0 : decide (0 ≤ a0_2) = false := decide_eq_false c38
           clear c38
           obtain rfl := Option.some.inj H
           obtain ⟨z40_0, z40_1, z40_2, z40_3, z40_4, z40_5, f40_0, f40_1, f40_2, f40_3, f40_4, f40_5⟩ := cf6 BK508.out
           go_wp2
           go_ret
           exact ⟨er, bs⟩
         ·rw [if_neg c37] at H
          obtain ⟨c37b0, c37b1⟩ := ne2 c37
          obtain rfl := Option.some.inj H
          obtain ⟨z41_0, z41_1, z41_2, z41_3, z41_4, z41_5, f41_0, f41_1, f41_2, f41_3, f41_4, f41_5⟩ := cf6 BK508.out
          go_wp2
          go_ret
          exact ⟨er, bs⟩
      ·rw [if_neg c20] at H
       obtain ⟨c20b0, c20b1⟩ := ne2 c20
       by_cases c42 : a0_1 = 1
       ·rw [if_pos c42] at H
        obtain ⟨c42b0, c42b1⟩ := eq2 c42
        clear c42
        by_cases c43 : a0_0 = 0
        ·rw [if_pos c43] at H
         obtain ⟨c43b0, c43b1⟩ := eq2 c43
         clear c43
         by_cases c44 : a0_3 = 0
         ·rw [if_pos c44] at H
          obtain ⟨c44b0, c44b1⟩ := eq2 c44
          clear c44
          by_cases c45 : x5_2 = true
          ·subst c45
           rw [if_pos rfl] at H
           by_cases c46 : a0_2 ≥ 0
           ·rw [if_pos c46] at H
            have c46b0 : decide (0 ≤ a0_2) = true := decide_eq_true c46
            clear c46
            obtain rfl := Option.some.inj H
            obtain ⟨z47_0, z47_1, z47_2, z47_3, z47_4, z47_5, f47_0, f47_1, f47_2, f47_3, f47_4, f47_5⟩ := cf6 BK508.out
            go_wp2
            go_ret
            exact ⟨er, bs⟩
           ·rw [if_neg c46] at H
            have c46b0 : decide (0 ≤ a0_2) = false := decide_eq_false c46
            clear c46
            obtain rfl := Option.some.inj H
            obtain ⟨z48_0, z48_1, z48_2, z48_3, z48_4, z48_5, f48_0, f48_1, f48_2, f48_3, f48_4, f48_5⟩ := cf6 BK508.out
            go_wp2
            go_ret
            exact ⟨er, bs⟩
          ·replace c45 := Bool.eq_false_iff.mpr c45
           subst c45
           rw [if_neg nf] at H
           by_cases c49 : a0_2 ≥ 0
           ·rw [if_pos c49] at H
            have c49b0 : decide (0 ≤ a0_2) = true := decide_eq_true c49
            clear c49
            obtain rfl := Option.some.inj H
            obtain ⟨z50_0, z50_1, z50_2, z50_3, z50_4, z50_5, f50_0, f50_1, f50_2, f50_3, f50_4, f50_5⟩ := cf6 BK508.out
            go_wp2
            go_ret
            exact ⟨er, bs⟩
           ·rw [if_neg c49] at H
            have c49b0 : decide (0 ≤ a0_2) = false := decide_eq_false c49
            clear c49
            obtain rfl := Option.some.inj H
            obtain ⟨z51_0, z51_1, z51_2, z51_3, z51_4, z51_5, f51_0, f51_1, f51_2, f51_3, f51_4, f51_5⟩ := cf6 BK508.out
            go_wp2
            go_ret
            exact ⟨er, bs⟩
         ·rw [if_neg c44] at H
          obtain ⟨c44b0, c44b1⟩ := ne2 c44
          obtain rfl := Option.some.inj H
          obtain ⟨z52_0, z52_1, z52_2, z52_3, z52_4, z52_5, f52_0, f52_1, f52_2, f52_3, f52_4, f52_5⟩ := cf6 BK508.out
          go_wp2
          go_ret
          exact ⟨er, bs⟩
        ·rw [if_neg c43] at H
         obtain ⟨c43b0, c43b1⟩ := ne2 c43
         obtain rfl := Option.some.inj H
         obtain ⟨z53_0, z53_1, z53_2, z53_3, z53_4, z53_5, f53_0, f53_1, f53_2, f53_3, f53_4, f53_5⟩ := cf6 BK508.out
         go_wp2
         go_ret
         exact ⟨er, bs⟩
       ·rw [if_neg c42] at H
        obtain ⟨c42b0, c42b1⟩ := ne2 c42
        obtain rfl := Option.some.inj H
        obtain ⟨z54_0, z54_1, z54_2, z54_3, z54_4, z54_5, f54_0, f54_1, f54_2, f54_3, f54_4, f54_5⟩ := cf6 BK508.out
        go_wp2
        go_ret
        exact ⟨er, bs⟩
end
section
attribute [local go_sem] max2_int min2_int max_two min_two max_three min_three max_four min_four
mutual
def larchref16_Check.l0 : Nat → List (S34) → List Int → Int → Option (Int)
 | 0, _, _, _ => none
 | k + 1, x0, x3, x4 => if x4 < (x0.length : Int) then (if 0 ≤ x4 then ((larchref16_node.f k ((rd_T34 x0 x4).f0) ((rd_T34 x0 x4).f1) ((rd_T34 x0 x4).f2) ((rd_T34 x0 x4).f3) ((rd_T34 x0 x4).f4) ((rd_T34 x0 x4).f5) (x0.length : Int)).bind fun t513 => (if t513 = true then (if ((rd_T34 x0 x4).f4) = (-1) then (larchref16_Check.l0 k x0 x3 (wrap64 (x4 + 1))) else (if 0 ≤ ((rd_T34 x0 x4).f4) then (if ((rd_T34 x0 x4).f4) < (x3.length : Int) then ((some (x3.set (((rd_T34 x0 x4).f4) : Int).toNat (wrap64 ((rd x3 ((rd_T34 x0 x4).f4)) + 1)) : List Int)).bind fun y517 => (if 0 ≤ ((rd_T34 x0 x4).f5) then (if ((rd_T34 x0 x4).f5) < (x3.length : Int) then (larchref16_Check.l0 k x0 (y517.set (((rd_T34 x0 x4).f5) : Int).toNat (wrap64 ((rd y517 ((rd_T34 x0 x4).f5)) + 1))) (wrap64 (x4 + 1))) else (none)) else (none))) else (none)) else (none))) else (some 3))) else (none)) else (larchref16_Check.l1 k x0 x3 1)
def larchref16_Check.l1 : Nat → List (S34) → List Int → Int → Option (Int)
 | 0, _, _, _ => none
 | k + 1, x0, x3, x5 => if x5 < (x0.length : Int) then (if 0 ≤ x5 then (if x5 < (x3.length : Int) then (if (rd x3 x5) = 1 then (larchref16_Check.l1 k x0 x3 (wrap64 (x5 + 1))) else (some 3)) else (none)) else (none)) else (larchref16_Check.l2 k x0 0 (([0] : List Int)))
def larchref16_Check.l2 : Nat → List (S34) → Int → List Int → Option (Int)
 | 0, _, _, _ => none
 | k + 1, x0, x6, x7 => if (x7.length : Int) > 0 then (if 0 ≤ (wrap64 ((x7.length : Int) - 1)) then (if (wrap64 ((x7.length : Int) - 1)) < (x7.length : Int) then (if 0 ≤ (rd x7 (wrap64 ((x7.length : Int) - 1))) then (if (rd x7 (wrap64 ((x7.length : Int) - 1))) < (x0.length : Int) then (if (wrap64 ((x7.length : Int) - 1)) ≤ (x7.length : Int) then ((some (x7.take ((wrap64 ((x7.length : Int) - 1)) : Int).toNat : List Int)).bind fun y528 => (if ((rd_T34 x0 (rd x7 (wrap64 ((x7.length : Int) - 1)))).f4) = (-1) then (larchref16_Check.l2 k x0 (wrap64 (x6 + 1)) y528) else ((some (([(rd_T34 x0 (rd x7 (wrap64 ((x7.length : Int) - 1)))).f4, (rd_T34 x0 (rd x7 (wrap64 ((x7.length : Int) - 1)))).f5] : List Int) : List Int)).bind fun y531 => (if y528.length + y531.length < 17592186044416 then (larchref16_Check.l2 k x0 (wrap64 (x6 + 1)) (y528 ++ y531)) else (none))))) else (none)) else (none)) else (none)) else (none)) else (none)) else (if x6 = (x0.length : Int) then (some 0) else (some 3))
end
def larchref16_Check.f (k : Nat) (l0 : List (S34)) : Option (Int) := if (l0.length : Int) > 100000 then (some 2) else (if (l0.length : Int) = 0 then (some 3) else (if 0 ≤ (l0.length : Int) then (if ((l0.length : Int) : Int).toNat ≤ 35184372088832 then (larchref16_Check.l0 k l0 (List.replicate ((l0.length : Int) : Int).toNat 0) 0) else (none)) else (none)))
theorem larchref16_Check.mono_l : ∀ k, (∀ y0 y1 y2, LeO (larchref16_Check.l0 k y0 y1 y2) (larchref16_Check.l0 (k + 1) y0 y1 y2)) ∧ (∀ y0 y1 y2, LeO (larchref16_Check.l1 k y0 y1 y2) (larchref16_Check.l1 (k + 1) y0 y1 y2)) ∧ (∀ y0 y1 y2, LeO (larchref16_Check.l2 k y0 y1 y2) (larchref16_Check.l2 (k + 1) y0 y1 y2))
 | 0 => ⟨fun _ _ _ r h => by simp [larchref16_Check.l0] at h, fun _ _ _ r h => by simp [larchref16_Check.l1] at h, fun _ _ _ r h => by simp [larchref16_Check.l2] at h⟩
 | k + 1 => by
  obtain ⟨ih0, ih1, ih2⟩ := larchref16_Check.mono_l k
  refine ⟨?_, ?_, ?_⟩
  ·intro y0 y1 y2
   unfold larchref16_Check.l0
   repeat' first
   | (with_reducible exact ih0 _ _ _)
   | (with_reducible exact ih1 _ _ _)
   | (with_reducible exact ih2 _ _ _)
   | (with_reducible exact larchref16_node.mono _ _ _ _ _ _ _ _)
   | (with_reducible exact LeO.refl _)
   | (with_reducible exact LeO.none _)
   | (with_reducible refine LeO.ite ?_ ?_)
   | (with_reducible refine LeO.bind ?_ (fun _ => ?_))
   | exact ih0 _ _ _
   | exact ih1 _ _ _
   | exact ih2 _ _ _
   | exact larchref16_node.mono _ _ _ _ _ _ _ _
   | exact LeO.none _
   | refine LeO.ite ?_ ?_
   | refine LeO.bind ?_ (fun _ => ?_)
  ·intro y0 y1 y2
   unfold larchref16_Check.l1
   repeat' first
   | (with_reducible exact ih0 _ _ _)
   | (with_reducible exact ih1 _ _ _)
   | (with_reducible exact ih2 _ _ _)
   | (with_reducible exact larchref16_node.mono _ _ _ _ _ _ _ _)
   | (with_reducible exact LeO.refl _)
   | (with_reducible exact LeO.none _)
   | (with_reducible refine LeO.ite ?_ ?_)
   | (with_reducible refine LeO.bind ?_ (fun _ => ?_))
   | exact ih0 _ _ _
   | exact ih1 _ _ _
   | exact ih2 _ _ _
   | exact larchref16_node.mono _ _ _ _ _ _ _ _
   | exact LeO.none _
   | refine LeO.ite ?_ ?_
   | refine LeO.bind ?_ (fun _ => ?_)
  ·intro y0 y1 y2
   unfold larchref16_Check.l2
   repeat' first
   | (with_reducible exact ih0 _ _ _)
   | (with_reducible exact ih1 _ _ _)
   | (with_reducible exact ih2 _ _ _)
   | (with_reducible exact larchref16_node.mono _ _ _ _ _ _ _ _)
   | (with_reducible exact LeO.refl _)
   | (with_reducible exact LeO.none _)
   | (with_reducible refine LeO.ite ?_ ?_)
   | (with_reducible refine LeO.bind ?_ (fun _ => ?_))
   | exact ih0 _ _ _
   | exact ih1 _ _ _
   | exact ih2 _ _ _
   | exact larchref16_node.mono _ _ _ _ _ _ _ _
   | exact LeO.none _
   | refine LeO.ite ?_ ?_
   | refine LeO.bind ?_ (fun _ => ?_)
theorem larchref16_Check.mono : ∀ a0 k, LeO (larchref16_Check.f k a0) (larchref16_Check.f (k + 1) a0) := by
 intro a0 k
 obtain ⟨ih0, ih1, ih2⟩ := larchref16_Check.mono_l k
 unfold larchref16_Check.f
 repeat' first
   | (with_reducible exact ih0 _ _ _)
   | (with_reducible exact ih1 _ _ _)
   | (with_reducible exact ih2 _ _ _)
   | (with_reducible exact larchref16_node.mono _ _ _ _ _ _ _ _)
   | (with_reducible exact LeO.refl _)
   | (with_reducible exact LeO.none _)
   | (with_reducible refine LeO.ite ?_ ?_)
   | (with_reducible refine LeO.bind ?_ (fun _ => ?_))
   | exact ih0 _ _ _
   | exact ih1 _ _ _
   | exact ih2 _ _ _
   | exact larchref16_node.mono _ _ _ _ _ _ _ _
   | exact LeO.none _
   | refine LeO.ite ?_ ?_
   | refine LeO.bind ?_ (fun _ => ?_)
theorem larchref16_Check.calls (k : Nat) (A0 : Option Addr) (c0 : Nat) (l0 : List (S34)) (r : Int) (w : World) (hr0 : Kd.C k34 w A0 l0.length l0) (hc0 : l0.length ≤ c0) (h : larchref16_Check.f k l0 = some r) :
  Calls Try.prog 46 #[.slice A0 l0.length c0] w (RB w (.int .i64 r)) := by
 have HR0 := Am hr0
 have HC0 := Am hc0
 clear hr0 hc0
 have HB := Am (Below.refl w.heap.size w)
 have H : (if (l0.length : Int) > 100000 then (some 2) else (if (l0.length : Int) = 0 then (some 3) else (if 0 ≤ (l0.length : Int) then (if ((l0.length : Int) : Int).toNat ≤ 35184372088832 then (larchref16_Check.l0 k l0 (List.replicate ((l0.length : Int) : Int).toNat 0) 0) else (none)) else (none)))) = some r := h
 clear h
 by_cases c2 : (l0.length : Int) > 100000
 ·rw [if_pos c2] at H
  have c2b0 : decide (100000 < (l0.length : Int)) = true := decide_eq_true c2
  have c2b1 : decide (100000 < l0.length) = true := decide_eq_true (by omega)
  clear c2
  obtain rfl := Option.some.inj H
  go_enter Try.func46, Try.ntmps46
  go_wp2
  go_ret
  exact ⟨er, bq⟩
 ·rw [if_neg c2] at H
  have c2b0 : decide (100000 < (l0.length : Int)) = false := decide_eq_false c2
  have c2b1 : decide (100000 < l0.length) = false := decide_eq_false (by omega)
  clear c2
  by_cases c3 : (l0.length : Int) = 0
  ·rw [if_pos c3] at H
   obtain ⟨c3b0, c3b1⟩ := eq2 c3
   clear c3
   obtain rfl := Option.some.inj H
   go_enter Try.func46, Try.ntmps46
   go_wp2
   go_ret
   exact ⟨er, bq⟩
  ·rw [if_neg c3] at H
   obtain ⟨c3b0, c3b1⟩ := ne2 c3
   have c3b2 : ¬ (l0 = []) := fun h_ => c3 (by rw [h_]; rfl)
   obtain ⟨c4, H⟩ := gd H
   have c4b0 := eq_true c4
   have c4b1 := decide_eq_true c4
   clear c4
   obtain ⟨c5, H⟩ := gd H
   have c5b0 := eq_true c5
   have c5b1 := decide_eq_true c5
   clear c5
   obtain ⟨y509, hy509⟩ : ∃ y_ : List Int, y_ = (List.replicate ((l0.length : Int) : Int).toNat 0) := ⟨_, rfl⟩
   replace H : (larchref16_Check.l0 k l0 y509 0) = some r := by first | (rw [hy509]; with_reducible exact H) | (have H2_ := (Option.bind_some _ _).symm.trans H; rw [hy509]; with_reducible exact H2_) | (have H2_ := (Option.bind_some _ _).symm.trans H; with_reducible exact H2_) | with_reducible exact H | (rw [hy509]; exact H) | exact H
   have Ny509 := Am hy509
   clear hy509
   have H' := Am H
   clear H
   go_enter Try.func46, Try.ntmps46
   go_wp2_with (first | ((with_reducible refine gs 17 rfl ?_); refine Kd.R_make (Kd.int .i64) _ 3 rfl (N := 17) rfl 31 _ _ rfl (l0.length : Int) rfl rfl Try.underlying31 (.int .i64 0) 8 info3 rfl (by decide) (by omega) 0 (ok := fun _ => True) (okp := fun _ => True) rfl (fun _ hk => hk) trivial (da) (Nat.le_trans (Nat.mul_le_mul_right _ (da : (l0.length : Int).toNat ≤ 35184372088832)) (by omega)) (Below.refl _ _) (Nat.le_refl _) ?_; intro v510 w6 ho7 hb hg_ hnew_; clear hg_ hnew_; (first | rw [← Ny509.out] at ho7 | (simp only [Int.reduceToNat] at ho7; rw [← Ny509.out] at ho7)); replace HO511 := Am (Kd.R_lower ho7 (below_size bq)); replace HB := Am (below_step bq hb); clear hb ho7))
   go_loopg [4] k (fun kq v4 w' => ∃ (x3_1 : List Int) (x4_1 : Int), v4 = .int .i64 x4_1 ∧ Aside0 (larchref16_Check.l0 kq l0 x3_1 x4_1 = some r) ∧ Aside0 (kq ≤ k) ∧ Aside0 (Kd.R (Kd.int .i64) 3 w' w.heap.size (fun _ => True) v510 x3_1) ∧ Aside0 (Below w.heap.size w w'))
   case atStart => exact ⟨(y509), (0), (by first | rfl | (simp; done) | (simp [*]; done)), H', ⟨Nat.le_refl _⟩, ⟨kr HO511.out⟩, ⟨bq⟩⟩
   case round =>
    clear H'
    clear c2b0 c2b1 c3 c3b0 c3b1 c3b2 c4b0 c4b1 c5b0 c5b1
    try clear p2
    obtain ⟨x3_1, x4_1, rfl, HA, HK1, HO_3, HB⟩ := hrel
    cases gk with
    | zero => exact absurd HA.out (by simp [larchref16_Check.l0])
    | succ k1 =>
     have H := HA.out
     clear HA
     simp only [larchref16_Check.l0] at H
     by_cases c8 : x4_1 < (l0.length : Int)
     ·rw [if_pos c8] at H
      have c8b0 := decide_eq_true c8
      clear c8
      obtain ⟨c9, H⟩ := gd H
      have c9b0 := decide_eq_true c9
      clear c9
      obtain ⟨t513, A10, H⟩ := bo H
      by_cases c11 : t513 = true
      ·subst c11
       rw [if_pos rfl] at H
       by_cases c12 : ((rd_T34 l0 x4_1).f4) = (-1)
       ·rw [if_pos c12] at H
        obtain ⟨c12b0, c12b1⟩ := eq2 c12
        clear c12
        have H' := Am H
        clear H
        obtain ⟨ad512, e512, hx512_0, hx512_1, hx512_2, hx512_3, hx512_4, hx512_5, p512, q512⟩ := t6d HB.out HR0.out x4_1
        cases e512
        go_wp2_with (first | ((with_reducible refine gc 75 rfl ?_); refine gL 30 Try.func75 #[.agg #[.int .i64 ((rd_T34 l0 x4_1).f0), .int .i64 ((rd_T34 l0 x4_1).f1), .int .i64 ((rd_T34 l0 x4_1).f2), .int .i64 ((rd_T34 l0 x4_1).f3), .int .i64 ((rd_T34 l0 x4_1).f4), .int .i64 ((rd_T34 l0 x4_1).f5)], .int .i64 (l0.length : Int)] ?_; (with_reducible refine (larchref16_node.calls k1 _ _ _ _ _ _ (l0.length : Int) true _ A10.out).mono ?_); rintro e w13 ⟨rfl, hb⟩; refine ⟨_, rfl, ?_⟩; replace HO_3 := Am (Kd.R_below (kr HO_3.out) hb); replace HB := Am (below_step bq hb); (try clear hb); obtain ⟨ad514, e514, hx514_0, hx514_1, hx514_2, hx514_3, hx514_4, hx514_5, p514, q514⟩ := t6d HB.out HR0.out x4_1; obtain rfl : ad512 = ad514 := (by injection e514)))
        go_roundg k1
        case measure => have := HK1.out; omega
        case rel => exact ⟨(x3_1), (wrap64 (x4_1 + 1)), (by first | rfl | (simp; done) | (simp [*]; done)), H', ⟨by have := HK1.out; omega⟩, ⟨kr HO_3.out⟩, ⟨bq⟩⟩
       ·rw [if_neg c12] at H
        obtain ⟨c12b0, c12b1⟩ := ne2 c12
        obtain ⟨c14, H⟩ := gd H
        have c14b0 := decide_eq_true c14
        clear c14
        obtain ⟨c15, H⟩ := gd H
        have c15b0 := decide_eq_true c15
        clear c15
        obtain ⟨y517, hy517⟩ : ∃ y_ : List Int, y_ = (x3_1.set (((rd_T34 l0 x4_1).f4) : Int).toNat (wrap64 ((rd x3_1 ((rd_T34 l0 x4_1).f4)) + 1))) := ⟨_, rfl⟩
        replace H : (if 0 ≤ ((rd_T34 l0 x4_1).f5) then (if ((rd_T34 l0 x4_1).f5) < (x3_1.length : Int) then (larchref16_Check.l0 k1 l0 (y517.set (((rd_T34 l0 x4_1).f5) : Int).toNat (wrap64 ((rd y517 ((rd_T34 l0 x4_1).f5)) + 1))) (wrap64 (x4_1 + 1))) else (none)) else (none)) = some r := by first | (rw [hy517]; with_reducible exact H) | (have H2_ := (Option.bind_some _ _).symm.trans H; rw [hy517]; with_reducible exact H2_) | (have H2_ := (Option.bind_some _ _).symm.trans H; with_reducible exact H2_) | with_reducible exact H | (rw [hy517]; exact H) | exact H
        have Ny517 := Am hy517
        clear hy517
        obtain ⟨c17, H⟩ := gd H
        have c17b0 := decide_eq_true c17
        clear c17
        obtain ⟨c18, H⟩ := gd H
        have c18b0 := decide_eq_true c18
        clear c18
        obtain ⟨y520, hy520⟩ : ∃ y_ : List Int, y_ = (y517.set (((rd_T34 l0 x4_1).f5) : Int).toNat (wrap64 ((rd y517 ((rd_T34 l0 x4_1).f5)) + 1))) := ⟨_, rfl⟩
        replace H : (larchref16_Check.l0 k1 l0 y520 (wrap64 (x4_1 + 1))) = some r := by first | (rw [hy520]; with_reducible exact H) | (have H2_ := (Option.bind_some _ _).symm.trans H; rw [hy520]; with_reducible exact H2_) | (have H2_ := (Option.bind_some _ _).symm.trans H; with_reducible exact H2_) | with_reducible exact H | (rw [hy520]; exact H) | exact H
        have Ny520 := Am hy520
        clear hy520
        have H' := Am H
        clear H
        obtain ⟨ad512, e512, hx512_0, hx512_1, hx512_2, hx512_3, hx512_4, hx512_5, p512, q512⟩ := t6d HB.out HR0.out x4_1
        cases e512
        go_wp2_with (first | ((with_reducible refine gc 75 rfl ?_); refine gL 30 Try.func75 #[.agg #[.int .i64 ((rd_T34 l0 x4_1).f0), .int .i64 ((rd_T34 l0 x4_1).f1), .int .i64 ((rd_T34 l0 x4_1).f2), .int .i64 ((rd_T34 l0 x4_1).f3), .int .i64 ((rd_T34 l0 x4_1).f4), .int .i64 ((rd_T34 l0 x4_1).f5)], .int .i64 (l0.length : Int)] ?_; (with_reducible refine (larchref16_node.calls k1 _ _ _ _ _ _ (l0.length : Int) true _ A10.out).mono ?_); rintro e w20 ⟨rfl, hb⟩; refine ⟨_, rfl, ?_⟩; replace HO_3 := Am (Kd.R_below (kr HO_3.out) hb); replace HB := Am (below_step bq hb); (try clear hb); obtain ⟨ad514, e514, hx514_0, hx514_1, hx514_2, hx514_3, hx514_4, hx514_5, p514, q514⟩ := t6d HB.out HR0.out x4_1; obtain rfl : ad512 = ad514 := (by injection e514); obtain ⟨ad515, e515, hx515_0, hx515_1, hx515_2, hx515_3, hx515_4, hx515_5, p515, q515⟩ := t6d HB.out HR0.out x4_1; obtain rfl : ad512 = ad515 := (by injection e515); obtain ⟨Ao21, co21, eo21⟩ := Kd.R_slice HO_3.out; subst eo21; have p516 : 0 ≤ (((rd_T34 l0 x4_1).f4) : Int) := da; have q516 : ((rd_T34 l0 x4_1).f4) < (x3_1.length : Int) := da; obtain ⟨ad516, e516, hx516_0⟩ := Kd.at_int (Kd.R_reads' HO_3.out).2.2 ((rd_T34 l0 x4_1).f4) p516 q516; cases e516; replace p516 := eq_true p516; replace q516 := eq_true q516; have p16 : 0 ≤ (((rd_T34 l0 x4_1).f4) : Int) := da; have q16 : (((rd_T34 l0 x4_1).f4) : Int) < ((x3_1.length : Int) : Int) := da; obtain ⟨go16, co16, eo16, gb16, gl16, cl16, HG16⟩ := Kd.R_form HO_3.out (by omega); (first | cases eo16 | (injection eo16 with ea_ en_ ec_; (first | subst ea_ | (injection ea_ with ea_; subst ea_)); subst ec_; clear en_)); have GB16 := Am gb16; have GG16 := Am HG16; clear gb16 gl16 HG16; (first | simp only [add_plain] at hx516_0 | skip); obtain ⟨hx16_0, hf16_0⟩ := Kd.R_celln 0 HO_3.out (((rd_T34 l0 x4_1).f4) : Int) p16 q16; replace p16 := eq_true p16; replace q16 := eq_true q16; obtain ⟨hy22_, hz22_⟩ := Kd.R_celln 0 HO_3.out (((rd_T34 l0 x4_1).f4) : Int) (da) (da); have HP22 := Kd.R_putg HO_3.out (((rd_T34 l0 x4_1).f4) : Int) (wrap64 ((rd x3_1 ((rd_T34 l0 x4_1).f4)) + 1))) | ((with_reducible refine gate_store (t := 3) (p := 47) rfl ?_); refine store_event (t := 3) (p := 47) (v := ?vo_w23) (w1 := (w20.setCell ⟨go16, (((rd_T34 l0 x4_1).f4) : Int).toNat, none⟩ (.int .i64 (wrap64 ((rd x3_1 ((rd_T34 l0 x4_1).f4)) + 1))))) ?hg ?ho ?hn ?hr ?_; (case ho => rfl); (case hg => rfl); (case hn => rfl); (case hr => first | (go_simp; done) | (go_simp; rfl)); intro w23 hw; have hg : w20.grownBy w23 (some go16) := (by rw [hw]; exact HP22.2); have hp_ : Kd.R (Kd.int .i64) 3 w23 w.heap.size (fun _ => True) (.slice (some ⟨go16, 0, none⟩) x3_1.length co21) y517 := (by rw [hw, Ny517.out]; exact HP22.1); clear HP22; have n0_ := Am (hp_); have n1_ := Am ((by rw [hw]; exact below_set (HB.out) GB16.out : Below w.heap.size w w23)); clear HO_3; clear HB; have HO_3 := n0_; have HB := n1_; clear n0_ n1_; clear hg hw hp_; obtain ⟨ad518, e518, hx518_0, hx518_1, hx518_2, hx518_3, hx518_4, hx518_5, p518, q518⟩ := t6d HB.out HR0.out x4_1; obtain rfl : ad512 = ad518 := (by injection e518); have p519 : 0 ≤ (((rd_T34 l0 x4_1).f5) : Int) := da; have q519 : ((rd_T34 l0 x4_1).f5) < (y517.length : Int) := (by have h_ : (((rd_T34 l0 x4_1).f5) : Int) < ((x3_1.length : Int) : Int) := da; first | (have e_ := (Kd.R_reads' HO_3.out).1; omega) | simpa only [Ny517.out, List.length_set] using h_); have ql519 : ((((rd_T34 l0 x4_1).f5) : Int) < ((x3_1.length : Int) : Int)) = True := eq_true (da); obtain ⟨ad519, e519, hx519_0⟩ := Kd.at_int (Kd.R_reads' HO_3.out).2.2 ((rd_T34 l0 x4_1).f5) p519 q519; obtain rfl : (⟨go16, 0, none⟩ : Addr) = ad519 := (by injection e519); (first | simp only [add_plain] at hx519_0 | simp only [add_at] at hx519_0 | simp only [Addr.add, Nat.zero_add] at hx519_0 | skip); replace p519 := eq_true p519; replace q519 := eq_true q519; have p19 : 0 ≤ (((rd_T34 l0 x4_1).f5) : Int) := da; have q19 : (((rd_T34 l0 x4_1).f5) : Int) < ((x3_1.length : Int) : Int) := da; obtain ⟨hx19_0, hf19_0⟩ := Kd.R_celln 0 HO_3.out (((rd_T34 l0 x4_1).f5) : Int) p19 q19; replace p19 := eq_true p19; replace q19 := eq_true q19; obtain ⟨hy24_, hz24_⟩ := Kd.R_celln 0 HO_3.out (((rd_T34 l0 x4_1).f5) : Int) (da) (da); have HP24 := Kd.R_putg HO_3.out (((rd_T34 l0 x4_1).f5) : Int) (wrap64 ((rd y517 ((rd_T34 l0 x4_1).f5)) + 1))) | ((with_reducible refine gate_store (t := 3) (p := 57) rfl ?_); refine store_event (t := 3) (p := 57) (v := ?vo_w25) (w1 := (w23.setCell ⟨go16, (((rd_T34 l0 x4_1).f5) : Int).toNat, none⟩ (.int .i64 (wrap64 ((rd y517 ((rd_T34 l0 x4_1).f5)) + 1))))) ?hg ?ho ?hn ?hr ?_; (case ho => rfl); (case hg => rfl); (case hn => rfl); (case hr => first | (go_simp; done) | (go_simp; rfl)); intro w25 hw; have hg : w23.grownBy w25 (some go16) := (by rw [hw]; exact HP24.2); have hp_ : Kd.R (Kd.int .i64) 3 w25 w.heap.size (fun _ => True) (.slice (some ⟨go16, 0, none⟩) x3_1.length co21) y520 := (by rw [hw, Ny520.out]; exact HP24.1); clear HP24; have n0_ := Am (hp_); have n1_ := Am ((by rw [hw]; exact below_set (HB.out) GB16.out : Below w.heap.size w w25)); clear HO_3; clear HB; have HO_3 := n0_; have HB := n1_; clear n0_ n1_; clear hg hw hp_))
        go_roundg k1
        case measure => have := HK1.out; omega
        case rel => exact ⟨(y520), (wrap64 (x4_1 + 1)), (by first | rfl | (simp; done) | (simp [*]; done)), H', ⟨by have := HK1.out; omega⟩, ⟨kr HO_3.out⟩, ⟨bq⟩⟩
      ·replace c11 := Bool.eq_false_iff.mpr c11
       subst c11
       rw [if_neg nf] at H
       obtain rfl := Option.some.inj H
       obtain ⟨ad512, e512, hx512_0, hx512_1, hx512_2, hx512_3, hx512_4, hx512_5, p512, q512⟩ := t6d HB.out HR0.out x4_1
       cases e512
       go_wp2_with (first | ((with_reducible refine gc 75 rfl ?_); refine gL 30 Try.func75 #[.agg #[.int .i64 ((rd_T34 l0 x4_1).f0), .int .i64 ((rd_T34 l0 x4_1).f1), .int .i64 ((rd_T34 l0 x4_1).f2), .int .i64 ((rd_T34 l0 x4_1).f3), .int .i64 ((rd_T34 l0 x4_1).f4), .int .i64 ((rd_T34 l0 x4_1).f5)], .int .i64 (l0.length : Int)] ?_; (with_reducible refine (larchref16_node.calls k1 _ _ _ _ _ _ (l0.length : Int) false _ A10.out).mono ?_); rintro e w26 ⟨rfl, hb⟩; refine ⟨_, rfl, ?_⟩; replace HO_3 := Am (Kd.R_below (kr HO_3.out) hb); replace HB := Am (below_step bq hb); (try clear hb)))
       go_ret
       exact ⟨er, bq⟩
     ·rw [if_neg c8] at H
      have c8b0 := decide_eq_false c8
      clear c8
      have H' := Am H
      clear H
      go_wp2
      go_loopg [5] k1 (fun kq v5 w' => ∃ (x5_2 : Int), v5 = .int .i64 x5_2 ∧ Aside0 (larchref16_Check.l1 kq l0 x3_1 x5_2 = some r) ∧ Aside0 (kq ≤ k1) ∧ Aside0 (Kd.R (Kd.int .i64) 3 w' w.heap.size (fun _ => True) v510 x3_1) ∧ Aside0 (Below w.heap.size w w'))
      case atStart => exact ⟨(1), (by first | rfl | (simp; done) | (simp [*]; done)), H', ⟨Nat.le_refl _⟩, ⟨kr HO_3.out⟩, ⟨bq⟩⟩
      case round =>
       clear H'
       clear c8b0
       try clear c1
       try clear p1
       try clear q1
       try clear hx1
       try clear hf1
       try clear p5
       try clear q5
       try clear hx5
       try clear p6
       try clear c7
       try clear c9
       try clear c9b0
       try clear c11
       try clear c12
       try clear c12b0
       try clear c12b1
       try clear c14
       try clear c14b0
       try clear c15
       try clear c15b0
       try clear p16
       try clear q16
       try clear hx16
       try clear hf16
       try clear c17
       try clear c17b0
       try clear c18
       try clear c18b0
       try clear p19
       try clear q19
       try clear hx19
       try clear hf19
       try clear hx16_0
       try clear hx19_0
       try clear hx512_0
       try clear hx512_1
       try clear hx512_2
       try clear hx512_3
       try clear hx512_4
       try clear hx512_5
       try clear hx514_0
       try clear hx514_1
       try clear hx514_2
       try clear hx514_3
       try clear hx514_4
       try clear hx514_5
       try clear hx515_0
       try clear hx515_1
       try clear hx515_2
       try clear hx515_3
       try clear hx515_4
       try clear hx515_5
       try clear hx516_0
       try clear hx518_0
       try clear hx518_1
       try clear hx518_2
       try clear hx518_3
       try clear hx518_4
       try clear hx518_5
       try clear hx519_0
       try clear p16
       try clear p19
       try clear p512
       try clear p514
       try clear p515
       try clear p516
       try clear p518
       try clear p519
       try clear q16
       try clear q19
       try clear q512
       try clear q514
       try clear q515
       try clear q516
       try clear q518
       try clear q519
       obtain ⟨x5_2, rfl, HA, HK2, HO_3, HB⟩ := hrel
       cases gk with
       | zero => exact absurd HA.out (by simp [larchref16_Check.l1])
       | succ k2 =>
        have H := HA.out
        clear HA
        simp only [larchref16_Check.l1] at H
        by_cases c27 : x5_2 < (l0.length : Int)
        ·rw [if_pos c27] at H
         have c27b0 := decide_eq_true c27
         clear c27
         obtain ⟨c28, H⟩ := gd H
         have c28b0 := decide_eq_true c28
         clear c28
         obtain ⟨c29, H⟩ := gd H
         have c29b0 := decide_eq_true c29
         clear c29
         by_cases c30 : (rd x3_1 x5_2) = 1
         ·rw [if_pos c30] at H
          obtain ⟨c30b0, c30b1⟩ := eq2 c30
          clear c30
          have H' := Am H
          clear H
          obtain ⟨Ao31, co31, eo31⟩ := Kd.R_slice HO_3.out
          subst eo31
          have p521 : 0 ≤ (x5_2 : Int) := da
          have q521 : x5_2 < (x3_1.length : Int) := da
          obtain ⟨ad521, e521, hx521_0⟩ := Kd.at_int (Kd.R_reads' HO_3.out).2.2 x5_2 p521 q521
          cases e521
          replace p521 := eq_true p521
          replace q521 := eq_true q521
          go_wp2
          go_roundg k2
          case measure => have := HK1.out; have := HK2.out; omega
          case rel => exact ⟨(wrap64 (x5_2 + 1)), (by first | rfl | (simp; done) | (simp [*]; done)), H', ⟨by have := HK1.out; have := HK2.out; omega⟩, ⟨kr HO_3.out⟩, ⟨bq⟩⟩
         ·rw [if_neg c30] at H
          obtain ⟨c30b0, c30b1⟩ := ne2 c30
          obtain rfl := Option.some.inj H
          obtain ⟨Ao32, co32, eo32⟩ := Kd.R_slice HO_3.out
          subst eo32
          have p521 : 0 ≤ (x5_2 : Int) := da
          have q521 : x5_2 < (x3_1.length : Int) := da
          obtain ⟨ad521, e521, hx521_0⟩ := Kd.at_int (Kd.R_reads' HO_3.out).2.2 x5_2 p521 q521
          cases e521
          replace p521 := eq_true p521
          replace q521 := eq_true q521
          go_wp2
          go_ret
          exact ⟨er, bq⟩
        ·rw [if_neg c27] at H
         have c27b0 := decide_eq_false c27
         clear c27
         obtain ⟨y522, hy522⟩ : ∃ y_ : List Int, y_ = (([0] : List Int)) := ⟨_, rfl⟩
         replace H : (larchref16_Check.l2 k2 l0 0 y522) = some r := by first | (rw [hy522]; with_reducible exact H) | (have H2_ := (Option.bind_some _ _).symm.trans H; rw [hy522]; with_reducible exact H2_) | (have H2_ := (Option.bind_some _ _).symm.trans H; with_reducible exact H2_) | with_reducible exact H | (rw [hy522]; exact H) | exact H
         have Ny522 := Am hy522
         clear hy522
         have H' := Am H
         clear H
         go_wp2_with (first | ((with_reducible refine gs 69 rfl ?_); refine Kd.R_lit (Kd.int .i64) _ 3 ?hg (N := 69) ?hd (xs := ([0] : List Int)) (inner := [.int .i64 0]) (ok := fun _ => True) (okp := fun _ => True) ?hr ?hp (fun _ hk => hk) trivial (Below.refl _ _) (Nat.le_refl _) (by simp) ?_; (case hd => rfl); (case hg => rfl); (case hr => first | (go_simp; done) | (go_simp; rfl)); (case hp => exact (Reps.one (show Kd.M (Kd.int .i64) _ _ _ 0 [.int .i64 0] from rfl) (Reps.none _ _))); intro v523 w33 ho34 hb hg_ hnew_; clear hg_ hnew_; (first | rw [← Ny522.out] at ho34 | (simp only [Int.reduceToNat] at ho34; rw [← Ny522.out] at ho34)); have n0_ := Am (Kd.R_elder' (kr HO_3.out) (Kd.R_base ho34) hb); have n1_ := Am (Kd.R_lower (Kd.R_new' ho34 (Kd.R_lt (kr HO_3.out))) (below_size bq)); have n2_ := Am (below_step bq hb); clear HO_3; clear HB; have HO_3 := n0_; have HO524 := n1_; have HB := n2_; clear n0_ n1_ n2_; clear hb ho34))
         go_loopg [6, 7] k2 (fun kq v6 v7 w' => ∃ (x6_3 : Int) (x7_3 : List Int), v6 = .int .i64 x6_3 ∧ Aside0 (larchref16_Check.l2 kq l0 x6_3 x7_3 = some r) ∧ Aside0 (kq ≤ k2) ∧ Aside0 (Kd.R (Kd.int .i64) 3 w' w.heap.size (fun _ => True) v7 x7_3) ∧ Aside0 (Below w.heap.size w w'))
         case atStart => exact ⟨(0), (y522), (by first | rfl | (simp; done) | (simp [*]; done)), H', ⟨Nat.le_refl _⟩, ⟨by (with_reducible repeat (first | apply Kd.R_alloc | apply Kd.R_drewN | apply Kd.R_drew)); exact Kd.R_mono HO524.out (fun _ hk => trivial)⟩, ⟨bq⟩⟩
         case round =>
          clear H'
          clear c27b0
          try clear hx1
          try clear hf1
          try clear hx5
          try clear hx16
          try clear hf16
          try clear hx19
          try clear hf19
          try clear c28
          try clear c28b0
          try clear c29
          try clear c29b0
          try clear c30
          try clear c30b0
          try clear c30b1
          try clear hx521_0
          try clear p521
          try clear q521
          obtain ⟨x6_3, x7_3, rfl, HA, HK3, HO_7, HB⟩ := hrel
          cases gk with
          | zero => exact absurd HA.out (by simp [larchref16_Check.l2])
          | succ k3 =>
           have H := HA.out
           clear HA
           simp only [larchref16_Check.l2] at H
           by_cases c35 : (x7_3.length : Int) > 0
           ·rw [if_pos c35] at H
            have c35b0 : decide (0 < (x7_3.length : Int)) = true := decide_eq_true c35
            have c35b1 : decide (0 < x7_3.length) = true := decide_eq_true (by omega)
            clear c35
            obtain ⟨ji36, hji36⟩ : ∃ j_ : Int, (wrap64 ((x7_3.length : Int) - 1)) = j_ := ⟨_, rfl⟩
            replace H : (if 0 ≤ (ji36) then (if (ji36) < (x7_3.length : Int) then (if 0 ≤ (rd x7_3 (ji36)) then (if (rd x7_3 (ji36)) < (l0.length : Int) then (if (ji36) ≤ (x7_3.length : Int) then ((some (x7_3.take ((ji36) : Int).toNat : List Int)).bind fun y528 => (if ((rd_T34 l0 (rd x7_3 (ji36))).f4) = (-1) then (larchref16_Check.l2 k3 l0 (wrap64 (x6_3 + 1)) y528) else ((some (([(rd_T34 l0 (rd x7_3 (ji36))).f4, (rd_T34 l0 (rd x7_3 (ji36))).f5] : List Int) : List Int)).bind fun y531 => (if y528.length + y531.length < 17592186044416 then (larchref16_Check.l2 k3 l0 (wrap64 (x6_3 + 1)) (y528 ++ y531)) else (none))))) else (none)) else (none)) else (none)) else (none)) else (none)) = some r := by first | (rw [hji36] at H; exact H) | (simp only [hji36] at H ⊢; exact H)
            have hji36w : (IntKind.i64.wrap ((x7_3.length : Int) - 1)) = ji36 := (i64_w _).trans hji36
            obtain ⟨c37, H⟩ := gd H
            have c37b0 := decide_eq_true c37
            clear c37
            obtain ⟨c38, H⟩ := gd H
            have c38b0 := decide_eq_true c38
            clear c38
            obtain ⟨c39, H⟩ := gd H
            have c39b0 := decide_eq_true c39
            clear c39
            obtain ⟨c40, H⟩ := gd H
            have c40b0 := decide_eq_true c40
            clear c40
            obtain ⟨c41, H⟩ := gd H
            have c41b0 := eq_true c41
            have c41b1 := decide_eq_true c41
            clear c41
            obtain ⟨y528, hy528⟩ : ∃ y_ : List Int, y_ = (x7_3.take ((ji36) : Int).toNat) := ⟨_, rfl⟩
            replace H : (if ((rd_T34 l0 (rd x7_3 (ji36))).f4) = (-1) then (larchref16_Check.l2 k3 l0 (wrap64 (x6_3 + 1)) y528) else ((some (([(rd_T34 l0 (rd x7_3 (ji36))).f4, (rd_T34 l0 (rd x7_3 (ji36))).f5] : List Int) : List Int)).bind fun y531 => (if y528.length + y531.length < 17592186044416 then (larchref16_Check.l2 k3 l0 (wrap64 (x6_3 + 1)) (y528 ++ y531)) else (none)))) = some r := by first | (rw [hy528]; with_reducible exact H) | (have H2_ := (Option.bind_some _ _).symm.trans H; rw [hy528]; with_reducible exact H2_) | (have H2_ := (Option.bind_some _ _).symm.trans H; with_reducible exact H2_) | with_reducible exact H | (rw [hy528]; exact H) | exact H
            have Ny528 := Am hy528
            clear hy528
            by_cases c42 : ((rd_T34 l0 (rd x7_3 (ji36))).f4) = (-1)
            ·rw [if_pos c42] at H
             obtain ⟨c42b0, c42b1⟩ := eq2 c42
             clear c42
             have H' := Am H
             clear H
             obtain ⟨Ao43, co43, eo43⟩ := Kd.R_slice HO_7.out
             subst eo43
             have p525 : 0 ≤ ((ji36) : Int) := da
             have q525 : (ji36) < (x7_3.length : Int) := da
             obtain ⟨ad525, e525, hx525_0⟩ := Kd.at_int (Kd.R_reads' HO_7.out).2.2 (ji36) p525 q525
             cases e525
             replace p525 := eq_true p525
             replace q525 := eq_true q525
             obtain ⟨ad526, e526, hx526_0, hx526_1, hx526_2, hx526_3, hx526_4, hx526_5, p526, q526⟩ := t6d HB.out HR0.out (rd x7_3 (ji36))
             cases e526
             go_wp2_with (first | ((with_reducible refine gs 8 rfl ?_); refine box_event ?hg (N := 8) ?hd (cs := #[.int .i64 0, .int .i64 0, .int .i64 0, .int .i64 0, .int .i64 0, .int .i64 0]) (t := 34) ?hr ?_; (case hd => rfl); (case hg => rfl); (case hr => first | (go_simp; done) | (go_simp; rfl)); intro gb527 hg w44 hbox hb; have n0_ := Am (Kd.R_below (kr HO_7.out) hb); have n1_ := Am (below_step bq hb); have n2_ := Am (hbox); have n3_ := Am ((bz hg : w.heap.size ≤ gb527)); have n4_ := Am ((bz hg : w.heap.size ≤ gb527)); clear HO_7; clear HB; have HO_7 := n0_; have HB := n1_; have BK527 := n2_; have GW527 := n3_; have GE527 := n4_; clear n0_ n1_ n2_ n3_ n4_; clear hb hbox hg; obtain ⟨z45_0, z45_1, z45_2, z45_3, z45_4, z45_5, f45_0, f45_1, f45_2, f45_3, f45_4, f45_5⟩ := cf6 BK527.out) | ((with_reducible refine gate_store (t := 34) (p := 8) rfl ?_); refine store_event (t := 34) (p := 8) (v := ?vo_w46) (w1 := ((((((w44.setCell ⟨gb527, 0, none⟩ (.int .i64 ((rd_T34 l0 (rd x7_3 (ji36))).f0))).setCell ⟨gb527, 1, none⟩ (.int .i64 ((rd_T34 l0 (rd x7_3 (ji36))).f1))).setCell ⟨gb527, 2, none⟩ (.int .i64 ((rd_T34 l0 (rd x7_3 (ji36))).f2))).setCell ⟨gb527, 3, none⟩ (.int .i64 ((rd_T34 l0 (rd x7_3 (ji36))).f3))).setCell ⟨gb527, 4, none⟩ (.int .i64 ((rd_T34 l0 (rd x7_3 (ji36))).f4))).setCell ⟨gb527, 5, none⟩ (.int .i64 ((rd_T34 l0 (rd x7_3 (ji36))).f5)))) ?hg ?ho ?hn ?hr ?_; (case ho => rfl); (case hg => rfl); (case hn => rfl); (case hr => first | (go_simp; done) | (go_simp; rfl)); intro w46 hw; have n0_ : Aside0 (Kd.R (Kd.int .i64) 3 w46 w.heap.size (fun _ => True) (.slice (some ad525) x7_3.length co43) x7_3) := ⟨(by rw [hw]; exact (by (with_reducible repeat (first | apply Kd.R_alloc | apply Kd.R_drewN | apply Kd.R_drew)); exact Kd.R_mono (Kd.R_far (p := ⟨gb527, 5, none⟩) (Kd.R_far (p := ⟨gb527, 4, none⟩) (Kd.R_far (p := ⟨gb527, 3, none⟩) (Kd.R_far (p := ⟨gb527, 2, none⟩) (Kd.R_far (p := ⟨gb527, 1, none⟩) (Kd.R_far (p := ⟨gb527, 0, none⟩) (Kd.R_types HO_7.out BK527.out (by decide)) (fun _ hk => hk.2) (.int .i64 ((rd_T34 l0 (rd x7_3 (ji36))).f0))) (fun _ hk => hk.2) (.int .i64 ((rd_T34 l0 (rd x7_3 (ji36))).f1))) (fun _ hk => hk.2) (.int .i64 ((rd_T34 l0 (rd x7_3 (ji36))).f2))) (fun _ hk => hk.2) (.int .i64 ((rd_T34 l0 (rd x7_3 (ji36))).f3))) (fun _ hk => hk.2) (.int .i64 ((rd_T34 l0 (rd x7_3 (ji36))).f4))) (fun _ hk => hk.2) (.int .i64 ((rd_T34 l0 (rd x7_3 (ji36))).f5))) (fun _ hk => trivial)))⟩; have n1_ : Aside0 (w46.heap[gb527]? = some (.cells #[.int .i64 ((rd_T34 l0 (rd x7_3 (ji36))).f0), .int .i64 ((rd_T34 l0 (rd x7_3 (ji36))).f1), .int .i64 ((rd_T34 l0 (rd x7_3 (ji36))).f2), .int .i64 ((rd_T34 l0 (rd x7_3 (ji36))).f3), .int .i64 ((rd_T34 l0 (rd x7_3 (ji36))).f4), .int .i64 ((rd_T34 l0 (rd x7_3 (ji36))).f5)] 34 (0, 0))) := ⟨(by rw [hw]; exact (bp6 BK527.out))⟩; have n2_ : Aside0 (Below w.heap.size w w46) := ⟨(by rw [hw]; exact bs)⟩; clear hw; clear HO_7; clear BK527; clear HB; have HO_7 := n0_; have BK527 := n1_; have HB := n2_; clear n0_ n1_ n2_; have q47 : ((ji36) : Int) ≤ ((x7_3.length : Int) : Int) := da; obtain ⟨i047, hi047, _, hsz47, _⟩ := info_parts info3; have hcut47 := cut_to (P := Try.prog) 31 3 .i64 Try.underlying31 hi047 (some ad525) x7_3.length co43 (ji36) (da) q47 (Kd.R_reads' HO_7.out).2.1; have hr47 := Kd.R_take (m := ((ji36) : Int).toNat) HO_7.out (by omega); have hy47 : y528.length = ((ji36) : Int).toNat := (by rw [Ny528.out, List.length_take]; omega); rw [← Ny528.out] at hr47; rw [← hy47] at hr47 hcut47; clear hy47 hi047 hsz47 HO_7; have HO530 := Am hr47; clear hr47; replace q47 := eq_true q47; obtain ⟨z48_0, z48_1, z48_2, z48_3, z48_4, z48_5, f48_0, f48_1, f48_2, f48_3, f48_4, f48_5⟩ := cf6 BK527.out))
             go_roundg k3
             case measure => have := HK1.out; have := HK2.out; have := HK3.out; omega
             case rel => exact ⟨(wrap64 (x6_3 + 1)), (y528), (by first | rfl | (simp; done) | (simp [*]; done)), H', ⟨by have := HK1.out; have := HK2.out; have := HK3.out; omega⟩, ⟨kr HO530.out⟩, ⟨bs⟩⟩
            ·rw [if_neg c42] at H
             obtain ⟨c42b0, c42b1⟩ := ne2 c42
             obtain ⟨y531, hy531⟩ : ∃ y_ : List Int, y_ = (([(rd_T34 l0 (rd x7_3 (ji36))).f4, (rd_T34 l0 (rd x7_3 (ji36))).f5] : List Int)) := ⟨_, rfl⟩
             replace H : (if y528.length + y531.length < 17592186044416 then (larchref16_Check.l2 k3 l0 (wrap64 (x6_3 + 1)) (y528 ++ y531)) else (none)) = some r := by first | (rw [hy531]; with_reducible exact H) | (have H2_ := (Option.bind_some _ _).symm.trans H; rw [hy531]; with_reducible exact H2_) | (have H2_ := (Option.bind_some _ _).symm.trans H; with_reducible exact H2_) | with_reducible exact H | (rw [hy531]; exact H) | exact H
             have Ny531 := Am hy531
             clear hy531
             obtain ⟨c49, H⟩ := gd H
             have LMc49 := Am c49
             clear c49
             obtain ⟨y534, hy534⟩ : ∃ y_ : List Int, y_ = (y528 ++ y531) := ⟨_, rfl⟩
             replace H : (larchref16_Check.l2 k3 l0 (wrap64 (x6_3 + 1)) y534) = some r := by first | (rw [hy534]; with_reducible exact H) | (have H2_ := (Option.bind_some _ _).symm.trans H; rw [hy534]; with_reducible exact H2_) | (have H2_ := (Option.bind_some _ _).symm.trans H; with_reducible exact H2_) | with_reducible exact H | (rw [hy534]; exact H) | exact H
             have Ny534 := Am hy534
             clear hy534
             have H' := Am H
             clear H
             obtain ⟨Ao50, co50, eo50⟩ := Kd.R_slice HO_7.out
             subst eo50
             have p525 : 0 ≤ ((ji36) : Int) := da
             have q525 : (ji36) < (x7_3.length : Int) := da
             obtain ⟨ad525, e525, hx525_0⟩ := Kd.at_int (Kd.R_reads' HO_7.out).2.2 (ji36) p525 q525
             cases e525
             replace p525 := eq_true p525
             replace q525 := eq_true q525
             obtain ⟨ad526, e526, hx526_0, hx526_1, hx526_2, hx526_3, hx526_4, hx526_5, p526, q526⟩ := t6d HB.out HR0.out (rd x7_3 (ji36))
             cases e526
             go_wp2_with (first | ((with_reducible refine gs 8 rfl ?_); refine box_event ?hg (N := 8) ?hd (cs := #[.int .i64 0, .int .i64 0, .int .i64 0, .int .i64 0, .int .i64 0, .int .i64 0]) (t := 34) ?hr ?_; (case hd => rfl); (case hg => rfl); (case hr => first | (go_simp; done) | (go_simp; rfl)); intro gb527 hg w51 hbox hb; have n0_ := Am (Kd.R_below (kr HO_7.out) hb); have n1_ := Am (below_step bq hb); have n2_ := Am (hbox); have n3_ := Am ((bz hg : w.heap.size ≤ gb527)); have n4_ := Am ((bz hg : w.heap.size ≤ gb527)); clear HO_7; clear HB; have HO_7 := n0_; have HB := n1_; have BK527 := n2_; have GW527 := n3_; have GE527 := n4_; clear n0_ n1_ n2_ n3_ n4_; clear hb hbox hg; obtain ⟨z52_0, z52_1, z52_2, z52_3, z52_4, z52_5, f52_0, f52_1, f52_2, f52_3, f52_4, f52_5⟩ := cf6 BK527.out) | ((with_reducible refine gate_store (t := 34) (p := 8) rfl ?_); refine store_event (t := 34) (p := 8) (v := ?vo_w53) (w1 := ((((((w51.setCell ⟨gb527, 0, none⟩ (.int .i64 ((rd_T34 l0 (rd x7_3 (ji36))).f0))).setCell ⟨gb527, 1, none⟩ (.int .i64 ((rd_T34 l0 (rd x7_3 (ji36))).f1))).setCell ⟨gb527, 2, none⟩ (.int .i64 ((rd_T34 l0 (rd x7_3 (ji36))).f2))).setCell ⟨gb527, 3, none⟩ (.int .i64 ((rd_T34 l0 (rd x7_3 (ji36))).f3))).setCell ⟨gb527, 4, none⟩ (.int .i64 ((rd_T34 l0 (rd x7_3 (ji36))).f4))).setCell ⟨gb527, 5, none⟩ (.int .i64 ((rd_T34 l0 (rd x7_3 (ji36))).f5)))) ?hg ?ho ?hn ?hr ?_; (case ho => rfl); (case hg => rfl); (case hn => rfl); (case hr => first | (go_simp; done) | (go_simp; rfl)); intro w53 hw; have n0_ : Aside0 (Kd.R (Kd.int .i64) 3 w53 w.heap.size (fun _ => True) (.slice (some ad525) x7_3.length co50) x7_3) := ⟨(by rw [hw]; exact (by (with_reducible repeat (first | apply Kd.R_alloc | apply Kd.R_drewN | apply Kd.R_drew)); exact Kd.R_mono (Kd.R_far (p := ⟨gb527, 5, none⟩) (Kd.R_far (p := ⟨gb527, 4, none⟩) (Kd.R_far (p := ⟨gb527, 3, none⟩) (Kd.R_far (p := ⟨gb527, 2, none⟩) (Kd.R_far (p := ⟨gb527, 1, none⟩) (Kd.R_far (p := ⟨gb527, 0, none⟩) (Kd.R_types HO_7.out BK527.out (by decide)) (fun _ hk => hk.2) (.int .i64 ((rd_T34 l0 (rd x7_3 (ji36))).f0))) (fun _ hk => hk.2) (.int .i64 ((rd_T34 l0 (rd x7_3 (ji36))).f1))) (fun _ hk => hk.2) (.int .i64 ((rd_T34 l0 (rd x7_3 (ji36))).f2))) (fun _ hk => hk.2) (.int .i64 ((rd_T34 l0 (rd x7_3 (ji36))).f3))) (fun _ hk => hk.2) (.int .i64 ((rd_T34 l0 (rd x7_3 (ji36))).f4))) (fun _ hk => hk.2) (.int .i64 ((rd_T34 l0 (rd x7_3 (ji36))).f5))) (fun _ hk => trivial)))⟩; have n1_ : Aside0 (w53.heap[gb527]? = some (.cells #[.int .i64 ((rd_T34 l0 (rd x7_3 (ji36))).f0), .int .i64 ((rd_T34 l0 (rd x7_3 (ji36))).f1), .int .i64 ((rd_T34 l0 (rd x7_3 (ji36))).f2), .int .i64 ((rd_T34 l0 (rd x7_3 (ji36))).f3), .int .i64 ((rd_T34 l0 (rd x7_3 (ji36))).f4), .int .i64 ((rd_T34 l0 (rd x7_3 (ji36))).f5)] 34 (0, 0))) := ⟨(by rw [hw]; exact (bp6 BK527.out))⟩; have n2_ : Aside0 (Below w.heap.size w w53) := ⟨(by rw [hw]; exact bs)⟩; clear hw; clear HO_7; clear BK527; clear HB; have HO_7 := n0_; have BK527 := n1_; have HB := n2_; clear n0_ n1_ n2_; have q54 : ((ji36) : Int) ≤ ((x7_3.length : Int) : Int) := da; obtain ⟨i054, hi054, _, hsz54, _⟩ := info_parts info3; have hcut54 := cut_to (P := Try.prog) 31 3 .i64 Try.underlying31 hi054 (some ad525) x7_3.length co50 (ji36) (da) q54 (Kd.R_reads' HO_7.out).2.1; have hr54 := Kd.R_take (m := ((ji36) : Int).toNat) HO_7.out (by omega); have hy54 : y528.length = ((ji36) : Int).toNat := (by rw [Ny528.out, List.length_take]; omega); rw [← Ny528.out] at hr54; rw [← hy54] at hr54 hcut54; clear hy54 hi054 hsz54 HO_7; have HO530 := Am hr54; clear hr54; replace q54 := eq_true q54; obtain ⟨z55_0, z55_1, z55_2, z55_3, z55_4, z55_5, f55_0, f55_1, f55_2, f55_3, f55_4, f55_5⟩ := cf6 BK527.out) | ((with_reducible refine gs 97 rfl ?_); refine Kd.R_lit (Kd.int .i64) _ 3 ?hg (N := 97) ?hd (xs := ([(rd_T34 l0 (rd x7_3 (ji36))).f4, (rd_T34 l0 (rd x7_3 (ji36))).f5] : List Int)) (inner := [.int .i64 ((rd_T34 l0 (rd x7_3 (ji36))).f4), .int .i64 ((rd_T34 l0 (rd x7_3 (ji36))).f5)]) (ok := fun _ => True) (okp := fun _ => True) ?hr ?hp (fun _ hk => hk) trivial (Below.refl _ _) (Nat.le_refl _) (by simp) ?_; (case hd => rfl); (case hg => rfl); (case hr => first | (go_simp; done) | (go_simp; rfl)); (case hp => exact (Reps.one (show Kd.M (Kd.int .i64) _ _ _ ((rd_T34 l0 (rd x7_3 (ji36))).f4) [.int .i64 ((rd_T34 l0 (rd x7_3 (ji36))).f4)] from rfl) (Reps.one (show Kd.M (Kd.int .i64) _ _ _ ((rd_T34 l0 (rd x7_3 (ji36))).f5) [.int .i64 ((rd_T34 l0 (rd x7_3 (ji36))).f5)] from rfl) (Reps.none _ _)))); intro v532 w56 ho57 hb hg_ hnew_; clear hg_ hnew_; (first | rw [← Ny531.out] at ho57 | (simp only [Int.reduceToNat] at ho57; rw [← Ny531.out] at ho57)); have n0_ := Am (Kd.R_elder' (kr HO530.out) (Kd.R_base ho57) hb); have n1_ := Am (Kd.R_lower (Kd.R_new' ho57 (Kd.R_lt (kr HO530.out))) (below_size bs)); have n2_ := Am (blk_below (bk BK527.out) hb); have n3_ := Am (below_step bs hb); clear HO530; clear BK527; clear HB; have HO530 := n0_; have HO533 := n1_; have BK527 := n2_; have HB := n3_; clear n0_ n1_ n2_ n3_; clear hb ho57; obtain ⟨Ao59, co59, eo59⟩ := Kd.R_slice HO533.out; subst eo59) | ((with_reducible refine gate_builtin (b := .append) (xs := #[.tmp 92, .tmp 97]) rfl ?_); at_builtin; refine Kd.R_append_rows (Kd.int .i64) (w0 := w) w.heap.size rfl (.tmp 92) (.tmp 97) 31 3 (.int .i64 0) 8 rfl Try.underlying31 info3 rfl (by decide) (by omega) (.slice (some ad525) y528.length co50) y528 y531 _ _ _ (fun k_ => some k_ ≠ (.slice Ao59 y531.length co59 : Value).ownBlock) (fun _ => False) rfl rfl ?aO ?aR (fun _ _ h => h) (fun _ h => h.elim) ?aF ?aB ?aS ?aL ?_; (case aR => repeat (first | exact (Kd.R_reads' HO533.out).2.2 | (with_reducible refine Kd.C_alloc ?_ _) | (with_reducible refine Kd.C_drewN ?_ _) | (with_reducible refine Kd.C_drew ?_))); (case aB => exact bs); (case aF => exact (fun k_ hk => Kd.fresh' (Kd.R_lt (kr HO533.out)) k_ hk)); (case aO => exact (by (with_reducible repeat (first | apply Kd.R_alloc | apply Kd.R_drewN | apply Kd.R_drew)); exact Kd.R_mono HO530.out (fun _ hk => hk.2))); (case aS => exact (below_size bs)); (case aL => have := LMc49.out; omega); intro v535 w58 ho hb hg hat; rw [← Ny534.out] at ho; have n0_ := Am (blk_grown (g := gb527) (o := .cells #[.int .i64 ((rd_T34 l0 (rd x7_3 (ji36))).f0), .int .i64 ((rd_T34 l0 (rd x7_3 (ji36))).f1), .int .i64 ((rd_T34 l0 (rd x7_3 (ji36))).f2), .int .i64 ((rd_T34 l0 (rd x7_3 (ji36))).f3), .int .i64 ((rd_T34 l0 (rd x7_3 (ji36))).f4), .int .i64 ((rd_T34 l0 (rd x7_3 (ji36))).f5)] 34 (0, 0)) (bk BK527.out) hg (Kd.R_ne HO530.out BK527.out (by decide))); have n1_ := Am (Kd.R_after (ok := (fun _ => True)) (kr HO533.out) hg hat); have n2_ := Am (hb); have n3_ := Am (ho); clear BK527; clear HO533; clear HB; clear HO530; have BK527 := n0_; have HO533 := n1_; have HB := n2_; have HO536 := n3_; clear n0_ n1_ n2_ n3_; clear ho hb hg hat))
             go_roundg k3
             case measure => have := HK1.out; have := HK2.out; have := HK3.out; omega
             case rel => exact ⟨(wrap64 (x6_3 + 1)), (y534), (by first | rfl | (simp; done) | (simp [*]; done)), H', ⟨by have := HK1.out; have := HK2.out; have := HK3.out; omega⟩, ⟨by (with_reducible repeat (first | apply Kd.R_alloc | apply Kd.R_drewN | apply Kd.R_drew)); exact Kd.R_mono HO536.out (fun _ hk => trivial)⟩, ⟨bs⟩⟩
           ·rw [if_neg c35] at H
            have c35b0 : decide (0 < (x7_3.length : Int)) = false := decide_eq_false c35
            have c35b1 : decide (0 < x7_3.length) = false := decide_eq_false (by omega)
            clear c35
            by_cases c60 : x6_3 = (l0.length : Int)
            ·rw [if_pos c60] at H
             obtain ⟨c60b0, c60b1⟩ := eq2 c60
             clear c60
             obtain rfl := Option.some.inj H
             obtain ⟨Ao61, co61, eo61⟩ := Kd.R_slice HO_7.out
             subst eo61
             go_wp2
             go_ret
             exact ⟨er, bq⟩
            ·rw [if_neg c60] at H
             obtain ⟨c60b0, c60b1⟩ := ne2 c60
             obtain rfl := Option.some.inj H
             obtain ⟨Ao62, co62, eo62⟩ := Kd.R_slice HO_7.out
             subst eo62
             go_wp2
             go_ret
             exact ⟨er, bq⟩
def larchref16_Leaf.f (a0_0 : Int) (a0_1 : Int) (a0_2 : Int) (a0_3 : Int) (a0_4 : Int) (a0_5 : Int) : Option (Bool) := some (a0_4 == (-1))
theorem larchref16_Leaf.calls (a0_0 : Int) (a0_1 : Int) (a0_2 : Int) (a0_3 : Int) (a0_4 : Int) (a0_5 : Int) (r : Bool) (w : World) (h : larchref16_Leaf.f a0_0 a0_1 a0_2 a0_3 a0_4 a0_5 = some r) :
  Calls Try.prog 100 #[.agg #[.int .i64 a0_0, .int .i64 a0_1, .int .i64 a0_2, .int .i64 a0_3, .int .i64 a0_4, .int .i64 a0_5]] w (RB w (.bool r)) := by
 have HB := Am (Below.refl w.heap.size w)
 have H : (some (a0_4 == (-1))) = some r := h
 clear h
 obtain rfl := Option.some.inj H
 go_enter Try.func100, Try.ntmps100
 go_wp2_with (first | ((with_reducible refine gs 1 rfl ?_); refine bE 1 (cs := #[.int .i64 a0_0, .int .i64 a0_1, .int .i64 a0_2, .int .i64 a0_3, .int .i64 a0_4, .int .i64 a0_5]) (t := 34) ?_; intro gb537 hg w2 hbox hb; obtain ⟨n0_, BK537, GW537, GE537⟩ := bx hg hbox hb; clear HB; have HB := n0_; clear n0_ hb hbox hg; obtain ⟨z3_0, z3_1, z3_2, z3_3, z3_4, z3_5, f3_0, f3_1, f3_2, f3_3, f3_4, f3_5⟩ := cf6 BK537.out))
 go_ret
 exact ⟨er, bs⟩
def larchref16_end.f (a0_0 : Int) (a0_1 : Int) (a0_2 : Int) (a0_3 : Int) (a0_4 : Int) (a0_5 : Int) : Option (Bool) := (larchref16_Leaf.f a0_0 a0_1 a0_2 a0_3 a0_4 a0_5).bind fun t539 => (if t539 = true then (if a0_1 = 1 then (some (a0_2 == 1)) else (some false)) else (some false))
theorem larchref16_end.calls (a0_0 : Int) (a0_1 : Int) (a0_2 : Int) (a0_3 : Int) (a0_4 : Int) (a0_5 : Int) (r : Bool) (w : World) (h : larchref16_end.f a0_0 a0_1 a0_2 a0_3 a0_4 a0_5 = some r) :
  Calls Try.prog 98 #[.agg #[.int .i64 a0_0, .int .i64 a0_1, .int .i64 a0_2, .int .i64 a0_3, .int .i64 a0_4, .int .i64 a0_5]] w (RB w (.bool r)) := by
 have HB := Am (Below.refl w.heap.size w)
 have H : ((larchref16_Leaf.f a0_0 a0_1 a0_2 a0_3 a0_4 a0_5).bind fun t539 => (if t539 = true then (if a0_1 = 1 then (some (a0_2 == 1)) else (some false)) else (some false))) = some r := h
 clear h
 obtain ⟨t539, A2, H⟩ := bo H
 by_cases c3 : t539 = true
 ·subst c3
  rw [if_pos rfl] at H
  by_cases c4 : a0_1 = 1
  ·rw [if_pos c4] at H
   obtain ⟨c4b0, c4b1⟩ := eq2 c4
   clear c4
   obtain rfl := Option.some.inj H
   go_enter Try.func98, Try.ntmps98
   go_wp2_with (first | ((with_reducible refine gs 1 rfl ?_); refine bE 1 (cs := #[.int .i64 a0_0, .int .i64 a0_1, .int .i64 a0_2, .int .i64 a0_3, .int .i64 a0_4, .int .i64 a0_5]) (t := 34) ?_; intro gb538 hg w5 hbox hb; obtain ⟨n0_, BK538, GW538, GE538⟩ := bx hg hbox hb; clear HB; have HB := n0_; clear n0_ hb hbox hg; obtain ⟨z6_0, z6_1, z6_2, z6_3, z6_4, z6_5, f6_0, f6_1, f6_2, f6_3, f6_4, f6_5⟩ := cf6 BK538.out) | ((with_reducible refine gc 100 rfl ?_); refine gL 4 Try.func100 #[.agg #[.int .i64 a0_0, .int .i64 a0_1, .int .i64 a0_2, .int .i64 a0_3, .int .i64 a0_4, .int .i64 a0_5]] ?_; (with_reducible refine (larchref16_Leaf.calls a0_0 a0_1 a0_2 a0_3 a0_4 a0_5 true _ A2.out).mono ?_); rintro e w7 ⟨rfl, hb⟩; refine ⟨_, rfl, ?_⟩; replace BK538 := Am (blk_below (bk BK538.out) hb); replace HB := Am (below_step bs hb); (try clear hb); obtain ⟨z8_0, z8_1, z8_2, z8_3, z8_4, z8_5, f8_0, f8_1, f8_2, f8_3, f8_4, f8_5⟩ := cf6 BK538.out))
   go_ret
   exact ⟨er, bs⟩
  ·rw [if_neg c4] at H
   obtain ⟨c4b0, c4b1⟩ := ne2 c4
   obtain rfl := Option.some.inj H
   go_enter Try.func98, Try.ntmps98
   go_wp2_with (first | ((with_reducible refine gs 1 rfl ?_); refine bE 1 (cs := #[.int .i64 a0_0, .int .i64 a0_1, .int .i64 a0_2, .int .i64 a0_3, .int .i64 a0_4, .int .i64 a0_5]) (t := 34) ?_; intro gb538 hg w9 hbox hb; obtain ⟨n0_, BK538, GW538, GE538⟩ := bx hg hbox hb; clear HB; have HB := n0_; clear n0_ hb hbox hg; obtain ⟨z10_0, z10_1, z10_2, z10_3, z10_4, z10_5, f10_0, f10_1, f10_2, f10_3, f10_4, f10_5⟩ := cf6 BK538.out) | ((with_reducible refine gc 100 rfl ?_); refine gL 4 Try.func100 #[.agg #[.int .i64 a0_0, .int .i64 a0_1, .int .i64 a0_2, .int .i64 a0_3, .int .i64 a0_4, .int .i64 a0_5]] ?_; (with_reducible refine (larchref16_Leaf.calls a0_0 a0_1 a0_2 a0_3 a0_4 a0_5 true _ A2.out).mono ?_); rintro e w11 ⟨rfl, hb⟩; refine ⟨_, rfl, ?_⟩; replace BK538 := Am (blk_below (bk BK538.out) hb); replace HB := Am (below_step bs hb); (try clear hb); obtain ⟨z12_0, z12_1, z12_2, z12_3, z12_4, z12_5, f12_0, f12_1, f12_2, f12_3, f12_4, f12_5⟩ := cf6 BK538.out))
   go_ret
   exact ⟨er, bs⟩
 ·replace c3 := Bool.eq_false_iff.mpr c3
  subst c3
  rw [if_neg nf] at H
  obtain rfl := Option.some.inj H
  go_enter Try.func98, Try.ntmps98
  go_wp2_with (first | ((with_reducible refine gs 1 rfl ?_); refine bE 1 (cs := #[.int .i64 a0_0, .int .i64 a0_1, .int .i64 a0_2, .int .i64 a0_3, .int .i64 a0_4, .int .i64 a0_5]) (t := 34) ?_; intro gb538 hg w13 hbox hb; obtain ⟨n0_, BK538, GW538, GE538⟩ := bx hg hbox hb; clear HB; have HB := n0_; clear n0_ hb hbox hg; obtain ⟨z14_0, z14_1, z14_2, z14_3, z14_4, z14_5, f14_0, f14_1, f14_2, f14_3, f14_4, f14_5⟩ := cf6 BK538.out) | ((with_reducible refine gc 100 rfl ?_); refine gL 4 Try.func100 #[.agg #[.int .i64 a0_0, .int .i64 a0_1, .int .i64 a0_2, .int .i64 a0_3, .int .i64 a0_4, .int .i64 a0_5]] ?_; (with_reducible refine (larchref16_Leaf.calls a0_0 a0_1 a0_2 a0_3 a0_4 a0_5 false _ A2.out).mono ?_); rintro e w15 ⟨rfl, hb⟩; refine ⟨_, rfl, ?_⟩; replace BK538 := Am (blk_below (bk BK538.out) hb); replace HB := Am (below_step bs hb); (try clear hb)))
  go_ret
  exact ⟨er, bs⟩
end
section
attribute [local go_sem] max2_int min2_int max_two min_two max_three min_three max_four min_four
def larchref16_top.f (l0 : List (S34)) (a1 : Int) : Option (Bool) := if 0 ≤ a1 then (if a1 < (l0.length : Int) then ((larchref16_Leaf.f ((rd_T34 l0 a1).f0) ((rd_T34 l0 a1).f1) ((rd_T34 l0 a1).f2) ((rd_T34 l0 a1).f3) ((rd_T34 l0 a1).f4) ((rd_T34 l0 a1).f5)).bind fun t542 => (if t542 = true then (some false) else (if ((rd_T34 l0 a1).f1) = 1 then (if ((rd_T34 l0 a1).f2) = 1 then (if 0 ≤ ((rd_T34 l0 a1).f5) then (if ((rd_T34 l0 a1).f5) < (l0.length : Int) then ((larchref16_end.f ((rd_T34 l0 ((rd_T34 l0 a1).f5)).f0) ((rd_T34 l0 ((rd_T34 l0 a1).f5)).f1) ((rd_T34 l0 ((rd_T34 l0 a1).f5)).f2) ((rd_T34 l0 ((rd_T34 l0 a1).f5)).f3) ((rd_T34 l0 ((rd_T34 l0 a1).f5)).f4) ((rd_T34 l0 ((rd_T34 l0 a1).f5)).f5)).bind fun t544 => (some t544)) else (none)) else (none)) else (some false)) else (some false)))) else (none)) else (none)
theorem larchref16_top.calls (A0 : Option Addr) (c0 : Nat) (l0 : List (S34)) (a1 : Int) (r : Bool) (w : World) (hr0 : Kd.C k34 w A0 l0.length l0) (hc0 : l0.length ≤ c0) (h : larchref16_top.f l0 a1 = some r) :
  Calls Try.prog 97 #[.slice A0 l0.length c0, .int .i64 a1] w (RB w (.bool r)) := by
 have HR0 := Am hr0
 have HC0 := Am hc0
 clear hr0 hc0
 have HB := Am (Below.refl w.heap.size w)
 have H : (if 0 ≤ a1 then (if a1 < (l0.length : Int) then ((larchref16_Leaf.f ((rd_T34 l0 a1).f0) ((rd_T34 l0 a1).f1) ((rd_T34 l0 a1).f2) ((rd_T34 l0 a1).f3) ((rd_T34 l0 a1).f4) ((rd_T34 l0 a1).f5)).bind fun t542 => (if t542 = true then (some false) else (if ((rd_T34 l0 a1).f1) = 1 then (if ((rd_T34 l0 a1).f2) = 1 then (if 0 ≤ ((rd_T34 l0 a1).f5) then (if ((rd_T34 l0 a1).f5) < (l0.length : Int) then ((larchref16_end.f ((rd_T34 l0 ((rd_T34 l0 a1).f5)).f0) ((rd_T34 l0 ((rd_T34 l0 a1).f5)).f1) ((rd_T34 l0 ((rd_T34 l0 a1).f5)).f2) ((rd_T34 l0 ((rd_T34 l0 a1).f5)).f3) ((rd_T34 l0 ((rd_T34 l0 a1).f5)).f4) ((rd_T34 l0 ((rd_T34 l0 a1).f5)).f5)).bind fun t544 => (some t544)) else (none)) else (none)) else (some false)) else (some false)))) else (none)) else (none)) = some r := h
 clear h
 obtain ⟨c3, H⟩ := gd H
 have c3b0 := decide_eq_true c3
 clear c3
 obtain ⟨c4, H⟩ := gd H
 have c4b0 := decide_eq_true c4
 clear c4
 obtain ⟨t542, A5, H⟩ := bo H
 by_cases c6 : t542 = true
 ·subst c6
  rw [if_pos rfl] at H
  obtain rfl := Option.some.inj H
  have p540 : 0 ≤ (a1 : Int) := da
  have q540 : a1 < (l0.length : Int) := da
  obtain ⟨ad540, e540, hx540_0, hx540_1, hx540_2, hx540_3, hx540_4, hx540_5⟩ := at_T34 HR0.out a1 p540 q540
  cases e540
  replace p540 := eq_true p540
  replace q540 := eq_true q540
  go_enter Try.func97, Try.ntmps97
  go_wp2_with (first | ((with_reducible refine gs 5 rfl ?_); refine bE 5 (cs := #[.int .i64 0, .int .i64 0, .int .i64 0, .int .i64 0, .int .i64 0, .int .i64 0]) (t := 34) ?_; intro gb541 hg w7 hbox hb; obtain ⟨n0_, BK541, GW541, GE541⟩ := bx hg hbox hb; clear HB; have HB := n0_; clear n0_ hb hbox hg; obtain ⟨z8_0, z8_1, z8_2, z8_3, z8_4, z8_5, f8_0, f8_1, f8_2, f8_3, f8_4, f8_5⟩ := cf6 BK541.out) | ((with_reducible refine gc 100 rfl ?_); refine gL 11 Try.func100 #[.agg #[.int .i64 ((rd_T34 l0 a1).f0), .int .i64 ((rd_T34 l0 a1).f1), .int .i64 ((rd_T34 l0 a1).f2), .int .i64 ((rd_T34 l0 a1).f3), .int .i64 ((rd_T34 l0 a1).f4), .int .i64 ((rd_T34 l0 a1).f5)]] ?_; (with_reducible refine (larchref16_Leaf.calls _ _ _ _ _ _ true _ A5.out).mono ?_); rintro e w9 ⟨rfl, hb⟩; refine ⟨_, rfl, ?_⟩; have n0_ := Am (blk_below (g := gb541) (o := .cells #[.int .i64 ((rd_T34 l0 a1).f0), .int .i64 ((rd_T34 l0 a1).f1), .int .i64 ((rd_T34 l0 a1).f2), .int .i64 ((rd_T34 l0 a1).f3), .int .i64 ((rd_T34 l0 a1).f4), .int .i64 ((rd_T34 l0 a1).f5)] 34 (0, 0)) (bp6 BK541.out) hb); have n1_ := Am (below_step bs hb); clear BK541; clear HB; have BK541 := n0_; have HB := n1_; clear n0_ n1_; (try clear hb)))
  go_ret
  exact ⟨er, bs⟩
 ·replace c6 := Bool.eq_false_iff.mpr c6
  subst c6
  rw [if_neg nf] at H
  by_cases c10 : ((rd_T34 l0 a1).f1) = 1
  ·rw [if_pos c10] at H
   obtain ⟨c10b0, c10b1⟩ := eq2 c10
   clear c10
   by_cases c11 : ((rd_T34 l0 a1).f2) = 1
   ·rw [if_pos c11] at H
    obtain ⟨c11b0, c11b1⟩ := eq2 c11
    clear c11
    obtain ⟨c12, H⟩ := gd H
    have c12b0 := decide_eq_true c12
    clear c12
    obtain ⟨c13, H⟩ := gd H
    have c13b0 := decide_eq_true c13
    clear c13
    obtain ⟨t544, A14, H⟩ := bo H
    obtain rfl := Option.some.inj H
    have p540 : 0 ≤ (a1 : Int) := da
    have q540 : a1 < (l0.length : Int) := da
    obtain ⟨ad540, e540, hx540_0, hx540_1, hx540_2, hx540_3, hx540_4, hx540_5⟩ := at_T34 HR0.out a1 p540 q540
    cases e540
    replace p540 := eq_true p540
    replace q540 := eq_true q540
    go_enter Try.func97, Try.ntmps97
    go_wp2_with (first | ((with_reducible refine gs 5 rfl ?_); refine bE 5 (cs := #[.int .i64 0, .int .i64 0, .int .i64 0, .int .i64 0, .int .i64 0, .int .i64 0]) (t := 34) ?_; intro gb541 hg w15 hbox hb; obtain ⟨n0_, BK541, GW541, GE541⟩ := bx hg hbox hb; clear HB; have HB := n0_; clear n0_ hb hbox hg; obtain ⟨z16_0, z16_1, z16_2, z16_3, z16_4, z16_5, f16_0, f16_1, f16_2, f16_3, f16_4, f16_5⟩ := cf6 BK541.out) | ((with_reducible refine gc 100 rfl ?_); refine gL 11 Try.func100 #[.agg #[.int .i64 ((rd_T34 l0 a1).f0), .int .i64 ((rd_T34 l0 a1).f1), .int .i64 ((rd_T34 l0 a1).f2), .int .i64 ((rd_T34 l0 a1).f3), .int .i64 ((rd_T34 l0 a1).f4), .int .i64 ((rd_T34 l0 a1).f5)]] ?_; (with_reducible refine (larchref16_Leaf.calls _ _ _ _ _ _ false _ A5.out).mono ?_); rintro e w17 ⟨rfl, hb⟩; refine ⟨_, rfl, ?_⟩; have n0_ := Am (blk_below (g := gb541) (o := .cells #[.int .i64 ((rd_T34 l0 a1).f0), .int .i64 ((rd_T34 l0 a1).f1), .int .i64 ((rd_T34 l0 a1).f2), .int .i64 ((rd_T34 l0 a1).f3), .int .i64 ((rd_T34 l0 a1).f4), .int .i64 ((rd_T34 l0 a1).f5)] 34 (0, 0)) (bp6 BK541.out) hb); have n1_ := Am (below_step bs hb); clear BK541; clear HB; have BK541 := n0_; have HB := n1_; clear n0_ n1_; (try clear hb); obtain ⟨z18_0, z18_1, z18_2, z18_3, z18_4, z18_5, f18_0, f18_1, f18_2, f18_3, f18_4, f18_5⟩ := cf6 BK541.out; obtain ⟨ad543, e543, hx543_0, hx543_1, hx543_2, hx543_3, hx543_4, hx543_5, p543, q543⟩ := t6d HB.out HR0.out ((rd_T34 l0 a1).f5); obtain rfl : ad540 = ad543 := (by injection e543)) | (go_at_call 98; (with_reducible refine (larchref16_end.calls _ _ _ _ _ _ t544 _ A14.out).mono ?_); rintro e w19 ⟨rfl, hb⟩; replace BK541 := Am (blk_below (bk BK541.out) hb); replace HB := Am (below_step bs hb); (try clear hb)))
    go_ret
    exact ⟨er, bs⟩
   ·rw [if_neg c11] at H
    obtain ⟨c11b0, c11b1⟩ := ne2 c11
    obtain rfl := Option.some.inj H
    have p540 : 0 ≤ (a1 : Int) := da
    have q540 : a1 < (l0.length : Int) := da
    obtain ⟨ad540, e540, hx540_0, hx540_1, hx540_2, hx540_3, hx540_4, hx540_5⟩ := at_T34 HR0.out a1 p540 q540
    cases e540
    replace p540 := eq_true p540
    replace q540 := eq_true q540
    go_enter Try.func97, Try.ntmps97
    go_wp2_with (first | ((with_reducible refine gs 5 rfl ?_); refine bE 5 (cs := #[.int .i64 0, .int .i64 0, .int .i64 0, .int .i64 0, .int .i64 0, .int .i64 0]) (t := 34) ?_; intro gb541 hg w20 hbox hb; obtain ⟨n0_, BK541, GW541, GE541⟩ := bx hg hbox hb; clear HB; have HB := n0_; clear n0_ hb hbox hg; obtain ⟨z21_0, z21_1, z21_2, z21_3, z21_4, z21_5, f21_0, f21_1, f21_2, f21_3, f21_4, f21_5⟩ := cf6 BK541.out) | ((with_reducible refine gc 100 rfl ?_); refine gL 11 Try.func100 #[.agg #[.int .i64 ((rd_T34 l0 a1).f0), .int .i64 ((rd_T34 l0 a1).f1), .int .i64 ((rd_T34 l0 a1).f2), .int .i64 ((rd_T34 l0 a1).f3), .int .i64 ((rd_T34 l0 a1).f4), .int .i64 ((rd_T34 l0 a1).f5)]] ?_; (with_reducible refine (larchref16_Leaf.calls _ _ _ _ _ _ false _ A5.out).mono ?_); rintro e w22 ⟨rfl, hb⟩; refine ⟨_, rfl, ?_⟩; have n0_ := Am (blk_below (g := gb541) (o := .cells #[.int .i64 ((rd_T34 l0 a1).f0), .int .i64 ((rd_T34 l0 a1).f1), .int .i64 ((rd_T34 l0 a1).f2), .int .i64 ((rd_T34 l0 a1).f3), .int .i64 ((rd_T34 l0 a1).f4), .int .i64 ((rd_T34 l0 a1).f5)] 34 (0, 0)) (bp6 BK541.out) hb); have n1_ := Am (below_step bs hb); clear BK541; clear HB; have BK541 := n0_; have HB := n1_; clear n0_ n1_; (try clear hb); obtain ⟨z23_0, z23_1, z23_2, z23_3, z23_4, z23_5, f23_0, f23_1, f23_2, f23_3, f23_4, f23_5⟩ := cf6 BK541.out))
    go_ret
    exact ⟨er, bs⟩
  ·rw [if_neg c10] at H
   obtain ⟨c10b0, c10b1⟩ := ne2 c10
   obtain rfl := Option.some.inj H
   have p540 : 0 ≤ (a1 : Int) := da
   have q540 : a1 < (l0.length : Int) := da
   obtain ⟨ad540, e540, hx540_0, hx540_1, hx540_2, hx540_3, hx540_4, hx540_5⟩ := at_T34 HR0.out a1 p540 q540
   cases e540
   replace p540 := eq_true p540
   replace q540 := eq_true q540
   go_enter Try.func97, Try.ntmps97
   go_wp2_with (first | ((with_reducible refine gs 5 rfl ?_); refine bE 5 (cs := #[.int .i64 0, .int .i64 0, .int .i64 0, .int .i64 0, .int .i64 0, .int .i64 0]) (t := 34) ?_; intro gb541 hg w24 hbox hb; obtain ⟨n0_, BK541, GW541, GE541⟩ := bx hg hbox hb; clear HB; have HB := n0_; clear n0_ hb hbox hg; obtain ⟨z25_0, z25_1, z25_2, z25_3, z25_4, z25_5, f25_0, f25_1, f25_2, f25_3, f25_4, f25_5⟩ := cf6 BK541.out) | ((with_reducible refine gc 100 rfl ?_); refine gL 11 Try.func100 #[.agg #[.int .i64 ((rd_T34 l0 a1).f0), .int .i64 ((rd_T34 l0 a1).f1), .int .i64 ((rd_T34 l0 a1).f2), .int .i64 ((rd_T34 l0 a1).f3), .int .i64 ((rd_T34 l0 a1).f4), .int .i64 ((rd_T34 l0 a1).f5)]] ?_; (with_reducible refine (larchref16_Leaf.calls _ _ _ _ _ _ false _ A5.out).mono ?_); rintro e w26 ⟨rfl, hb⟩; refine ⟨_, rfl, ?_⟩; have n0_ := Am (blk_below (g := gb541) (o := .cells #[.int .i64 ((rd_T34 l0 a1).f0), .int .i64 ((rd_T34 l0 a1).f1), .int .i64 ((rd_T34 l0 a1).f2), .int .i64 ((rd_T34 l0 a1).f3), .int .i64 ((rd_T34 l0 a1).f4), .int .i64 ((rd_T34 l0 a1).f5)] 34 (0, 0)) (bp6 BK541.out) hb); have n1_ := Am (below_step bs hb); clear BK541; clear HB; have BK541 := n0_; have HB := n1_; clear n0_ n1_; (try clear hb); obtain ⟨z27_0, z27_1, z27_2, z27_3, z27_4, z27_5, f27_0, f27_1, f27_2, f27_3, f27_4, f27_5⟩ := cf6 BK541.out))
   go_ret
   exact ⟨er, bs⟩
def larchref16_Rows.l0 : Nat → List (S34) → List Int → List Int → Option (List Int)
 | 0, _, _, _ => none
 | k + 1, x0, x5, x6 => if (x6.length : Int) > 0 then (if 0 ≤ (wrap64 ((x6.length : Int) - 1)) then (if (wrap64 ((x6.length : Int) - 1)) < (x6.length : Int) then (if (wrap64 ((x6.length : Int) - 1)) ≤ (x6.length : Int) then ((some (x6.take ((wrap64 ((x6.length : Int) - 1)) : Int).toNat : List Int)).bind fun y549 => (if x5.length < 17592186044416 then ((some (x5 ++ [rd x6 (wrap64 ((x6.length : Int) - 1))] : List Int)).bind fun y552 => (if 0 ≤ (rd x6 (wrap64 ((x6.length : Int) - 1))) then (if (rd x6 (wrap64 ((x6.length : Int) - 1))) < (x0.length : Int) then ((larchref16_Leaf.f ((rd_T34 x0 (rd x6 (wrap64 ((x6.length : Int) - 1)))).f0) ((rd_T34 x0 (rd x6 (wrap64 ((x6.length : Int) - 1)))).f1) ((rd_T34 x0 (rd x6 (wrap64 ((x6.length : Int) - 1)))).f2) ((rd_T34 x0 (rd x6 (wrap64 ((x6.length : Int) - 1)))).f3) ((rd_T34 x0 (rd x6 (wrap64 ((x6.length : Int) - 1)))).f4) ((rd_T34 x0 (rd x6 (wrap64 ((x6.length : Int) - 1)))).f5)).bind fun t556 => (if t556 = true then (larchref16_Rows.l0 k x0 y552 y549) else ((some (([(rd_T34 x0 (rd x6 (wrap64 ((x6.length : Int) - 1)))).f5, (rd_T34 x0 (rd x6 (wrap64 ((x6.length : Int) - 1)))).f4] : List Int) : List Int)).bind fun y559 => (if y549.length + y559.length < 17592186044416 then (larchref16_Rows.l0 k x0 y552 (y549 ++ y559)) else (none))))) else (none)) else (none))) else (none))) else (none)) else (none)) else (none)) else (some x5)
def larchref16_Rows.f (k : Nat) (l0 : List (S34)) (a1 : Int) : Option (List Int) := larchref16_Rows.l0 k l0 ([] : List Int) (([a1] : List Int))
theorem larchref16_Rows.mono_l : ∀ k, (∀ y0 y1 y2, LeO (larchref16_Rows.l0 k y0 y1 y2) (larchref16_Rows.l0 (k + 1) y0 y1 y2))
 | 0 => fun _ _ _ r h => by simp [larchref16_Rows.l0] at h
 | k + 1 => by
  have ih0 := larchref16_Rows.mono_l k
  ·intro y0 y1 y2
   unfold larchref16_Rows.l0
   repeat' first
   | (with_reducible exact ih0 _ _ _)
   | (with_reducible exact LeO.refl _)
   | (with_reducible exact LeO.none _)
   | (with_reducible refine LeO.ite ?_ ?_)
   | (with_reducible refine LeO.bind ?_ (fun _ => ?_))
   | exact ih0 _ _ _
   | exact LeO.none _
   | refine LeO.ite ?_ ?_
   | refine LeO.bind ?_ (fun _ => ?_)
theorem larchref16_Rows.mono : ∀ a0 a1 k, LeO (larchref16_Rows.f k a0 a1) (larchref16_Rows.f (k + 1) a0 a1) := by
 intro a0 a1 k
 have ih0 := larchref16_Rows.mono_l k
 unfold larchref16_Rows.f
 repeat' first
   | (with_reducible exact ih0 _ _ _)
   | (with_reducible exact LeO.refl _)
   | (with_reducible exact LeO.none _)
   | (with_reducible refine LeO.ite ?_ ?_)
   | (with_reducible refine LeO.bind ?_ (fun _ => ?_))
   | exact ih0 _ _ _
   | exact LeO.none _
   | refine LeO.ite ?_ ?_
   | refine LeO.bind ?_ (fun _ => ?_)
def larchref16_Rows.T8 : Bool × List (List Nat × List Nat) := (true, [([], []), ([], []), ([], []), ([1, 2], [1, 2]), ([3], [3]), ([4], [4]), ([], []), ([], []), ([6, 7], [6, 7]), ([8], [8]), ([9], [9]), ([5, 10], [5, 10]), ([0, 11], [0, 11]), ([12, 12, 0, 1, 2, 3, 4, 5, 6, 7, 8, 9, 10, 11, 12], [0, 12])])
def larchref16_Rows.B8 : List Nat := [0, 0, 0, 6, 14, 30, 0, 0, 192, 448, 960, 2046, 4095, 8191]
theorem larchref16_Rows.tab8 : rtab .any (opsOf Try.f99 8) = larchref16_Rows.T8 := by kernel_rfl
theorem larchref16_Rows.bits8 : waitsOk larchref16_Rows.T8.2 larchref16_Rows.B8 = true := by kernel_rfl
theorem larchref16_Rows.calls (k : Nat) (A0 : Option Addr) (c0 : Nat) (l0 : List (S34)) (a1 : Int) (r : List Int) (w : World) (hr0 : Kd.C k34 w A0 l0.length l0) (hc0 : l0.length ≤ c0) (h : larchref16_Rows.f k l0 a1 = some r) :
  Calls Try.prog 99 #[.slice A0 l0.length c0, .int .i64 a1] w fun e w' => ∃ v0_ : Value, e = .returned (v0_) ∧ Kd.R (Kd.int .i64) 3 w' w.heap.size (fun _ => True) v0_ r ∧ Below w.heap.size w w' := by
 have HR0 := Am hr0
 have HC0 := Am hc0
 clear hr0 hc0
 have HB := Am (Below.refl w.heap.size w)
 have H : (larchref16_Rows.l0 k l0 ([] : List Int) (([a1] : List Int))) = some r := h
 clear h
 obtain ⟨y545, hy545⟩ : ∃ y_ : List Int, y_ = (([a1] : List Int)) := ⟨_, rfl⟩
 replace H : (larchref16_Rows.l0 k l0 ([] : List Int) y545) = some r := by first | (rw [hy545]; with_reducible exact H) | (have H2_ := (Option.bind_some _ _).symm.trans H; rw [hy545]; with_reducible exact H2_) | (have H2_ := (Option.bind_some _ _).symm.trans H; with_reducible exact H2_) | with_reducible exact H | (rw [hy545]; exact H) | exact H
 have Ny545 := Am hy545
 clear hy545
 have H' := Am H
 clear H
 go_enter Try.func99, Try.ntmps99
 go_wp2_with (first | ((with_reducible refine gs 9 rfl ?_); refine Kd.R_lit (Kd.int .i64) _ 3 ?hg (N := 9) ?hd (xs := ([a1] : List Int)) (inner := [.int .i64 a1]) (ok := fun _ => True) (okp := fun _ => True) ?hr ?hp (fun _ hk => hk) trivial (Below.refl _ _) (Nat.le_refl _) (by simp) ?_; (case hd => rfl); (case hg => rfl); (case hr => first | (go_simp; done) | (go_simp; rfl)); (case hp => exact (Reps.one (show Kd.M (Kd.int .i64) _ _ _ a1 [.int .i64 a1] from rfl) (Reps.none _ _))); intro v546 w3 ho4 hb hg_ hnew_; clear hg_ hnew_; (first | rw [← Ny545.out] at ho4 | (simp only [Int.reduceToNat] at ho4; rw [← Ny545.out] at ho4)); replace HO547 := Am (Kd.R_lower ho4 (below_size bq)); replace HB := Am (below_step bq hb); clear hb ho4))
 go_loopg [5, 6] k (fun kq v5 v6 w' => ∃ (x5_1 : List Int) (x6_1 : List Int), Aside0 (larchref16_Rows.l0 kq l0 x5_1 x6_1 = some r) ∧ Aside0 (kq ≤ k) ∧ Aside0 (Kd.R (Kd.int .i64) 3 w' w.heap.size (fun k_ => some k_ ≠ (v6 : Value).ownBlock) v5 x5_1) ∧ Aside0 (Kd.R (Kd.int .i64) 3 w' w.heap.size (fun k_ => some k_ ≠ (v5 : Value).ownBlock) v6 x6_1) ∧ Aside0 (Below w.heap.size w w'))
 case atStart => exact ⟨(([] : List Int)), (y545), H', ⟨Nat.le_refl _⟩, ⟨by first | exact Kd.R_nil _ _ _ _ _ | exact Kd.N_nil _ _ _ _ _ | exact Kd.V_nil _ _ _ _ _ | exact Kd.Q_nil _ _ _ _ _ | exact Kd.S_nil _ _ _ _ _⟩, ⟨by (with_reducible repeat (first | apply Kd.R_alloc | apply Kd.R_drewN | apply Kd.R_drew)); exact Kd.R_mono HO547.out (fun _ hk => (by simp [Value.ownBlock]))⟩, ⟨bq⟩⟩
 case round =>
  clear H'
  try clear p2
  obtain ⟨x5_1, x6_1, HA, HK1, HO_5, HO_6, HB⟩ := hrel
  cases gk with
  | zero => exact absurd HA.out (by simp [larchref16_Rows.l0])
  | succ k1 =>
   have H := HA.out
   clear HA
   simp only [larchref16_Rows.l0] at H
   by_cases c5 : (x6_1.length : Int) > 0
   ·rw [if_pos c5] at H
    have c5b0 : decide (0 < (x6_1.length : Int)) = true := decide_eq_true c5
    have c5b1 : decide (0 < x6_1.length) = true := decide_eq_true (by omega)
    clear c5
    obtain ⟨ji6, hji6⟩ : ∃ j_ : Int, (wrap64 ((x6_1.length : Int) - 1)) = j_ := ⟨_, rfl⟩
    replace H : (if 0 ≤ (ji6) then (if (ji6) < (x6_1.length : Int) then (if (ji6) ≤ (x6_1.length : Int) then ((some (x6_1.take ((ji6) : Int).toNat : List Int)).bind fun y549 => (if x5_1.length < 17592186044416 then ((some (x5_1 ++ [rd x6_1 (ji6)] : List Int)).bind fun y552 => (if 0 ≤ (rd x6_1 (ji6)) then (if (rd x6_1 (ji6)) < (l0.length : Int) then ((larchref16_Leaf.f ((rd_T34 l0 (rd x6_1 (ji6))).f0) ((rd_T34 l0 (rd x6_1 (ji6))).f1) ((rd_T34 l0 (rd x6_1 (ji6))).f2) ((rd_T34 l0 (rd x6_1 (ji6))).f3) ((rd_T34 l0 (rd x6_1 (ji6))).f4) ((rd_T34 l0 (rd x6_1 (ji6))).f5)).bind fun t556 => (if t556 = true then (larchref16_Rows.l0 k1 l0 y552 y549) else ((some (([(rd_T34 l0 (rd x6_1 (ji6))).f5, (rd_T34 l0 (rd x6_1 (ji6))).f4] : List Int) : List Int)).bind fun y559 => (if y549.length + y559.length < 17592186044416 then (larchref16_Rows.l0 k1 l0 y552 (y549 ++ y559)) else (none))))) else (none)) else (none))) else (none))) else (none)) else (none)) else (none)) = some r := by first | (rw [hji6] at H; exact H) | (simp only [hji6] at H ⊢; exact H)
    have hji6w : (IntKind.i64.wrap ((x6_1.length : Int) - 1)) = ji6 := (i64_w _).trans hji6
    obtain ⟨c7, H⟩ := gd H
    have c7b0 := decide_eq_true c7
    clear c7
    obtain ⟨c8, H⟩ := gd H
    have c8b0 := decide_eq_true c8
    clear c8
    obtain ⟨c9, H⟩ := gd H
    have c9b0 := eq_true c9
    have c9b1 := decide_eq_true c9
    clear c9
    obtain ⟨y549, hy549⟩ : ∃ y_ : List Int, y_ = (x6_1.take ((ji6) : Int).toNat) := ⟨_, rfl⟩
    replace H : (if x5_1.length < 17592186044416 then ((some (x5_1 ++ [rd x6_1 (ji6)] : List Int)).bind fun y552 => (if 0 ≤ (rd x6_1 (ji6)) then (if (rd x6_1 (ji6)) < (l0.length : Int) then ((larchref16_Leaf.f ((rd_T34 l0 (rd x6_1 (ji6))).f0) ((rd_T34 l0 (rd x6_1 (ji6))).f1) ((rd_T34 l0 (rd x6_1 (ji6))).f2) ((rd_T34 l0 (rd x6_1 (ji6))).f3) ((rd_T34 l0 (rd x6_1 (ji6))).f4) ((rd_T34 l0 (rd x6_1 (ji6))).f5)).bind fun t556 => (if t556 = true then (larchref16_Rows.l0 k1 l0 y552 y549) else ((some (([(rd_T34 l0 (rd x6_1 (ji6))).f5, (rd_T34 l0 (rd x6_1 (ji6))).f4] : List Int) : List Int)).bind fun y559 => (if y549.length + y559.length < 17592186044416 then (larchref16_Rows.l0 k1 l0 y552 (y549 ++ y559)) else (none))))) else (none)) else (none))) else (none)) = some r := by first | (rw [hy549]; with_reducible exact H) | (have H2_ := (Option.bind_some _ _).symm.trans H; rw [hy549]; with_reducible exact H2_) | (have H2_ := (Option.bind_some _ _).symm.trans H; with_reducible exact H2_) | with_reducible exact H | (rw [hy549]; exact H) | exact H
    have Ny549 := Am hy549
    clear hy549
    obtain ⟨c10, H⟩ := gd H
    have LMc10 := Am c10
    clear c10
    obtain ⟨y552, hy552⟩ : ∃ y_ : List Int, y_ = (x5_1 ++ [rd x6_1 (ji6)]) := ⟨_, rfl⟩
    replace H : (if 0 ≤ (rd x6_1 (ji6)) then (if (rd x6_1 (ji6)) < (l0.length : Int) then ((larchref16_Leaf.f ((rd_T34 l0 (rd x6_1 (ji6))).f0) ((rd_T34 l0 (rd x6_1 (ji6))).f1) ((rd_T34 l0 (rd x6_1 (ji6))).f2) ((rd_T34 l0 (rd x6_1 (ji6))).f3) ((rd_T34 l0 (rd x6_1 (ji6))).f4) ((rd_T34 l0 (rd x6_1 (ji6))).f5)).bind fun t556 => (if t556 = true then (larchref16_Rows.l0 k1 l0 y552 y549) else ((some (([(rd_T34 l0 (rd x6_1 (ji6))).f5, (rd_T34 l0 (rd x6_1 (ji6))).f4] : List Int) : List Int)).bind fun y559 => (if y549.length + y559.length < 17592186044416 then (larchref16_Rows.l0 k1 l0 y552 (y549 ++ y559)) else (none))))) else (none)) else (none)) = some r := by first | (rw [hy552]; with_reducible exact H) | (have H2_ := (Option.bind_some _ _).symm.trans H; rw [hy552]; with_reducible exact H2_) | (have H2_ := (Option.bind_some _ _).symm.trans H; with_reducible exact H2_) | with_reducible exact H | (rw [hy552]; exact H) | exact H
    have Ny552 := Am hy552
    clear hy552
    obtain ⟨c11, H⟩ := gd H
    have c11b0 := decide_eq_true c11
    clear c11
    obtain ⟨c12, H⟩ := gd H
    have c12b0 := decide_eq_true c12
    clear c12
    obtain ⟨t556, A13, H⟩ := bo H
    by_cases c14 : t556 = true
    ·subst c14
     rw [if_pos rfl] at H
     have H' := Am H
     clear H
     obtain ⟨Ao15, co15, eo15⟩ := Kd.R_slice HO_6.out
     subst eo15
     have p548 : 0 ≤ ((ji6) : Int) := da
     have q548 : (ji6) < (x6_1.length : Int) := da
     obtain ⟨ad548, e548, hx548_0⟩ := Kd.at_int (Kd.R_reads' HO_6.out).2.2 (ji6) p548 q548
     cases e548
     replace p548 := eq_true p548
     replace q548 := eq_true q548
     have q16 : ((ji6) : Int) ≤ ((x6_1.length : Int) : Int) := da
     obtain ⟨i016, hi016, _, hsz16, _⟩ := info_parts info3
     have hcut16 := cut_to (P := Try.prog) 31 3 .i64 Try.underlying31 hi016 (some ad548) x6_1.length co15 (ji6) (da) q16 (Kd.R_reads' HO_6.out).2.1
     have hr16 := Kd.R_take (m := ((ji6) : Int).toNat) HO_6.out (by omega)
     have hy16 : y549.length = ((ji6) : Int).toNat := (by rw [Ny549.out, List.length_take]; omega)
     rw [← Ny549.out] at hr16
     rw [← hy16] at hr16 hcut16
     clear hy16 hi016 hsz16 HO_6
     have HO551 := Am hr16
     clear hr16
     replace q16 := eq_true q16
     go_wp2_with (first | ((with_reducible refine gate_builtin (b := .append) (xs := #[.tmp 24, .tmp 26]) rfl ?_); at_builtin; refine Kd.R_append (Kd.int .i64) (w0 := w) w.heap.size rfl (.tmp 24) (.tmp 26) 31 3 (.int .i64 0) 8 rfl Try.underlying31 info3 rfl (by decide) (by omega) u5 x5_1 (rd x6_1 (ji6)) [.int .i64 (rd x6_1 (ji6))] (fun k_ => some k_ ≠ (.slice (some ad548) y549.length co15 : Value).ownBlock) (fun _ => False) rfl rfl ?aP (fun _ hk => hk.elim) ?aF ?aO ?aB ?aS ?aL ?_; (case aP => exact rfl); (case aB => exact bq); (case aF => exact (fun k_ hk => Kd.fresh' (Kd.R_lt (kr HO551.out)) k_ hk)); (case aO => exact (kr HO_5.out)); (case aS => exact (below_size bq)); (case aL => have := LMc10.out; omega); intro v553 w17 ho hb hg hat; rw [← Ny552.out] at ho; have n0_ := Am (Kd.R_after (ok := (fun _ => True)) (by (with_reducible repeat (first | apply Kd.R_alloc | apply Kd.R_drewN | apply Kd.R_drew)); exact Kd.R_mono HO551.out (fun _ hk => ⟨trivial, hk⟩)) hg hat); have n1_ := Am (hb); have n2_ := Am (ho); clear HO551; clear HB; clear HO_5; have HO551 := n0_; have HB := n1_; have HO554 := n2_; clear n0_ n1_ n2_; clear ho hb hg hat; obtain ⟨ad555, e555, hx555_0, hx555_1, hx555_2, hx555_3, hx555_4, hx555_5, p555, q555⟩ := t6d HB.out HR0.out (rd x6_1 (ji6)); cases e555) | ((with_reducible refine gc 100 rfl ?_); refine goesL_ (some 32) rfl rfl Try.func100 (by kernel_rfl) rfl #[.agg #[.int .i64 ((rd_T34 l0 (rd x6_1 (ji6))).f0), .int .i64 ((rd_T34 l0 (rd x6_1 (ji6))).f1), .int .i64 ((rd_T34 l0 (rd x6_1 (ji6))).f2), .int .i64 ((rd_T34 l0 (rd x6_1 (ji6))).f3), .int .i64 ((rd_T34 l0 (rd x6_1 (ji6))).f4), .int .i64 ((rd_T34 l0 (rd x6_1 (ji6))).f5)]] rfl (by (try simp only [List.map_toArray, List.map_cons, List.map_nil]); first | done | (simp only [hji6]; rfl) | rfl | (simp only [List.length_drop, List.length_take]; rfl)) ?_; (with_reducible refine (larchref16_Leaf.calls _ _ _ _ _ _ true _ A13.out).mono ?_); rintro e w18 ⟨rfl, hb⟩; refine ⟨_, rfl, ?_⟩; replace HO551 := Am (Kd.R_below (kr HO551.out) hb); replace HO554 := Am (Kd.R_below (kr HO554.out) hb); replace HB := Am (below_step bq hb); (try clear hb)))
     go_roundg k1
     case measure => have := HK1.out; omega
     case rel => exact ⟨(y552), (y549), H', ⟨by have := HK1.out; omega⟩, ⟨kr HO554.out⟩, ⟨by (with_reducible repeat (first | apply Kd.R_alloc | apply Kd.R_drewN | apply Kd.R_drew)); exact Kd.R_mono HO551.out (fun _ hk => hk.2)⟩, ⟨bq⟩⟩
    ·replace c14 := Bool.eq_false_iff.mpr c14
     subst c14
     rw [if_neg nf] at H
     obtain ⟨y559, hy559⟩ : ∃ y_ : List Int, y_ = (([(rd_T34 l0 (rd x6_1 (ji6))).f5, (rd_T34 l0 (rd x6_1 (ji6))).f4] : List Int)) := ⟨_, rfl⟩
     replace H : (if y549.length + y559.length < 17592186044416 then (larchref16_Rows.l0 k1 l0 y552 (y549 ++ y559)) else (none)) = some r := by first | (rw [hy559]; with_reducible exact H) | (have H2_ := (Option.bind_some _ _).symm.trans H; rw [hy559]; with_reducible exact H2_) | (have H2_ := (Option.bind_some _ _).symm.trans H; with_reducible exact H2_) | with_reducible exact H | (rw [hy559]; exact H) | exact H
     have Ny559 := Am hy559
     clear hy559
     obtain ⟨c19, H⟩ := gd H
     have LMc19 := Am c19
     clear c19
     obtain ⟨y562, hy562⟩ : ∃ y_ : List Int, y_ = (y549 ++ y559) := ⟨_, rfl⟩
     replace H : (larchref16_Rows.l0 k1 l0 y552 y562) = some r := by first | (rw [hy562]; with_reducible exact H) | (have H2_ := (Option.bind_some _ _).symm.trans H; rw [hy562]; with_reducible exact H2_) | (have H2_ := (Option.bind_some _ _).symm.trans H; with_reducible exact H2_) | with_reducible exact H | (rw [hy562]; exact H) | exact H
     have Ny562 := Am hy562
     clear hy562
     have H' := Am H
     clear H
     obtain ⟨Ao20, co20, eo20⟩ := Kd.R_slice HO_6.out
     subst eo20
     have p548 : 0 ≤ ((ji6) : Int) := da
     have q548 : (ji6) < (x6_1.length : Int) := da
     obtain ⟨ad548, e548, hx548_0⟩ := Kd.at_int (Kd.R_reads' HO_6.out).2.2 (ji6) p548 q548
     cases e548
     replace p548 := eq_true p548
     replace q548 := eq_true q548
     have q21 : ((ji6) : Int) ≤ ((x6_1.length : Int) : Int) := da
     obtain ⟨i021, hi021, _, hsz21, _⟩ := info_parts info3
     have hcut21 := cut_to (P := Try.prog) 31 3 .i64 Try.underlying31 hi021 (some ad548) x6_1.length co20 (ji6) (da) q21 (Kd.R_reads' HO_6.out).2.1
     have hr21 := Kd.R_take (m := ((ji6) : Int).toNat) HO_6.out (by omega)
     have hy21 : y549.length = ((ji6) : Int).toNat := (by rw [Ny549.out, List.length_take]; omega)
     rw [← Ny549.out] at hr21
     rw [← hy21] at hr21 hcut21
     clear hy21 hi021 hsz21 HO_6
     have HO551 := Am hr21
     clear hr21
     replace q21 := eq_true q21
     try go_wp2_with (first | ((with_reducible refine gate_builtin (b := .append) (xs := #[.tmp 24, .tmp 26]) rfl ?_); at_builtin; refine Kd.R_append (Kd.int .i64) (w0 := w) w.heap.size rfl (.tmp 24) (.tmp 26) 31 3 (.int .i64 0) 8 rfl Try.underlying31 info3 rfl (by decide) (by omega) u5 x5_1 (rd x6_1 (ji6)) [.int .i64 (rd x6_1 (ji6))] (fun k_ => some k_ ≠ (.slice (some ad548) y549.length co20 : Value).ownBlock) (fun _ => False) rfl rfl ?aP (fun _ hk => hk.elim) ?aF ?aO ?aB ?aS ?aL ?_; (case aP => exact rfl); (case aB => exact bq); (case aF => exact (fun k_ hk => Kd.fresh' (Kd.R_lt (kr HO551.out)) k_ hk)); (case aO => exact (kr HO_5.out)); (case aS => exact (below_size bq)); (case aL => have := LMc10.out; omega); intro v553 w22 ho hb hg hat; rw [← Ny552.out] at ho; have n0_ := Am (Kd.R_after (ok := (fun _ => True)) (by (with_reducible repeat (first | apply Kd.R_alloc | apply Kd.R_drewN | apply Kd.R_drew)); exact Kd.R_mono HO551.out (fun _ hk => ⟨trivial, hk⟩)) hg hat); have n1_ := Am (hb); have n2_ := Am (ho); clear HO551; clear HB; clear HO_5; have HO551 := n0_; have HB := n1_; have HO554 := n2_; clear n0_ n1_ n2_; clear ho hb hg hat; obtain ⟨ad555, e555, hx555_0, hx555_1, hx555_2, hx555_3, hx555_4, hx555_5, p555, q555⟩ := t6d HB.out HR0.out (rd x6_1 (ji6)); cases e555) | ((with_reducible refine gc 100 rfl ?_); refine goesL_ (some 32) rfl rfl Try.func100 (by kernel_rfl) rfl #[.agg #[.int .i64 ((rd_T34 l0 (rd x6_1 (ji6))).f0), .int .i64 ((rd_T34 l0 (rd x6_1 (ji6))).f1), .int .i64 ((rd_T34 l0 (rd x6_1 (ji6))).f2), .int .i64 ((rd_T34 l0 (rd x6_1 (ji6))).f3), .int .i64 ((rd_T34 l0 (rd x6_1 (ji6))).f4), .int .i64 ((rd_T34 l0 (rd x6_1 (ji6))).f5)]] rfl (by (try simp only [List.map_toArray, List.map_cons, List.map_nil]); first | done | (simp only [hji6]; rfl) | rfl | (simp only [List.length_drop, List.length_take]; rfl)) ?_; (with_reducible refine (larchref16_Leaf.calls _ _ _ _ _ _ false _ A13.out).mono ?_); rintro e w23 ⟨rfl, hb⟩; refine ⟨_, rfl, ?_⟩; replace HO551 := Am (Kd.R_below (kr HO551.out) hb); replace HO554 := Am (Kd.R_below (kr HO554.out) hb); replace HB := Am (below_step bq hb); (try clear hb)))
     replace HO551 := Am (Kd.R_drew HO551.out)
     replace HO554 := Am (Kd.R_drew HO554.out)
     replace HB := Am (bd HB.out)
     have p557 : 0 ≤ ((rd x6_1 (ji6)) : Int) := da
     have q557 : (rd x6_1 (ji6)) < (l0.length : Int) := da
     obtain ⟨ad557, e557, hx557_0, hx557_1, hx557_2, hx557_3, hx557_4, hx557_5⟩ := at_T34 HR0.out (rd x6_1 (ji6)) p557 q557
     have hw557_5 := hx557_5
     have hw557_4 := hx557_4
     have hw557_3 := hx557_3
     have hw557_2 := hx557_2
     have hw557_1 := hx557_1
     have hw557_0 := hx557_0
     obtain rfl : ad555 = ad557 := (by injection e557)
     replace hx557_0 := (HB.out.cell (blt w _ hx557_0)).trans hx557_0
     replace hx557_1 := (HB.out.cell (blt w _ hx557_1)).trans hx557_1
     replace hx557_2 := (HB.out.cell (blt w _ hx557_2)).trans hx557_2
     replace hx557_3 := (HB.out.cell (blt w _ hx557_3)).trans hx557_3
     replace hx557_4 := (HB.out.cell (blt w _ hx557_4)).trans hx557_4
     replace hx557_5 := (HB.out.cell (blt w _ hx557_5)).trans hx557_5
     replace p557 := eq_true p557
     replace q557 := eq_true q557
     have p558 : 0 ≤ ((rd x6_1 (ji6)) : Int) := da
     have q558 : (rd x6_1 (ji6)) < (l0.length : Int) := da
     obtain ⟨ad558, e558, hx558_0, hx558_1, hx558_2, hx558_3, hx558_4, hx558_5⟩ := at_T34 HR0.out (rd x6_1 (ji6)) p558 q558
     have hw558_5 := hx558_5
     have hw558_4 := hx558_4
     have hw558_3 := hx558_3
     have hw558_2 := hx558_2
     have hw558_1 := hx558_1
     have hw558_0 := hx558_0
     obtain rfl : ad555 = ad558 := (by injection e558)
     replace hx558_0 := (HB.out.cell (blt w _ hx558_0)).trans hx558_0
     replace hx558_1 := (HB.out.cell (blt w _ hx558_1)).trans hx558_1
     replace hx558_2 := (HB.out.cell (blt w _ hx558_2)).trans hx558_2
     replace hx558_3 := (HB.out.cell (blt w _ hx558_3)).trans hx558_3
     replace hx558_4 := (HB.out.cell (blt w _ hx558_4)).trans hx558_4
     replace hx558_5 := (HB.out.cell (blt w _ hx558_5)).trans hx558_5
     replace p558 := eq_true p558
     replace q558 := eq_true q558
     refine sT 14 [] (S := fun w' => w'.cell? (ad555.add (((rd x6_1 (ji6))).toNat * 6)) = some (.int .i64 ((rd_T34 l0 (rd x6_1 (ji6))).f0)) ∧ w'.cell? ⟨(ad555.add (((rd x6_1 (ji6))).toNat * 6)).block, (ad555.add (((rd x6_1 (ji6))).toNat * 6)).off + 1, none⟩ = some (.int .i64 ((rd_T34 l0 (rd x6_1 (ji6))).f1)) ∧ w'.cell? ⟨(ad555.add (((rd x6_1 (ji6))).toNat * 6)).block, (ad555.add (((rd x6_1 (ji6))).toNat * 6)).off + 2, none⟩ = some (.int .i64 ((rd_T34 l0 (rd x6_1 (ji6))).f2)) ∧ w'.cell? ⟨(ad555.add (((rd x6_1 (ji6))).toNat * 6)).block, (ad555.add (((rd x6_1 (ji6))).toNat * 6)).off + 3, none⟩ = some (.int .i64 ((rd_T34 l0 (rd x6_1 (ji6))).f3)) ∧ w'.cell? ⟨(ad555.add (((rd x6_1 (ji6))).toNat * 6)).block, (ad555.add (((rd x6_1 (ji6))).toNat * 6)).off + 4, none⟩ = some (.int .i64 ((rd_T34 l0 (rd x6_1 (ji6))).f4)) ∧ w'.cell? ⟨(ad555.add (((rd x6_1 (ji6))).toNat * 6)).block, (ad555.add (((rd x6_1 (ji6))).toNat * 6)).off + 5, none⟩ = some (.int .i64 ((rd_T34 l0 (rd x6_1 (ji6))).f5)) ∧ w'.cell? (ad555.add (((rd x6_1 (ji6))).toNat * 6)) = some (.int .i64 ((rd_T34 l0 (rd x6_1 (ji6))).f0)) ∧ w'.cell? ⟨(ad555.add (((rd x6_1 (ji6))).toNat * 6)).block, (ad555.add (((rd x6_1 (ji6))).toNat * 6)).off + 1, none⟩ = some (.int .i64 ((rd_T34 l0 (rd x6_1 (ji6))).f1)) ∧ w'.cell? ⟨(ad555.add (((rd x6_1 (ji6))).toNat * 6)).block, (ad555.add (((rd x6_1 (ji6))).toNat * 6)).off + 2, none⟩ = some (.int .i64 ((rd_T34 l0 (rd x6_1 (ji6))).f2)) ∧ w'.cell? ⟨(ad555.add (((rd x6_1 (ji6))).toNat * 6)).block, (ad555.add (((rd x6_1 (ji6))).toNat * 6)).off + 3, none⟩ = some (.int .i64 ((rd_T34 l0 (rd x6_1 (ji6))).f3)) ∧ w'.cell? ⟨(ad555.add (((rd x6_1 (ji6))).toNat * 6)).block, (ad555.add (((rd x6_1 (ji6))).toNat * 6)).off + 4, none⟩ = some (.int .i64 ((rd_T34 l0 (rd x6_1 (ji6))).f4)) ∧ w'.cell? ⟨(ad555.add (((rd x6_1 (ji6))).toNat * 6)).block, (ad555.add (((rd x6_1 (ji6))).toNat * 6)).off + 5, none⟩ = some (.int .i64 ((rd_T34 l0 (rd x6_1 (ji6))).f5))) ⟨((HB.out.cell (blt w _ hw557_0)).trans hw557_0), ((HB.out.cell (blt w _ hw557_1)).trans hw557_1), ((HB.out.cell (blt w _ hw557_2)).trans hw557_2), ((HB.out.cell (blt w _ hw557_3)).trans hw557_3), ((HB.out.cell (blt w _ hw557_4)).trans hw557_4), ((HB.out.cell (blt w _ hw557_5)).trans hw557_5), ((HB.out.cell (blt w _ hw558_0)).trans hw558_0), ((HB.out.cell (blt w _ hw558_1)).trans hw558_1), ((HB.out.cell (blt w _ hw558_2)).trans hw558_2), ((HB.out.cell (blt w _ hw558_3)).trans hw558_3), ((HB.out.cell (blt w _ hw558_4)).trans hw558_4), ((HB.out.cell (blt w _ hw558_5)).trans hw558_5)⟩ fun hHeld => ?_; refine with_tabW larchref16_Rows.tab8 larchref16_Rows.bits8 (fun HT_ HW_ => ?_)
     generalize w23.drew = w24 at HO551 HO554 HB hx557_0 hx557_1 hx557_2 hx557_3 hx557_4 hx557_5 hx558_0 hx558_1 hx558_2 hx558_3 hx558_4 hx558_5 hHeld ⊢
     refine puT HT_.out 0 34 ?_
     refine puT HT_.out 1 35 ?_
     refine puT HT_.out 2 36 ?_
     refine puT HT_.out 3 37 ?_
     refine puT HT_.out 4 38 ?_
     refine puT HT_.out 6 40 ?_
     refine puT HT_.out 7 41 ?_
     refine puT HT_.out 8 42 ?_
     refine puT HT_.out 9 43 ?_
     refine taT HT_.out HW_.out 5 39 hHeld ?_
     refine taT HT_.out HW_.out 10 44 hHeld ?_
     refine onT HT_.out 11 45 fun K hK => ?_
     refine Kd.R_lit_step (Kd.int .i64) _ 3 ?hg (N := 45) ?hd (xs := ([(rd_T34 l0 (rd x6_1 (ji6))).f5, (rd_T34 l0 (rd x6_1 (ji6))).f4] : List Int)) (inner := [.int .i64 ((rd_T34 l0 (rd x6_1 (ji6))).f5), .int .i64 ((rd_T34 l0 (rd x6_1 (ji6))).f4)]) (ok := fun _ => True) (okp := fun _ => True) ?hr ?hp (fun _ hk => hk) trivial (Below.refl _ _) (Nat.le_refl _) (by simp) ?_; (case hd => rfl); (case hg => rfl); (case hr => first | (go_simp; done) | (go_simp; rfl)); (case hp => exact (Reps.one (show Kd.M (Kd.int .i64) _ _ _ ((rd_T34 l0 (rd x6_1 (ji6))).f5) [.int .i64 ((rd_T34 l0 (rd x6_1 (ji6))).f5)] from rfl) (Reps.one (show Kd.M (Kd.int .i64) _ _ _ ((rd_T34 l0 (rd x6_1 (ji6))).f4) [.int .i64 ((rd_T34 l0 (rd x6_1 (ji6))).f4)] from rfl) (Reps.none _ _))))
     intro v560 w25 ho26 hb hg_ hnew_
     clear hg_ hnew_
     (first | rw [← Ny559.out] at ho26 | (simp only [Int.reduceToNat] at ho26; rw [← Ny559.out] at ho26))
     have n0_ := Am (Kd.R_elder' (kr HO551.out) (Kd.R_base ho26) hb)
     have n1_ := Am (Kd.R_elder' (kr HO554.out) (Kd.R_base ho26) hb)
     have n2_ := Am (Kd.R_lower (Kd.R_new' (Kd.R_new' ho26 (Kd.R_lt (kr HO551.out))) (Kd.R_lt (kr HO554.out))) (below_size bq))
     have n3_ := Am (below_step bq hb)
     clear HO551
     clear HO554
     clear HB
     have HO551 := n0_
     have HO554 := n1_
     have HO561 := n2_
     have HB := n3_
     clear n0_ n1_ n2_ n3_
     clear hb ho26
     obtain ⟨Ao28, co28, eo28⟩ := Kd.R_slice HO561.out
     (first | subst eo28 | (injection eo28 with f1_ f2_ f3_; have f4_ := f1_.symm; have f5_ := f3_.symm; clear f1_ f2_ f3_; subst f4_; subst f5_))
     refine hK.out _ _ ⟨((HB.out.cell (blt w _ hw557_0)).trans hw557_0), ((HB.out.cell (blt w _ hw557_1)).trans hw557_1), ((HB.out.cell (blt w _ hw557_2)).trans hw557_2), ((HB.out.cell (blt w _ hw557_3)).trans hw557_3), ((HB.out.cell (blt w _ hw557_4)).trans hw557_4), ((HB.out.cell (blt w _ hw557_5)).trans hw557_5), ((HB.out.cell (blt w _ hw558_0)).trans hw558_0), ((HB.out.cell (blt w _ hw558_1)).trans hw558_1), ((HB.out.cell (blt w _ hw558_2)).trans hw558_2), ((HB.out.cell (blt w _ hw558_3)).trans hw558_3), ((HB.out.cell (blt w _ hw558_4)).trans hw558_4), ((HB.out.cell (blt w _ hw558_5)).trans hw558_5)⟩ (fun hHeld => ?_)
     clear hK K
     refine nm 45 ?_
     refine onT HT_.out 12 46 fun K hK => ?_
     refine Kd.R_append_rows_step (Kd.int .i64) (w0 := w) w.heap.size (by rfl) (.tmp 34) (.tmp 45) 31 3 (.int .i64 0) 8 rfl Try.underlying31 info3 rfl (by decide) (by omega) (.slice (some ad548) y549.length co20) y549 y559 _ _ _ (fun k_ => some k_ ≠ (v553 : Value).ownBlock ∧ some k_ ≠ (.slice Ao28 y559.length co28 : Value).ownBlock) (fun _ => False) rfl rfl ?aO ?aR (fun _ _ h => h) (fun _ h => h.elim) ?aF ?aB ?aS ?aL ?_
     (case aR => repeat (first | exact (Kd.R_reads' HO561.out).2.2 | (with_reducible refine Kd.C_alloc ?_ _) | (with_reducible refine Kd.C_drewN ?_ _) | (with_reducible refine Kd.C_drew ?_)))
     (case aB => exact bq)
     (case aF => exact (fun k_ hk => ⟨Kd.fresh' (Kd.R_lt (kr HO554.out)) k_ hk, Kd.fresh' (Kd.R_lt (kr HO561.out)) k_ hk⟩))
     (case aO => exact (by (with_reducible repeat (first | apply Kd.R_alloc | apply Kd.R_drewN | apply Kd.R_drew)); exact Kd.R_mono HO551.out (fun _ hk => ⟨hk.1.2, hk.2⟩)))
     (case aS => exact (below_size bq))
     (case aL => have := LMc19.out; omega)
     intro v563 w27 ho hb hg hat
     rw [← Ny562.out] at ho
     have n0_ := Am (Kd.R_after (ok := (fun k_ => some k_ ≠ (.slice Ao28 y559.length co28 : Value).ownBlock)) (by (with_reducible repeat (first | apply Kd.R_alloc | apply Kd.R_drewN | apply Kd.R_drew)); exact Kd.R_mono HO554.out (fun _ hk => ⟨hk.2, hk.1⟩)) hg hat)
     have n1_ := Am (Kd.R_after (ok := (fun k_ => some k_ ≠ (v553 : Value).ownBlock)) (by (with_reducible repeat (first | apply Kd.R_alloc | apply Kd.R_drewN | apply Kd.R_drew)); exact Kd.R_mono HO561.out (fun _ hk => ⟨hk.2, hk.1.2⟩)) hg hat)
     have n2_ := Am (hb)
     have n3_ := Am (ho)
     clear HO554
     clear HO561
     clear HB
     clear HO551
     have HO554 := n0_
     have HO561 := n1_
     have HB := n2_
     have HO564 := n3_
     clear n0_ n1_ n2_ n3_
     clear ho hb hg hat
     refine hK.out _ _ ⟨((HB.out.cell (blt w _ hw557_0)).trans hw557_0), ((HB.out.cell (blt w _ hw557_1)).trans hw557_1), ((HB.out.cell (blt w _ hw557_2)).trans hw557_2), ((HB.out.cell (blt w _ hw557_3)).trans hw557_3), ((HB.out.cell (blt w _ hw557_4)).trans hw557_4), ((HB.out.cell (blt w _ hw557_5)).trans hw557_5), ((HB.out.cell (blt w _ hw558_0)).trans hw558_0), ((HB.out.cell (blt w _ hw558_1)).trans hw558_1), ((HB.out.cell (blt w _ hw558_2)).trans hw558_2), ((HB.out.cell (blt w _ hw558_3)).trans hw558_3), ((HB.out.cell (blt w _ hw558_4)).trans hw558_4), ((HB.out.cell (blt w _ hw558_5)).trans hw558_5)⟩ (fun hHeld => ?_)
     clear hK K
     refine nm 46 ?_
     refine puT HT_.out 13 6 ?_
     refine done_ (done_of HT_.out (by kernel_rfl)) ?_
     try go_wp2
     go_roundg k1
     case measure => have := HK1.out; omega
     case rel => exact ⟨(y552), (y562), H', ⟨by have := HK1.out; omega⟩, ⟨by (with_reducible repeat (first | apply Kd.R_alloc | apply Kd.R_drewN | apply Kd.R_drew)); exact Kd.R_mono HO554.out (fun _ hk => hk.2)⟩, ⟨by (with_reducible repeat (first | apply Kd.R_alloc | apply Kd.R_drewN | apply Kd.R_drew)); exact Kd.R_mono HO564.out (fun _ hk => hk.1)⟩, ⟨bq⟩⟩
   ·rw [if_neg c5] at H
    have c5b0 : decide (0 < (x6_1.length : Int)) = false := decide_eq_false c5
    have c5b1 : decide (0 < x6_1.length) = false := decide_eq_false (by omega)
    clear c5
    obtain rfl := Option.some.inj H
    obtain ⟨Ao29, co29, eo29⟩ := Kd.R_slice HO_6.out
    subst eo29
    go_wp2
    go_ret
    exact ⟨_, er, by (with_reducible repeat (first | apply Kd.R_alloc | apply Kd.R_drewN | apply Kd.R_drew)); exact Kd.R_mono HO_5.out (fun _ hk => trivial), bq⟩
def larchref16_Crown.l0 : Nat → List (S34) → Int → List Int → Int → Option (Int × Bool)
 | 0, _, _, _, _ => none
 | k + 1, x0, x4, x5, x6 => if x6 < (x5.length : Int) then (if 0 ≤ x6 then (if 0 ≤ (rd x5 x6) then (if (rd x5 x6) < (x0.length : Int) then (if ((rd_T34 x0 (rd x5 x6)).f1) = 0 then (larchref16_Crown.l0 k x0 x4 x5 (wrap64 (x6 + 1))) else (some (0, false))) else (none)) else (none)) else (none)) else (if 0 ≤ x4 then (if x4 < (x0.length : Int) then (some ((rd_T34 x0 x4).f4, true)) else (none)) else (none))
def larchref16_Crown.f (k : Nat) (l0 : List (S34)) : Option (Int × Bool) := (larchref16_top.f l0 0).bind fun t565 => (if t565 = true then (if 0 < (l0.length : Int) then (if 0 ≤ ((rd_T34 l0 0).f4) then (if ((rd_T34 l0 0).f4) < (l0.length : Int) then ((larchref16_end.f ((rd_T34 l0 ((rd_T34 l0 0).f4)).f0) ((rd_T34 l0 ((rd_T34 l0 0).f4)).f1) ((rd_T34 l0 ((rd_T34 l0 0).f4)).f2) ((rd_T34 l0 ((rd_T34 l0 0).f4)).f3) ((rd_T34 l0 ((rd_T34 l0 0).f4)).f4) ((rd_T34 l0 ((rd_T34 l0 0).f4)).f5)).bind fun t568 => (if t568 = true then (some ((-1), true)) else ((larchref16_top.f l0 ((rd_T34 l0 0).f4)).bind fun t569 => (if t569 = true then ((larchref16_Rows.f k l0 ((rd_T34 l0 ((rd_T34 l0 0).f4)).f4)).bind fun t571 => (larchref16_Crown.l0 k l0 ((rd_T34 l0 0).f4) t571 0)) else (some (0, false)))))) else (none)) else (none)) else (none)) else (some (0, false)))
theorem larchref16_Crown.mono_l : ∀ k, (∀ y0 y1 y2 y3, LeO (larchref16_Crown.l0 k y0 y1 y2 y3) (larchref16_Crown.l0 (k + 1) y0 y1 y2 y3))
 | 0 => fun _ _ _ _ r h => by simp [larchref16_Crown.l0] at h
 | k + 1 => by
  have ih0 := larchref16_Crown.mono_l k
  ·intro y0 y1 y2 y3
   unfold larchref16_Crown.l0
   repeat' first
   | (with_reducible exact ih0 _ _ _ _)
   | (with_reducible exact larchref16_Rows.mono _ _ _)
   | (with_reducible exact LeO.refl _)
   | (with_reducible exact LeO.none _)
   | (with_reducible refine LeO.ite ?_ ?_)
   | (with_reducible refine LeO.bind ?_ (fun _ => ?_))
   | exact ih0 _ _ _ _
   | exact larchref16_Rows.mono _ _ _
   | exact LeO.none _
   | refine LeO.ite ?_ ?_
   | refine LeO.bind ?_ (fun _ => ?_)
theorem larchref16_Crown.mono : ∀ a0 k, LeO (larchref16_Crown.f k a0) (larchref16_Crown.f (k + 1) a0) := by
 intro a0 k
 have ih0 := larchref16_Crown.mono_l k
 unfold larchref16_Crown.f
 repeat' first
   | (with_reducible exact ih0 _ _ _ _)
   | (with_reducible exact larchref16_Rows.mono _ _ _)
   | (with_reducible exact LeO.refl _)
   | (with_reducible exact LeO.none _)
   | (with_reducible refine LeO.ite ?_ ?_)
   | (with_reducible refine LeO.bind ?_ (fun _ => ?_))
   | exact ih0 _ _ _ _
   | exact larchref16_Rows.mono _ _ _
   | exact LeO.none _
   | refine LeO.ite ?_ ?_
   | refine LeO.bind ?_ (fun _ => ?_)
theorem larchref16_Crown.calls (k : Nat) (A0 : Option Addr) (c0 : Nat) (l0 : List (S34)) (r1 : Int) (r2 : Bool) (w : World) (hr0 : Kd.C k34 w A0 l0.length l0) (hc0 : l0.length ≤ c0) (h : larchref16_Crown.f k l0 = some (r1, r2)) :
  Calls Try.prog 76 #[.slice A0 l0.length c0] w (RB w (.tuple #[.int .i64 r1, .bool r2])) := by
 have HR0 := Am hr0
 have HC0 := Am hc0
 clear hr0 hc0
 have HB := Am (Below.refl w.heap.size w)
 have H : ((larchref16_top.f l0 0).bind fun t565 => (if t565 = true then (if 0 < (l0.length : Int) then (if 0 ≤ ((rd_T34 l0 0).f4) then (if ((rd_T34 l0 0).f4) < (l0.length : Int) then ((larchref16_end.f ((rd_T34 l0 ((rd_T34 l0 0).f4)).f0) ((rd_T34 l0 ((rd_T34 l0 0).f4)).f1) ((rd_T34 l0 ((rd_T34 l0 0).f4)).f2) ((rd_T34 l0 ((rd_T34 l0 0).f4)).f3) ((rd_T34 l0 ((rd_T34 l0 0).f4)).f4) ((rd_T34 l0 ((rd_T34 l0 0).f4)).f5)).bind fun t568 => (if t568 = true then (some ((-1), true)) else ((larchref16_top.f l0 ((rd_T34 l0 0).f4)).bind fun t569 => (if t569 = true then ((larchref16_Rows.f k l0 ((rd_T34 l0 ((rd_T34 l0 0).f4)).f4)).bind fun t571 => (larchref16_Crown.l0 k l0 ((rd_T34 l0 0).f4) t571 0)) else (some (0, false)))))) else (none)) else (none)) else (none)) else (some (0, false)))) = some (r1, r2) := h
 clear h
 obtain ⟨t565, A2, H⟩ := bo H
 by_cases c3 : t565 = true
 ·subst c3
  rw [if_pos rfl] at H
  obtain ⟨c4, H⟩ := gd H
  have c4b0 := decide_eq_true c4
  have c4b1 : decide (0 < l0.length) = true := decide_eq_true (by omega)
  clear c4
  obtain ⟨c5, H⟩ := gd H
  have c5b0 := decide_eq_true c5
  clear c5
  obtain ⟨c6, H⟩ := gd H
  have c6b0 := decide_eq_true c6
  clear c6
  obtain ⟨t568, A7, H⟩ := bo H
  by_cases c8 : t568 = true
  ·subst c8
   rw [if_pos rfl] at H
   simp only [Option.some.injEq, Prod.mk.injEq] at H
   obtain ⟨rfl, rfl⟩ := H
   go_enter Try.func76, Try.ntmps76
   go_wp2_with (first | ((with_reducible refine gc 97 rfl ?_); refine gL 8 Try.func97 #[.slice A0 l0.length c0, .int .i64 0] ?_; (with_reducible refine (larchref16_top.calls _ _ l0 0 true _ ?side1 ?side2 A2.out).mono ?_); (case side1 => exact kc HR0.out); (case side2 => exact HC0.out); rintro e w9 ⟨rfl, hb⟩; refine ⟨_, rfl, ?_⟩; replace HB := Am (below_step bq hb); (try clear hb); have p566 : 0 ≤ (0 : Int) := (by omega); have q566 : 0 < (l0.length : Int) := da; obtain ⟨ad566, e566, hx566_0, hx566_1, hx566_2, hx566_3, hx566_4, hx566_5⟩ := t6 HB.out HR0.out 0 p566 q566; cases e566; have qi566 : (0 < l0.length) = True := eq_true (by omega); (try simp only [show ((0 : Int)).toNat = 0 from rfl, show 0 * 6 = 0 from rfl, Addr.add_zero'] at hx566_0 hx566_1 hx566_2 hx566_3 hx566_4 hx566_5); replace p566 := eq_true p566; replace q566 := eq_true q566; obtain ⟨ad567, e567, hx567_0, hx567_1, hx567_2, hx567_3, hx567_4, hx567_5, p567, q567⟩ := t6d HB.out HR0.out ((rd_T34 l0 0).f4); obtain rfl : ad566 = ad567 := (by injection e567)) | ((with_reducible refine gc 98 rfl ?_); refine gL 18 Try.func98 #[.agg #[.int .i64 ((rd_T34 l0 ((rd_T34 l0 0).f4)).f0), .int .i64 ((rd_T34 l0 ((rd_T34 l0 0).f4)).f1), .int .i64 ((rd_T34 l0 ((rd_T34 l0 0).f4)).f2), .int .i64 ((rd_T34 l0 ((rd_T34 l0 0).f4)).f3), .int .i64 ((rd_T34 l0 ((rd_T34 l0 0).f4)).f4), .int .i64 ((rd_T34 l0 ((rd_T34 l0 0).f4)).f5)]] ?_; (with_reducible refine (larchref16_end.calls _ _ _ _ _ _ true _ A7.out).mono ?_); rintro e w10 ⟨rfl, hb⟩; refine ⟨_, rfl, ?_⟩; replace HB := Am (below_step bq hb); (try clear hb)))
   go_ret2
   exact ⟨er, bq⟩
  ·replace c8 := Bool.eq_false_iff.mpr c8
   subst c8
   rw [if_neg nf] at H
   obtain ⟨t569, A11, H⟩ := bo H
   by_cases c12 : t569 = true
   ·subst c12
    rw [if_pos rfl] at H
    obtain ⟨t571, A13, H⟩ := bo H
    have H' := Am H
    clear H
    go_enter Try.func76, Try.ntmps76
    go_wp2_with (first | ((with_reducible refine gc 97 rfl ?_); refine gL 8 Try.func97 #[.slice A0 l0.length c0, .int .i64 0] ?_; (with_reducible refine (larchref16_top.calls _ _ l0 0 true _ ?side1 ?side2 A2.out).mono ?_); (case side1 => exact kc HR0.out); (case side2 => exact HC0.out); rintro e w14 ⟨rfl, hb⟩; refine ⟨_, rfl, ?_⟩; replace HB := Am (below_step bq hb); (try clear hb); have p566 : 0 ≤ (0 : Int) := (by omega); have q566 : 0 < (l0.length : Int) := da; obtain ⟨ad566, e566, hx566_0, hx566_1, hx566_2, hx566_3, hx566_4, hx566_5⟩ := t6 HB.out HR0.out 0 p566 q566; cases e566; have qi566 : (0 < l0.length) = True := eq_true (by omega); (try simp only [show ((0 : Int)).toNat = 0 from rfl, show 0 * 6 = 0 from rfl, Addr.add_zero'] at hx566_0 hx566_1 hx566_2 hx566_3 hx566_4 hx566_5); replace p566 := eq_true p566; replace q566 := eq_true q566; obtain ⟨ad567, e567, hx567_0, hx567_1, hx567_2, hx567_3, hx567_4, hx567_5, p567, q567⟩ := t6d HB.out HR0.out ((rd_T34 l0 0).f4); obtain rfl : ad566 = ad567 := (by injection e567)) | ((with_reducible refine gc 98 rfl ?_); refine gL 18 Try.func98 #[.agg #[.int .i64 ((rd_T34 l0 ((rd_T34 l0 0).f4)).f0), .int .i64 ((rd_T34 l0 ((rd_T34 l0 0).f4)).f1), .int .i64 ((rd_T34 l0 ((rd_T34 l0 0).f4)).f2), .int .i64 ((rd_T34 l0 ((rd_T34 l0 0).f4)).f3), .int .i64 ((rd_T34 l0 ((rd_T34 l0 0).f4)).f4), .int .i64 ((rd_T34 l0 ((rd_T34 l0 0).f4)).f5)]] ?_; (with_reducible refine (larchref16_end.calls _ _ _ _ _ _ false _ A7.out).mono ?_); rintro e w15 ⟨rfl, hb⟩; refine ⟨_, rfl, ?_⟩; replace HB := Am (below_step bq hb); (try clear hb)) | ((with_reducible refine gc 97 rfl ?_); refine gL 21 Try.func97 #[.slice (some ad566) l0.length c0, .int .i64 ((rd_T34 l0 0).f4)] ?_; (with_reducible refine (larchref16_top.calls _ _ l0 ((rd_T34 l0 0).f4) true _ ?side1 ?side2 A11.out).mono ?_); (case side1 => exact kc (Kd.C_below HR0.out HB.out)); (case side2 => exact HC0.out); rintro e w16 ⟨rfl, hb⟩; refine ⟨_, rfl, ?_⟩; replace HB := Am (below_step bq hb); (try clear hb); obtain ⟨ad570, e570, hx570_0, hx570_1, hx570_2, hx570_3, hx570_4, hx570_5, p570, q570⟩ := t6d HB.out HR0.out ((rd_T34 l0 0).f4); obtain rfl : ad566 = ad570 := (by injection e570)) | ((with_reducible refine gc 99 rfl ?_); refine gL 29 Try.func99 #[.slice (some ad566) l0.length c0, .int .i64 ((rd_T34 l0 ((rd_T34 l0 0).f4)).f4)] ?_; (with_reducible refine (larchref16_Rows.calls k _ _ l0 ((rd_T34 l0 ((rd_T34 l0 0).f4)).f4) t571 _ ?side1 ?side2 A13.out).mono ?_); (case side1 => exact kc (Kd.C_below HR0.out HB.out)); (case side2 => exact HC0.out); rintro e w17 ⟨v572, rfl, ho0, hb⟩; refine ⟨_, rfl, ?_⟩; replace HO573 := Am (Kd.R_lower ho0 (below_size bq)); replace HB := Am (below_step bq hb); (try clear hb); (try clear hb2); (try clear hk); (try clear hi); (try clear ho0)))
    go_loopg [6] k (fun kq v6 w' => ∃ (x6_1 : Int), v6 = .int .i64 x6_1 ∧ Aside0 (larchref16_Crown.l0 kq l0 ((rd_T34 l0 0).f4) t571 x6_1 = some (r1, r2)) ∧ Aside0 (kq ≤ k) ∧ Aside0 (Kd.R (Kd.int .i64) 3 w' w.heap.size (fun _ => True) v572 t571) ∧ Aside0 (Below w.heap.size w w'))
    case atStart => exact ⟨(0), (by first | rfl | (simp; done) | (simp [*]; done)), H', ⟨Nat.le_refl _⟩, ⟨kr HO573.out⟩, ⟨bq⟩⟩
    case round =>
     clear H'
     clear c4b0 c4b1 c5b0 c6b0
     try clear c1
     try clear p2
     try clear p5
     try clear q5
     try clear hx5
     try clear qi5
     try clear c7
     try clear c9
     try clear hx566_0
     try clear hx566_1
     try clear hx566_2
     try clear hx566_3
     try clear hx566_4
     try clear hx566_5
     try clear hx567_0
     try clear hx567_1
     try clear hx567_2
     try clear hx567_3
     try clear hx567_4
     try clear hx567_5
     try clear hx570_0
     try clear hx570_1
     try clear hx570_2
     try clear hx570_3
     try clear hx570_4
     try clear hx570_5
     try clear p566
     try clear p567
     try clear p570
     try clear q566
     try clear q567
     try clear q570
     obtain ⟨x6_1, rfl, HA, HK1, HO_5, HB⟩ := hrel
     cases gk with
     | zero => exact absurd HA.out (by simp [larchref16_Crown.l0])
     | succ k1 =>
      have H := HA.out
      clear HA
      simp only [larchref16_Crown.l0] at H
      by_cases c18 : x6_1 < (t571.length : Int)
      ·rw [if_pos c18] at H
       have c18b0 := decide_eq_true c18
       clear c18
       obtain ⟨c19, H⟩ := gd H
       have c19b0 := decide_eq_true c19
       clear c19
       obtain ⟨c20, H⟩ := gd H
       have c20b0 := decide_eq_true c20
       clear c20
       obtain ⟨c21, H⟩ := gd H
       have c21b0 := decide_eq_true c21
       clear c21
       by_cases c22 : ((rd_T34 l0 (rd t571 x6_1)).f1) = 0
       ·rw [if_pos c22] at H
        obtain ⟨c22b0, c22b1⟩ := eq2 c22
        clear c22
        have H' := Am H
        clear H
        obtain ⟨Ao23, co23, eo23⟩ := Kd.R_slice HO_5.out
        subst eo23
        have p574 : 0 ≤ (x6_1 : Int) := da
        have q574 : x6_1 < (t571.length : Int) := da
        obtain ⟨ad574, e574, hx574_0⟩ := Kd.at_int (Kd.R_reads' HO_5.out).2.2 x6_1 p574 q574
        cases e574
        replace p574 := eq_true p574
        replace q574 := eq_true q574
        obtain ⟨ad575, e575, hx575_0, hx575_1, hx575_2, hx575_3, hx575_4, hx575_5, p575, q575⟩ := t6d HB.out HR0.out (rd t571 x6_1)
        obtain rfl : ad566 = ad575 := (by injection e575)
        go_wp2
        go_roundg k1
        case measure => have := HK1.out; omega
        case rel => exact ⟨(wrap64 (x6_1 + 1)), (by first | rfl | (simp; done) | (simp [*]; done)), H', ⟨by have := HK1.out; omega⟩, ⟨kr HO_5.out⟩, ⟨bq⟩⟩
       ·rw [if_neg c22] at H
        obtain ⟨c22b0, c22b1⟩ := ne2 c22
        simp only [Option.some.injEq, Prod.mk.injEq] at H
        obtain ⟨rfl, rfl⟩ := H
        obtain ⟨Ao24, co24, eo24⟩ := Kd.R_slice HO_5.out
        subst eo24
        have p574 : 0 ≤ (x6_1 : Int) := da
        have q574 : x6_1 < (t571.length : Int) := da
        obtain ⟨ad574, e574, hx574_0⟩ := Kd.at_int (Kd.R_reads' HO_5.out).2.2 x6_1 p574 q574
        cases e574
        replace p574 := eq_true p574
        replace q574 := eq_true q574
        obtain ⟨ad575, e575, hx575_0, hx575_1, hx575_2, hx575_3, hx575_4, hx575_5, p575, q575⟩ := t6d HB.out HR0.out (rd t571 x6_1)
        obtain rfl : ad566 = ad575 := (by injection e575)
        go_wp2
        go_ret2
        exact ⟨er, bq⟩
      ·rw [if_neg c18] at H
       have c18b0 := decide_eq_false c18
       clear c18
       obtain ⟨c25, H⟩ := gd H
       have c25b0 := decide_eq_true c25
       clear c25
       obtain ⟨c26, H⟩ := gd H
       have c26b0 := decide_eq_true c26
       clear c26
       simp only [Option.some.injEq, Prod.mk.injEq] at H
       obtain ⟨rfl, rfl⟩ := H
       obtain ⟨Ao27, co27, eo27⟩ := Kd.R_slice HO_5.out
       subst eo27
       obtain ⟨ad576, e576, hx576_0, hx576_1, hx576_2, hx576_3, hx576_4, hx576_5, p576, q576⟩ := t6d HB.out HR0.out ((rd_T34 l0 0).f4)
       obtain rfl : ad566 = ad576 := (by injection e576)
       go_wp2
       go_ret2
       exact ⟨er, bq⟩
   ·replace c12 := Bool.eq_false_iff.mpr c12
    subst c12
    rw [if_neg nf] at H
    simp only [Option.some.injEq, Prod.mk.injEq] at H
    obtain ⟨rfl, rfl⟩ := H
    go_enter Try.func76, Try.ntmps76
    go_wp2_with (first | ((with_reducible refine gc 97 rfl ?_); refine gL 8 Try.func97 #[.slice A0 l0.length c0, .int .i64 0] ?_; (with_reducible refine (larchref16_top.calls _ _ l0 0 true _ ?side1 ?side2 A2.out).mono ?_); (case side1 => exact kc HR0.out); (case side2 => exact HC0.out); rintro e w28 ⟨rfl, hb⟩; refine ⟨_, rfl, ?_⟩; replace HB := Am (below_step bq hb); (try clear hb); have p566 : 0 ≤ (0 : Int) := (by omega); have q566 : 0 < (l0.length : Int) := da; obtain ⟨ad566, e566, hx566_0, hx566_1, hx566_2, hx566_3, hx566_4, hx566_5⟩ := t6 HB.out HR0.out 0 p566 q566; cases e566; have qi566 : (0 < l0.length) = True := eq_true (by omega); (try simp only [show ((0 : Int)).toNat = 0 from rfl, show 0 * 6 = 0 from rfl, Addr.add_zero'] at hx566_0 hx566_1 hx566_2 hx566_3 hx566_4 hx566_5); replace p566 := eq_true p566; replace q566 := eq_true q566; obtain ⟨ad567, e567, hx567_0, hx567_1, hx567_2, hx567_3, hx567_4, hx567_5, p567, q567⟩ := t6d HB.out HR0.out ((rd_T34 l0 0).f4); obtain rfl : ad566 = ad567 := (by injection e567)) | ((with_reducible refine gc 98 rfl ?_); refine gL 18 Try.func98 #[.agg #[.int .i64 ((rd_T34 l0 ((rd_T34 l0 0).f4)).f0), .int .i64 ((rd_T34 l0 ((rd_T34 l0 0).f4)).f1), .int .i64 ((rd_T34 l0 ((rd_T34 l0 0).f4)).f2), .int .i64 ((rd_T34 l0 ((rd_T34 l0 0).f4)).f3), .int .i64 ((rd_T34 l0 ((rd_T34 l0 0).f4)).f4), .int .i64 ((rd_T34 l0 ((rd_T34 l0 0).f4)).f5)]] ?_; (with_reducible refine (larchref16_end.calls _ _ _ _ _ _ false _ A7.out).mono ?_); rintro e w29 ⟨rfl, hb⟩; refine ⟨_, rfl, ?_⟩; replace HB := Am (below_step bq hb); (try clear hb)) | ((with_reducible refine gc 97 rfl ?_); refine gL 21 Try.func97 #[.slice (some ad566) l0.length c0, .int .i64 ((rd_T34 l0 0).f4)] ?_; (with_reducible refine (larchref16_top.calls _ _ l0 ((rd_T34 l0 0).f4) false _ ?side1 ?side2 A11.out).mono ?_); (case side1 => exact kc (Kd.C_below HR0.out HB.out)); (case side2 => exact HC0.out); rintro e w30 ⟨rfl, hb⟩; refine ⟨_, rfl, ?_⟩; replace HB := Am (below_step bq hb); (try clear hb)))
    go_ret2
    exact ⟨er, bq⟩
 ·replace c3 := Bool.eq_false_iff.mpr c3
  subst c3
  rw [if_neg nf] at H
  simp only [Option.some.injEq, Prod.mk.injEq] at H
  obtain ⟨rfl, rfl⟩ := H
  go_enter Try.func76, Try.ntmps76
  go_wp2_with (first | ((with_reducible refine gc 97 rfl ?_); refine gL 8 Try.func97 #[.slice A0 l0.length c0, .int .i64 0] ?_; (with_reducible refine (larchref16_top.calls _ _ l0 0 false _ ?side1 ?side2 A2.out).mono ?_); (case side1 => exact kc HR0.out); (case side2 => exact HC0.out); rintro e w31 ⟨rfl, hb⟩; refine ⟨_, rfl, ?_⟩; replace HB := Am (below_step bq hb); (try clear hb)))
  go_ret2
  exact ⟨er, bq⟩
end
end Go.Proofs.Ytgleaefhflamnaa.T
