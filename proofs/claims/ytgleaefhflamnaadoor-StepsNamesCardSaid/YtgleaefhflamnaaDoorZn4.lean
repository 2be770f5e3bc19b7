/- A part of the proof: see YtgleaefhflamnaaDoorLawStepsNames. -/
import Derived.Lib.AppendIntMem
import Derived.Test.YtgleaefhflamnaaDoorZn3
set_option linter.unusedVariables false
set_option linter.unusedSimpArgs false
set_option maxHeartbeats 32000000
set_option maxRecDepth 100000
namespace Go.Proofs.YtgleaefhflamnaaDoor.T
open Go.RowKit Go.Proofs.YtgleaefhflamnaaDoorW.PrintWords Go.Proofs.YtgleaefhflamnaaDoorW.PrintLast Go.Proofs.YtgleaefhflamnaaDoorW.PrintMore
theorem do_nocan (k : Nat) (A0 : Option Addr) (c0 : Nat) (l0 : List S34) (c : Nat) (kind : Int) (mir : Bool) (r1 : Int) (r2 : List Bool) (w : World) (hr0 : Kd.C k34 w A0 l0.length l0) (hc0 : l0.length ≤ c0)
  (h : steps_keys.f k l0 = some (r1, r2, 0)) (hm : steps_Move_is.f kind mir = some true) (hkd : 1 ≤ kind ∧ kind ≤ 12) (hp1 : (c : Int) < l0.length) (hp2 : (c : Int) < r2.length) (hbel : rdOf false r2 c = true) (ht : OkT l0) (K : Nat) (X : Tr) (hX : mkT l0 K c = some X) (rt : Bool) (hrt : ((c : Int) == r1) = rt) (hcan : canT mir rt X kind = false) :
  Calls Tryd.prog 16 #[.slice A0 l0.length c0, .int .i64 c, .agg #[.int .i64 kind, .bool mir]] w (RB w (.tuple #[.slice none 0 0, .int .i64 6])) := by
 have HCAN := Am hcan
 clear hcan
 have hu62 := Tryd.underlying32
 have hu111 := Tryd.underlying62
 have hu116 := Tryd.underlying66
 have hu34 := Tryd.underlying50
 have HR := Am hr0
 have HC := Am hc0
 have H := Am h
 have HM := Am hm
 have HT := Am ht
 have HX := Am hX
 have HKD := Am hkd
 have HBEL := Am hbel
 have hlen : l0.length ≤ 100000 := ht.len
 have hcl : c < l0.length := by omega
 clear hr0 hc0 h hm ht hX hkd hbel
 go_enter Tryd.func16, Tryd.ntmps16
 go_wp2_with (fail)
 refine (at_okt k A0 c0 l0 c kind mir r1 r2 _ (Kd.C_below HR.out ((Below.refl _ _).alloc (Nat.le_refl _) _)) HC.out H.out (fun _ => HM.out) (by omega) hp1 hp2 HBEL.out (by omega) (fun i hi h4 => ⟨(HT.out.kids i hi h4).1, (HT.out.kids i hi h4).2.1, (HT.out.kids i hi h4).2.2.1⟩)).mono ?_
 rintro e w2 ⟨wg, rfl, hbg, hfo⟩
 have hbw : Below w.heap.size w wg := ((Below.refl _ _).alloc (Nat.le_refl _) _).trans (hbg.mono (by simp))
 have hg0 : w.heap.size < wg.heap.size := by have h_ := hbg.size; simp at h_; omega
 have hbx0 : wg.cell? ⟨w.heap.size, 0, none⟩ = some (.int .i64 kind) := (hbg.cell (p := ⟨w.heap.size, 0, none⟩) (by simp)).trans (World.cell?_alloc_at _ _ _ _ rfl)
 have hbx1 : wg.cell? ⟨w.heap.size, 1, none⟩ = some (.bool mir) := (hbg.cell (p := ⟨w.heap.size, 1, none⟩) (by simp)).trans (World.cell?_alloc_at _ _ _ _ rfl)
 have HBW := Am hbw
 have HFO := Am hfo
 have HX0 := Am hbx0
 have HX1 := Am hbx1
 have HRX : Aside0 (Rep (fun k_ => SetC wg.heap.size l0 c k_ ∧ k_ < w2.heap.size) w2 (.pointer (some ⟨wg.heap.size + 2 + 2 * c, 0, none⟩)) X) := ⟨(forest_rep hfo HX.out K c X HX.out (Nat.le_refl _)).bound⟩
 have hg2 : wg.heap.size < w2.heap.size := rowIs_lt hfo.ptrs
 have hpc : w2.drew.cell? ⟨wg.heap.size, c, none⟩ = some (.pointer (some ⟨wg.heap.size + 2 + 2 * c, 0, none⟩)) := (rowIs_cell hfo.ptrs c hcl).trans (by rw [if_pos hcl]; rfl)
 have hb0 : w2.drew.cell? ⟨w.heap.size, 0, none⟩ = some (.int .i64 kind) := (hfo.bel.cell (p := ⟨w.heap.size, 0, none⟩) hg0).trans hbx0
 have hb1 : w2.drew.cell? ⟨w.heap.size, 1, none⟩ = some (.bool mir) := (hfo.bel.cell (p := ⟨w.heap.size, 1, none⟩) hg0).trans hbx1
 clear hbg hbw hfo hbx0 hbx1
 go_wp2
 have HPC := Am hpc
 have HB0 := Am hb0
 have HB1 := Am hb1
 refine sT 11 [10] (S := fun w' => w'.cell? ⟨wg.heap.size, c, none⟩ = some (.pointer (some ⟨wg.heap.size + 2 + 2 * c, 0, none⟩)) ∧ w'.cell? ⟨w.heap.size, 0, none⟩ = some (.int .i64 kind) ∧ w'.cell? ⟨w.heap.size, 1, none⟩ = some (.bool mir)) ⟨hpc, hb0, hb1⟩ fun hHeld => ?_
 refine pu 0 26 ?_
 refine pu 1 27 ?_
 refine pu 2 28 ?_
 refine pu 5 31 ?_
 refine pu 6 32 ?_
 refine pu 7 33 ?_
 refine ta 3 29 hHeld ?_
 refine ta 4 30 hHeld ?_
 refine join_ (σ := Nat × Option Addr × Option Addr × Option Addr × Option Addr × Option Addr × Option Addr × Option Addr × Option Addr) 1 #[true, true, true, true, true, true, true, true, true, true, false] (fun s => [(34, .agg #[.bool mir, .pointer (some ⟨wg.heap.size + 2 + 2 * c, 0, none⟩), .pointer s.2.1, .pointer s.2.2.1, .pointer s.2.2.2.1, .pointer s.2.2.2.2.1, .pointer s.2.2.2.2.2.1, .pointer s.2.2.2.2.2.2.1, .pointer s.2.2.2.2.2.2.2.1, .pointer s.2.2.2.2.2.2.2.2, .bool rt]), (11, .pointer (some ⟨s.1, 0, none⟩))]) (fun s w' => Below w2.heap.size w2 w' ∧ w2.heap.size ≤ s.1 ∧ w'.heap[s.1]? = some (.cells #[.bool false, .pointer none, .pointer none, .pointer none, .pointer none, .pointer none, .pointer none, .pointer none, .pointer none, .pointer none, .bool false] 62 (0, 0)) ∧ Rep (fun k_ => SetC wg.heap.size l0 c k_ ∧ k_ < w2.heap.size) w' (.pointer s.2.1) (lT mir X) ∧ Rep (fun k_ => SetC wg.heap.size l0 c k_ ∧ k_ < w2.heap.size) w' (.pointer s.2.2.1) (rT mir X) ∧ Rep (fun k_ => SetC wg.heap.size l0 c k_ ∧ k_ < w2.heap.size) w' (.pointer s.2.2.2.1) (lT mir (lT mir X)) ∧ Rep (fun k_ => SetC wg.heap.size l0 c k_ ∧ k_ < w2.heap.size) w' (.pointer s.2.2.2.2.1) (rT mir (lT mir X)) ∧ Rep (fun k_ => SetC wg.heap.size l0 c k_ ∧ k_ < w2.heap.size) w' (.pointer s.2.2.2.2.2.1) (lT mir (rT mir X)) ∧ Rep (fun k_ => SetC wg.heap.size l0 c k_ ∧ k_ < w2.heap.size) w' (.pointer s.2.2.2.2.2.2.1) (rT mir (rT mir X)) ∧ Rep (fun k_ => SetC wg.heap.size l0 c k_ ∧ k_ < w2.heap.size) w' (.pointer s.2.2.2.2.2.2.2.1) (lT mir (lT mir (rT mir X))) ∧ Rep (fun k_ => SetC wg.heap.size l0 c k_ ∧ k_ < w2.heap.size) w' (.pointer s.2.2.2.2.2.2.2.2) (rT mir (lT mir (rT mir X)))) ?_ ?_
 rotate_left
 ·intro hCont
  refine two_ (i := 8) (j := 9) (Ni := some 34) (Nj := some 11) #[true, true, true, true, true, true, true, true, true, false, false] #[true, true, true, true, true, true, true, true, false, true, false] rfl rfl rfl rfl (by kernel_rfl) (by decide) (by decide) (fun K hK => ?_) (fun K hK => ?_)
  ·skip
   refine goes_ Tryd.func24 (by kernel_rfl) rfl #[.pointer (some ⟨wg.heap.size + 2 + 2 * c, 0, none⟩), .agg #[.int .i64 kind, .bool mir], .bool rt] (by rfl) rfl rfl (by (try simp only [List.map_toArray, List.map_cons, List.map_nil]); first | done | rfl) ?_
   with_reducible refine (look_any (S := (fun k_ => SetC wg.heap.size l0 c k_ ∧ k_ < w2.heap.size)) _ X _ _ _ _ (by first | exact HRX.out.below ((Below.refl _ _).drew) | exact HRX.out.below HBA.out)).mono ?_
   rintro e wL ⟨pl, pr, pll, plr, prl, prr, pa, pb, rfl, hLb, r1, r2, r3, r4, r5, r6, r7, r8⟩
   refine ⟨_, rfl, ?_⟩
   refine hK.out _ _ ⟨(hLb.cell (blt _ _ hHeld.1)).trans hHeld.1, (hLb.cell (blt _ _ hHeld.2.1)).trans hHeld.2.1, (hLb.cell (blt _ _ hHeld.2.2)).trans hHeld.2.2⟩ (fun hHeld => ?_)
   clear hK K
   refine nm 34 ?_
   refine on 9 11 fun K hK => ?_
   refine box_step (by rfl) (N := 11) rfl (cs := #[.bool false, .pointer none, .pointer none, .pointer none, .pointer none, .pointer none, .pointer none, .pointer none, .pointer none, .pointer none, .bool false]) (t := 62) ?hr ?_
   case hr => first | (go_simp; done) | (go_simp; rfl)
   intro g hg wA hbox hbA
   have hgs : w2.heap.size ≤ g := by rw [hg]; exact hLb.size
   refine hK.out _ _ ⟨(hbA.cell (blt _ _ hHeld.1)).trans hHeld.1, (hbA.cell (blt _ _ hHeld.2.1)).trans hHeld.2.1, (hbA.cell (blt _ _ hHeld.2.2)).trans hHeld.2.2⟩ (fun hHeld => ?_)
   clear hK K
   refine nm 11 ?_
   exact norm_ (by simp only [putAll, Act.put, sI, sZ, sS]) (hCont (g, pl, pr, pll, plr, prl, prr, pa, pb) _ ⟨((Below.refl w2.heap.size w2).drew.trans (hLb.mono (Nat.le_refl _))).trans (hbA.mono hLb.size), hgs, hbox, (r1.below hLb).below hbA, (r2.below hLb).below hbA, (r3.below hLb).below hbA, (r4.below hLb).below hbA, (r5.below hLb).below hbA, (r6.below hLb).below hbA, (r7.below hLb).below hbA, (r8.below hLb).below hbA⟩)
  ·skip
   refine box_step (by rfl) (N := 11) rfl (cs := #[.bool false, .pointer none, .pointer none, .pointer none, .pointer none, .pointer none, .pointer none, .pointer none, .pointer none, .pointer none, .bool false]) (t := 62) ?hr ?_
   case hr => first | (go_simp; done) | (go_simp; rfl)
   intro g hg wA hbox hbA
   have HBA := Am (((Below.refl w2.heap.size w2).drew).trans (hbA.mono (Nat.le_refl _)))
   have hgs : w2.heap.size ≤ g := by rw [hg]; exact Nat.le_refl _
   refine hK.out _ _ ⟨(hbA.cell (blt _ _ hHeld.1)).trans hHeld.1, (hbA.cell (blt _ _ hHeld.2.1)).trans hHeld.2.1, (hbA.cell (blt _ _ hHeld.2.2)).trans hHeld.2.2⟩ (fun hHeld => ?_)
   clear hK K
   refine nm 11 ?_
   refine on 8 34 fun K hK => ?_
   refine goes_ Tryd.func24 (by kernel_rfl) rfl #[.pointer (some ⟨wg.heap.size + 2 + 2 * c, 0, none⟩), .agg #[.int .i64 kind, .bool mir], .bool rt] (by rfl) rfl rfl (by (try simp only [List.map_toArray, List.map_cons, List.map_nil]); first | done | rfl) ?_
   with_reducible refine (look_any (S := (fun k_ => SetC wg.heap.size l0 c k_ ∧ k_ < w2.heap.size)) _ X _ _ _ _ (by first | exact HRX.out.below ((Below.refl _ _).drew) | exact HRX.out.below HBA.out)).mono ?_
   rintro e wL ⟨pl, pr, pll, plr, prl, prr, pa, pb, rfl, hLb, r1, r2, r3, r4, r5, r6, r7, r8⟩
   refine ⟨_, rfl, ?_⟩
   refine hK.out _ _ ⟨(hLb.cell (blt _ _ hHeld.1)).trans hHeld.1, (hLb.cell (blt _ _ hHeld.2.1)).trans hHeld.2.1, (hLb.cell (blt _ _ hHeld.2.2)).trans hHeld.2.2⟩ (fun hHeld => ?_)
   clear hK K
   refine nm 34 ?_
   exact norm_ (by simp only [putAll, Act.put, sI, sZ, sS]) (hCont (g, pl, pr, pll, plr, prl, prr, pa, pb) _ ⟨HBA.out.trans (hLb.mono hbA.size), hgs, (hLb.block _ (Array.getElem?_eq_some_iff.1 hbox).1).trans hbox, r1.below hLb, r2.below hLb, r3.below hLb, r4.below hLb, r5.below hLb, r6.below hLb, r7.below hLb, r8.below hLb⟩)
 rintro ⟨g, pl, pr, pll, plr, prl, prr, pa, pb⟩ w3 ⟨hF1, hF2, hF3, y1, y2, y3, y4, y5, y6, y7, y8⟩
 replace hF2 : w2.heap.size ≤ g := hF2
 replace hF3 : w3.heap[g]? = some (.cells #[.bool false, .pointer none, .pointer none, .pointer none, .pointer none, .pointer none, .pointer none, .pointer none, .pointer none, .pointer none, .bool false] 62 (0, 0)) := hF3
 have HY1 : Aside0 (Rep (fun k_ => SetC wg.heap.size l0 c k_ ∧ k_ < w2.heap.size) w3 (.pointer pl) (lT mir X)) := ⟨y1⟩
 have HY2 : Aside0 (Rep (fun k_ => SetC wg.heap.size l0 c k_ ∧ k_ < w2.heap.size) w3 (.pointer pr) (rT mir X)) := ⟨y2⟩
 have HY3 : Aside0 (Rep (fun k_ => SetC wg.heap.size l0 c k_ ∧ k_ < w2.heap.size) w3 (.pointer pll) (lT mir (lT mir X))) := ⟨y3⟩
 have HY4 : Aside0 (Rep (fun k_ => SetC wg.heap.size l0 c k_ ∧ k_ < w2.heap.size) w3 (.pointer plr) (rT mir (lT mir X))) := ⟨y4⟩
 have HY5 : Aside0 (Rep (fun k_ => SetC wg.heap.size l0 c k_ ∧ k_ < w2.heap.size) w3 (.pointer prl) (lT mir (rT mir X))) := ⟨y5⟩
 have HY6 : Aside0 (Rep (fun k_ => SetC wg.heap.size l0 c k_ ∧ k_ < w2.heap.size) w3 (.pointer prr) (rT mir (rT mir X))) := ⟨y6⟩
 have HY7 : Aside0 (Rep (fun k_ => SetC wg.heap.size l0 c k_ ∧ k_ < w2.heap.size) w3 (.pointer pa) (lT mir (lT mir (rT mir X)))) := ⟨y7⟩
 have HY8 : Aside0 (Rep (fun k_ => SetC wg.heap.size l0 c k_ ∧ k_ < w2.heap.size) w3 (.pointer pb) (rT mir (lT mir (rT mir X)))) := ⟨y8⟩
 have hHeld : w3.cell? ⟨wg.heap.size, c, none⟩ = some (.pointer (some ⟨wg.heap.size + 2 + 2 * c, 0, none⟩)) ∧ w3.cell? ⟨w.heap.size, 0, none⟩ = some (.int .i64 kind) ∧ w3.cell? ⟨w.heap.size, 1, none⟩ = some (.bool mir) := ⟨(hF1.cell (p := ⟨wg.heap.size, c, none⟩) hg2).trans HPC.out, (hF1.cell (p := ⟨w.heap.size, 0, none⟩) (Nat.lt_trans hg0 hg2)).trans HB0.out, (hF1.cell (p := ⟨w.heap.size, 1, none⟩) (Nat.lt_trans hg0 hg2)).trans HB1.out⟩
 obtain ⟨hz0, hz1, hz2, hz3, hz4, hz5, hz6, hz7, hz8, hz9, hz10⟩ := vc11 hF3
 have hfz0 := frz_of hF3 0
 have hfz1 := frz_of hF3 1
 have hfz2 := frz_of hF3 2
 have hfz3 := frz_of hF3 3
 have hfz4 := frz_of hF3 4
 have hfz5 := frz_of hF3 5
 have hfz6 := frz_of hF3 6
 have hfz7 := frz_of hF3 7
 have hfz8 := frz_of hF3 8
 have hfz9 := frz_of hF3 9
 have hfz10 := frz_of hF3 10
 have HF1 := Am hF1
 have HF3 := Am hF3
 clear hF1 hF3 y1 y2 y3 y4 y5 y6 y7 y8
 refine norm_ (a' := ?_) ?_ ?_
 rotate_left
 ·simp only [putAll, Act.put, sI, sZ, sS]
  rfl
 refine last_ (i := 10) (N := none) #[true, true, true, true, true, true, true, true, true, true, true] rfl rfl (by kernel_rfl) (by decide) (fun K hK => ?_)
 refine skip_ (w1 := ?_) (by rfl) rfl ?_ ?_
 rotate_left
 ·go_simp
  rfl
 refine hK.out _ _ ?_
 clear hK K
 refine done_ (by kernel_rfl) ?_
 try clear hHeld
 have hV := put11 HF3.out (.bool mir) (.pointer (some ⟨wg.heap.size + 2 + 2 * c, 0, none⟩)) (.pointer pl) (.pointer pr) (.pointer pll) (.pointer plr) (.pointer prl) (.pointer prr) (.pointer pa) (.pointer pb) (.bool rt)
 have hB := below11 HF1.out hF2 (.bool mir) (.pointer (some ⟨wg.heap.size + 2 + 2 * c, 0, none⟩)) (.pointer pl) (.pointer pr) (.pointer pll) (.pointer plr) (.pointer prl) (.pointer prr) (.pointer pa) (.pointer pb) (.bool rt)
 have hK : ∀ k_, k_ < w2.heap.size → (((((((((((w3.setCell ⟨g, 0, none⟩ (.bool mir)).setCell ⟨g, 1, none⟩ (.pointer (some ⟨wg.heap.size + 2 + 2 * c, 0, none⟩))).setCell ⟨g, 2, none⟩ (.pointer pl)).setCell ⟨g, 3, none⟩ (.pointer pr)).setCell ⟨g, 4, none⟩ (.pointer pll)).setCell ⟨g, 5, none⟩ (.pointer plr)).setCell ⟨g, 6, none⟩ (.pointer prl)).setCell ⟨g, 7, none⟩ (.pointer prr)).setCell ⟨g, 8, none⟩ (.pointer pa)).setCell ⟨g, 9, none⟩ (.pointer pb)).setCell ⟨g, 10, none⟩ (.bool rt)).heap[k_]? = w3.heap[k_]? := fun k_ hk_ => setc11 (by omega) (.bool mir) (.pointer (some ⟨wg.heap.size + 2 + 2 * c, 0, none⟩)) (.pointer pl) (.pointer pr) (.pointer pll) (.pointer plr) (.pointer prl) (.pointer prr) (.pointer pa) (.pointer pb) (.bool rt)
 clear hz0 hfz0 hz1 hfz1 hz2 hfz2 hz3 hfz3 hz4 hfz4 hz5 hfz5 hz6 hfz6 hz7 hfz7 hz8 hfz8 hz9 hfz9 hz10 hfz10 HF3 HF1
 generalize (((((((((((w3.setCell ⟨g, 0, none⟩ (.bool mir)).setCell ⟨g, 1, none⟩ (.pointer (some ⟨wg.heap.size + 2 + 2 * c, 0, none⟩))).setCell ⟨g, 2, none⟩ (.pointer pl)).setCell ⟨g, 3, none⟩ (.pointer pr)).setCell ⟨g, 4, none⟩ (.pointer pll)).setCell ⟨g, 5, none⟩ (.pointer plr)).setCell ⟨g, 6, none⟩ (.pointer prl)).setCell ⟨g, 7, none⟩ (.pointer prr)).setCell ⟨g, 8, none⟩ (.pointer pa)).setCell ⟨g, 9, none⟩ (.pointer pb)).setCell ⟨g, 10, none⟩ (.bool rt)) = w4 at hV hB hK ⊢
 have HRpl := Am (HY1.out.keptS (w' := w4) (fun k_ hk_ _ => hK k_ hk_.2))
 have HRpr := Am (HY2.out.keptS (w' := w4) (fun k_ hk_ _ => hK k_ hk_.2))
 have HRpll := Am (HY3.out.keptS (w' := w4) (fun k_ hk_ _ => hK k_ hk_.2))
 have HRplr := Am (HY4.out.keptS (w' := w4) (fun k_ hk_ _ => hK k_ hk_.2))
 have HRprl := Am (HY5.out.keptS (w' := w4) (fun k_ hk_ _ => hK k_ hk_.2))
 have HRprr := Am (HY6.out.keptS (w' := w4) (fun k_ hk_ _ => hK k_ hk_.2))
 have HRpa := Am (HY7.out.keptS (w' := w4) (fun k_ hk_ _ => hK k_ hk_.2))
 have HRpb := Am (HY8.out.keptS (w' := w4) (fun k_ hk_ _ => hK k_ hk_.2))
 have HRp := Am (HRX.out.below hB)
 have HV := Am hV
 have HB := Am hB
 clear HY1 HY2 HY3 HY4 HY5 HY6 HY7 HY8 hK
 have hk0 : w4.cell? ⟨w.heap.size, 0, none⟩ = some (.int .i64 kind) := (hB.cell (p := ⟨w.heap.size, 0, none⟩) (Nat.lt_trans hg0 hg2)).trans HB0.out
 have HK0 := Am hk0
 obtain ⟨hv0, hv1, hv2, hv3, hv4, hv5, hv6, hv7, hv8, hv9, hv10⟩ := vc11 hV
 clear hV hB HPC HB0 HB1
 go_wp2_with (fail)
 refine (can_any mir rt (some ⟨wg.heap.size + 2 + 2 * c, 0, none⟩) pl pr pll plr prl prr pa pb X _ HRp HRpl HRpr HRpll HRplr HRprl HRprr HRpa HRpb kind HKD.out).mono ?_
 rw [HCAN.out]
 rintro e w5 ⟨rfl, h5⟩
 have HB5 := Am (HB.out.trans (h5.mono HB.out.size))
 have H5 := Am h5
 have HV5 := Am ((h5.block _ (Array.getElem?_eq_some_iff.1 HV.out).1).trans HV.out)
 have hk5 := (h5.cell (blt _ _ HK0.out)).trans HK0.out
 clear h5 hv0 hv1 hv2 hv3 hv4 hv5 hv6 hv7 hv8 hv9 hv10 hk0 HV
 obtain ⟨hw0, hw1, hw2, hw3, hw4, hw5, hw6, hw7, hw8, hw9, hw10⟩ := vc11 HV5.out
 go_wp2
 go_ret2
 exact ⟨rfl, HBW.out.trans ((HFO.out.bel.trans (HB5.out.mono HFO.out.bel.size)).mono HBW.out.size)⟩
theorem do_big (k : Nat) (A0 : Option Addr) (c0 : Nat) (l0 : List S34) (c : Nat) (kind : Int) (mir : Bool) (r1 : Int) (r2 : List Bool) (w : World) (hr0 : Kd.C k34 w A0 l0.length l0) (hc0 : l0.length ≤ c0)
  (h : steps_keys.f k l0 = some (r1, r2, 0)) (hm : steps_Move_is.f kind mir = some true) (hkd : 1 ≤ kind ∧ kind ≤ 12) (hp1 : (c : Int) < l0.length) (hp2 : (c : Int) < r2.length) (hbel : rdOf false r2 c = true) (ht : OkT l0) (K : Nat) (X : Tr) (hX : mkT l0 K c = some X) (rt : Bool) (hrt : ((c : Int) == r1) = rt) (hrf : rt = false) (hcan : canT mir rt X kind = true) (hbig : 1000000 < wt (doT mir X kind)) :
  Calls Tryd.prog 16 #[.slice A0 l0.length c0, .int .i64 c, .agg #[.int .i64 kind, .bool mir]] w (RB w (.tuple #[.slice none 0 0, .int .i64 2])) := by
 have HCAN := Am hcan
 clear hcan
 have hxn : X ≠ .nil := by rintro rfl; exact mkT_nil hX
 have HXN := Am hxn
 clear hxn
 have HRF := Am hrf
 clear hrf
 have hu62 := Tryd.underlying32
 have hu111 := Tryd.underlying62
 have hu116 := Tryd.underlying66
 have hu34 := Tryd.underlying50
 have HR := Am hr0
 have HC := Am hc0
 have H := Am h
 have HM := Am hm
 have HT := Am ht
 have HX := Am hX
 have HKD := Am hkd
 have HBEL := Am hbel
 have hlen : l0.length ≤ 100000 := ht.len
 have hcl : c < l0.length := by omega
 clear hr0 hc0 h hm ht hX hkd hbel
 go_enter Tryd.func16, Tryd.ntmps16
 go_wp2_with (fail)
 refine (at_okt k A0 c0 l0 c kind mir r1 r2 _ (Kd.C_below HR.out ((Below.refl _ _).alloc (Nat.le_refl _) _)) HC.out H.out (fun _ => HM.out) (by omega) hp1 hp2 HBEL.out (by omega) (fun i hi h4 => ⟨(HT.out.kids i hi h4).1, (HT.out.kids i hi h4).2.1, (HT.out.kids i hi h4).2.2.1⟩)).mono ?_
 rintro e w2 ⟨wg, rfl, hbg, hfo⟩
 have hbw : Below w.heap.size w wg := ((Below.refl _ _).alloc (Nat.le_refl _) _).trans (hbg.mono (by simp))
 have hg0 : w.heap.size < wg.heap.size := by have h_ := hbg.size; simp at h_; omega
 have hbx0 : wg.cell? ⟨w.heap.size, 0, none⟩ = some (.int .i64 kind) := (hbg.cell (p := ⟨w.heap.size, 0, none⟩) (by simp)).trans (World.cell?_alloc_at _ _ _ _ rfl)
 have hbx1 : wg.cell? ⟨w.heap.size, 1, none⟩ = some (.bool mir) := (hbg.cell (p := ⟨w.heap.size, 1, none⟩) (by simp)).trans (World.cell?_alloc_at _ _ _ _ rfl)
 have HBW := Am hbw
 have HFO := Am hfo
 have HX0 := Am hbx0
 have HX1 := Am hbx1
 have HRX : Aside0 (Rep (fun k_ => SetC wg.heap.size l0 c k_ ∧ k_ < w2.heap.size) w2 (.pointer (some ⟨wg.heap.size + 2 + 2 * c, 0, none⟩)) X) := ⟨(forest_rep hfo HX.out K c X HX.out (Nat.le_refl _)).bound⟩
 have hg2 : wg.heap.size < w2.heap.size := rowIs_lt hfo.ptrs
 have hpc : w2.drew.cell? ⟨wg.heap.size, c, none⟩ = some (.pointer (some ⟨wg.heap.size + 2 + 2 * c, 0, none⟩)) := (rowIs_cell hfo.ptrs c hcl).trans (by rw [if_pos hcl]; rfl)
 have hb0 : w2.drew.cell? ⟨w.heap.size, 0, none⟩ = some (.int .i64 kind) := (hfo.bel.cell (p := ⟨w.heap.size, 0, none⟩) hg0).trans hbx0
 have hb1 : w2.drew.cell? ⟨w.heap.size, 1, none⟩ = some (.bool mir) := (hfo.bel.cell (p := ⟨w.heap.size, 1, none⟩) hg0).trans hbx1
 clear hbg hbw hfo hbx0 hbx1
 go_wp2
 have HPC := Am hpc
 have HB0 := Am hb0
 have HB1 := Am hb1
 refine sT 11 [10] (S := fun w' => w'.cell? ⟨wg.heap.size, c, none⟩ = some (.pointer (some ⟨wg.heap.size + 2 + 2 * c, 0, none⟩)) ∧ w'.cell? ⟨w.heap.size, 0, none⟩ = some (.int .i64 kind) ∧ w'.cell? ⟨w.heap.size, 1, none⟩ = some (.bool mir)) ⟨hpc, hb0, hb1⟩ fun hHeld => ?_
 refine pu 0 26 ?_
 refine pu 1 27 ?_
 refine pu 2 28 ?_
 refine pu 5 31 ?_
 refine pu 6 32 ?_
 refine pu 7 33 ?_
 refine ta 3 29 hHeld ?_
 refine ta 4 30 hHeld ?_
 refine join_ (σ := Nat × Option Addr × Option Addr × Option Addr × Option Addr × Option Addr × Option Addr × Option Addr × Option Addr) 1 #[true, true, true, true, true, true, true, true, true, true, false] (fun s => [(34, .agg #[.bool mir, .pointer (some ⟨wg.heap.size + 2 + 2 * c, 0, none⟩), .pointer s.2.1, .pointer s.2.2.1, .pointer s.2.2.2.1, .pointer s.2.2.2.2.1, .pointer s.2.2.2.2.2.1, .pointer s.2.2.2.2.2.2.1, .pointer s.2.2.2.2.2.2.2.1, .pointer s.2.2.2.2.2.2.2.2, .bool rt]), (11, .pointer (some ⟨s.1, 0, none⟩))]) (fun s w' => Below w2.heap.size w2 w' ∧ w2.heap.size ≤ s.1 ∧ w'.heap[s.1]? = some (.cells #[.bool false, .pointer none, .pointer none, .pointer none, .pointer none, .pointer none, .pointer none, .pointer none, .pointer none, .pointer none, .bool false] 62 (0, 0)) ∧ Rep (fun k_ => SetC wg.heap.size l0 c k_ ∧ k_ < w2.heap.size) w' (.pointer s.2.1) (lT mir X) ∧ Rep (fun k_ => SetC wg.heap.size l0 c k_ ∧ k_ < w2.heap.size) w' (.pointer s.2.2.1) (rT mir X) ∧ Rep (fun k_ => SetC wg.heap.size l0 c k_ ∧ k_ < w2.heap.size) w' (.pointer s.2.2.2.1) (lT mir (lT mir X)) ∧ Rep (fun k_ => SetC wg.heap.size l0 c k_ ∧ k_ < w2.heap.size) w' (.pointer s.2.2.2.2.1) (rT mir (lT mir X)) ∧ Rep (fun k_ => SetC wg.heap.size l0 c k_ ∧ k_ < w2.heap.size) w' (.pointer s.2.2.2.2.2.1) (lT mir (rT mir X)) ∧ Rep (fun k_ => SetC wg.heap.size l0 c k_ ∧ k_ < w2.heap.size) w' (.pointer s.2.2.2.2.2.2.1) (rT mir (rT mir X)) ∧ Rep (fun k_ => SetC wg.heap.size l0 c k_ ∧ k_ < w2.heap.size) w' (.pointer s.2.2.2.2.2.2.2.1) (lT mir (lT mir (rT mir X))) ∧ Rep (fun k_ => SetC wg.heap.size l0 c k_ ∧ k_ < w2.heap.size) w' (.pointer s.2.2.2.2.2.2.2.2) (rT mir (lT mir (rT mir X)))) ?_ ?_
 rotate_left
 ·intro hCont
  refine two_ (i := 8) (j := 9) (Ni := some 34) (Nj := some 11) #[true, true, true, true, true, true, true, true, true, false, false] #[true, true, true, true, true, true, true, true, false, true, false] rfl rfl rfl rfl (by kernel_rfl) (by decide) (by decide) (fun K hK => ?_) (fun K hK => ?_)
  ·skip
   refine goes_ Tryd.func24 (by kernel_rfl) rfl #[.pointer (some ⟨wg.heap.size + 2 + 2 * c, 0, none⟩), .agg #[.int .i64 kind, .bool mir], .bool rt] (by rfl) rfl rfl (by (try simp only [List.map_toArray, List.map_cons, List.map_nil]); first | done | rfl) ?_
   with_reducible refine (look_any (S := (fun k_ => SetC wg.heap.size l0 c k_ ∧ k_ < w2.heap.size)) _ X _ _ _ _ (by first | exact HRX.out.below ((Below.refl _ _).drew) | exact HRX.out.below HBA.out)).mono ?_
   rintro e wL ⟨pl, pr, pll, plr, prl, prr, pa, pb, rfl, hLb, r1, r2, r3, r4, r5, r6, r7, r8⟩
   refine ⟨_, rfl, ?_⟩
   refine hK.out _ _ ⟨(hLb.cell (blt _ _ hHeld.1)).trans hHeld.1, (hLb.cell (blt _ _ hHeld.2.1)).trans hHeld.2.1, (hLb.cell (blt _ _ hHeld.2.2)).trans hHeld.2.2⟩ (fun hHeld => ?_)
   clear hK K
   refine nm 34 ?_
   refine on 9 11 fun K hK => ?_
   refine box_step (by rfl) (N := 11) rfl (cs := #[.bool false, .pointer none, .pointer none, .pointer none, .pointer none, .pointer none, .pointer none, .pointer none, .pointer none, .pointer none, .bool false]) (t := 62) ?hr ?_
   case hr => first | (go_simp; done) | (go_simp; rfl)
   intro g hg wA hbox hbA
   have hgs : w2.heap.size ≤ g := by rw [hg]; exact hLb.size
   refine hK.out _ _ ⟨(hbA.cell (blt _ _ hHeld.1)).trans hHeld.1, (hbA.cell (blt _ _ hHeld.2.1)).trans hHeld.2.1, (hbA.cell (blt _ _ hHeld.2.2)).trans hHeld.2.2⟩ (fun hHeld => ?_)
   clear hK K
   refine nm 11 ?_
   exact norm_ (by simp only [putAll, Act.put, sI, sZ, sS]) (hCont (g, pl, pr, pll, plr, prl, prr, pa, pb) _ ⟨((Below.refl w2.heap.size w2).drew.trans (hLb.mono (Nat.le_refl _))).trans (hbA.mono hLb.size), hgs, hbox, (r1.below hLb).below hbA, (r2.below hLb).below hbA, (r3.below hLb).below hbA, (r4.below hLb).below hbA, (r5.below hLb).below hbA, (r6.below hLb).below hbA, (r7.below hLb).below hbA, (r8.below hLb).below hbA⟩)
  ·skip
   refine box_step (by rfl) (N := 11) rfl (cs := #[.bool false, .pointer none, .pointer none, .pointer none, .pointer none, .pointer none, .pointer none, .pointer none, .pointer none, .pointer none, .bool false]) (t := 62) ?hr ?_
   case hr => first | (go_simp; done) | (go_simp; rfl)
   intro g hg wA hbox hbA
   have HBA := Am (((Below.refl w2.heap.size w2).drew).trans (hbA.mono (Nat.le_refl _)))
   have hgs : w2.heap.size ≤ g := by rw [hg]; exact Nat.le_refl _
   refine hK.out _ _ ⟨(hbA.cell (blt _ _ hHeld.1)).trans hHeld.1, (hbA.cell (blt _ _ hHeld.2.1)).trans hHeld.2.1, (hbA.cell (blt _ _ hHeld.2.2)).trans hHeld.2.2⟩ (fun hHeld => ?_)
   clear hK K
   refine nm 11 ?_
   refine on 8 34 fun K hK => ?_
   refine goes_ Tryd.func24 (by kernel_rfl) rfl #[.pointer (some ⟨wg.heap.size + 2 + 2 * c, 0, none⟩), .agg #[.int .i64 kind, .bool mir], .bool rt] (by rfl) rfl rfl (by (try simp only [List.map_toArray, List.map_cons, List.map_nil]); first | done | rfl) ?_
   with_reducible refine (look_any (S := (fun k_ => SetC wg.heap.size l0 c k_ ∧ k_ < w2.heap.size)) _ X _ _ _ _ (by first | exact HRX.out.below ((Below.refl _ _).drew) | exact HRX.out.below HBA.out)).mono ?_
   rintro e wL ⟨pl, pr, pll, plr, prl, prr, pa, pb, rfl, hLb, r1, r2, r3, r4, r5, r6, r7, r8⟩
   refine ⟨_, rfl, ?_⟩
   refine hK.out _ _ ⟨(hLb.cell (blt _ _ hHeld.1)).trans hHeld.1, (hLb.cell (blt _ _ hHeld.2.1)).trans hHeld.2.1, (hLb.cell (blt _ _ hHeld.2.2)).trans hHeld.2.2⟩ (fun hHeld => ?_)
   clear hK K
   refine nm 34 ?_
   exact norm_ (by simp only [putAll, Act.put, sI, sZ, sS]) (hCont (g, pl, pr, pll, plr, prl, prr, pa, pb) _ ⟨HBA.out.trans (hLb.mono hbA.size), hgs, (hLb.block _ (Array.getElem?_eq_some_iff.1 hbox).1).trans hbox, r1.below hLb, r2.below hLb, r3.below hLb, r4.below hLb, r5.below hLb, r6.below hLb, r7.below hLb, r8.below hLb⟩)
 rintro ⟨g, pl, pr, pll, plr, prl, prr, pa, pb⟩ w3 ⟨hF1, hF2, hF3, y1, y2, y3, y4, y5, y6, y7, y8⟩
 replace hF2 : w2.heap.size ≤ g := hF2
 replace hF3 : w3.heap[g]? = some (.cells #[.bool false, .pointer none, .pointer none, .pointer none, .pointer none, .pointer none, .pointer none, .pointer none, .pointer none, .pointer none, .bool false] 62 (0, 0)) := hF3
 have HY1 : Aside0 (Rep (fun k_ => SetC wg.heap.size l0 c k_ ∧ k_ < w2.heap.size) w3 (.pointer pl) (lT mir X)) := ⟨y1⟩
 have HY2 : Aside0 (Rep (fun k_ => SetC wg.heap.size l0 c k_ ∧ k_ < w2.heap.size) w3 (.pointer pr) (rT mir X)) := ⟨y2⟩
 have HY3 : Aside0 (Rep (fun k_ => SetC wg.heap.size l0 c k_ ∧ k_ < w2.heap.size) w3 (.pointer pll) (lT mir (lT mir X))) := ⟨y3⟩
 have HY4 : Aside0 (Rep (fun k_ => SetC wg.heap.size l0 c k_ ∧ k_ < w2.heap.size) w3 (.pointer plr) (rT mir (lT mir X))) := ⟨y4⟩
 have HY5 : Aside0 (Rep (fun k_ => SetC wg.heap.size l0 c k_ ∧ k_ < w2.heap.size) w3 (.pointer prl) (lT mir (rT mir X))) := ⟨y5⟩
 have HY6 : Aside0 (Rep (fun k_ => SetC wg.heap.size l0 c k_ ∧ k_ < w2.heap.size) w3 (.pointer prr) (rT mir (rT mir X))) := ⟨y6⟩
 have HY7 : Aside0 (Rep (fun k_ => SetC wg.heap.size l0 c k_ ∧ k_ < w2.heap.size) w3 (.pointer pa) (lT mir (lT mir (rT mir X)))) := ⟨y7⟩
 have HY8 : Aside0 (Rep (fun k_ => SetC wg.heap.size l0 c k_ ∧ k_ < w2.heap.size) w3 (.pointer pb) (rT mir (lT mir (rT mir X)))) := ⟨y8⟩
 have hHeld : w3.cell? ⟨wg.heap.size, c, none⟩ = some (.pointer (some ⟨wg.heap.size + 2 + 2 * c, 0, none⟩)) ∧ w3.cell? ⟨w.heap.size, 0, none⟩ = some (.int .i64 kind) ∧ w3.cell? ⟨w.heap.size, 1, none⟩ = some (.bool mir) := ⟨(hF1.cell (p := ⟨wg.heap.size, c, none⟩) hg2).trans HPC.out, (hF1.cell (p := ⟨w.heap.size, 0, none⟩) (Nat.lt_trans hg0 hg2)).trans HB0.out, (hF1.cell (p := ⟨w.heap.size, 1, none⟩) (Nat.lt_trans hg0 hg2)).trans HB1.out⟩
 obtain ⟨hz0, hz1, hz2, hz3, hz4, hz5, hz6, hz7, hz8, hz9, hz10⟩ := vc11 hF3
 have hfz0 := frz_of hF3 0
 have hfz1 := frz_of hF3 1
 have hfz2 := frz_of hF3 2
 have hfz3 := frz_of hF3 3
 have hfz4 := frz_of hF3 4
 have hfz5 := frz_of hF3 5
 have hfz6 := frz_of hF3 6
 have hfz7 := frz_of hF3 7
 have hfz8 := frz_of hF3 8
 have hfz9 := frz_of hF3 9
 have hfz10 := frz_of hF3 10
 have HF1 := Am hF1
 have HF3 := Am hF3
 clear hF1 hF3 y1 y2 y3 y4 y5 y6 y7 y8
 refine norm_ (a' := ?_) ?_ ?_
 rotate_left
 ·simp only [putAll, Act.put, sI, sZ, sS]
  rfl
 refine last_ (i := 10) (N := none) #[true, true, true, true, true, true, true, true, true, true, true] rfl rfl (by kernel_rfl) (by decide) (fun K hK => ?_)
 refine skip_ (w1 := ?_) (by rfl) rfl ?_ ?_
 rotate_left
 ·go_simp
  rfl
 refine hK.out _ _ ?_
 clear hK K
 refine done_ (by kernel_rfl) ?_
 try clear hHeld
 have hV := put11 HF3.out (.bool mir) (.pointer (some ⟨wg.heap.size + 2 + 2 * c, 0, none⟩)) (.pointer pl) (.pointer pr) (.pointer pll) (.pointer plr) (.pointer prl) (.pointer prr) (.pointer pa) (.pointer pb) (.bool rt)
 have hB := below11 HF1.out hF2 (.bool mir) (.pointer (some ⟨wg.heap.size + 2 + 2 * c, 0, none⟩)) (.pointer pl) (.pointer pr) (.pointer pll) (.pointer plr) (.pointer prl) (.pointer prr) (.pointer pa) (.pointer pb) (.bool rt)
 have hK : ∀ k_, k_ < w2.heap.size → (((((((((((w3.setCell ⟨g, 0, none⟩ (.bool mir)).setCell ⟨g, 1, none⟩ (.pointer (some ⟨wg.heap.size + 2 + 2 * c, 0, none⟩))).setCell ⟨g, 2, none⟩ (.pointer pl)).setCell ⟨g, 3, none⟩ (.pointer pr)).setCell ⟨g, 4, none⟩ (.pointer pll)).setCell ⟨g, 5, none⟩ (.pointer plr)).setCell ⟨g, 6, none⟩ (.pointer prl)).setCell ⟨g, 7, none⟩ (.pointer prr)).setCell ⟨g, 8, none⟩ (.pointer pa)).setCell ⟨g, 9, none⟩ (.pointer pb)).setCell ⟨g, 10, none⟩ (.bool rt)).heap[k_]? = w3.heap[k_]? := fun k_ hk_ => setc11 (by omega) (.bool mir) (.pointer (some ⟨wg.heap.size + 2 + 2 * c, 0, none⟩)) (.pointer pl) (.pointer pr) (.pointer pll) (.pointer plr) (.pointer prl) (.pointer prr) (.pointer pa) (.pointer pb) (.bool rt)
 clear hz0 hfz0 hz1 hfz1 hz2 hfz2 hz3 hfz3 hz4 hfz4 hz5 hfz5 hz6 hfz6 hz7 hfz7 hz8 hfz8 hz9 hfz9 hz10 hfz10 HF3 HF1
 generalize (((((((((((w3.setCell ⟨g, 0, none⟩ (.bool mir)).setCell ⟨g, 1, none⟩ (.pointer (some ⟨wg.heap.size + 2 + 2 * c, 0, none⟩))).setCell ⟨g, 2, none⟩ (.pointer pl)).setCell ⟨g, 3, none⟩ (.pointer pr)).setCell ⟨g, 4, none⟩ (.pointer pll)).setCell ⟨g, 5, none⟩ (.pointer plr)).setCell ⟨g, 6, none⟩ (.pointer prl)).setCell ⟨g, 7, none⟩ (.pointer prr)).setCell ⟨g, 8, none⟩ (.pointer pa)).setCell ⟨g, 9, none⟩ (.pointer pb)).setCell ⟨g, 10, none⟩ (.bool rt)) = w4 at hV hB hK ⊢
 have HRpl := Am (HY1.out.keptS (w' := w4) (fun k_ hk_ _ => hK k_ hk_.2))
 have HRpr := Am (HY2.out.keptS (w' := w4) (fun k_ hk_ _ => hK k_ hk_.2))
 have HRpll := Am (HY3.out.keptS (w' := w4) (fun k_ hk_ _ => hK k_ hk_.2))
 have HRplr := Am (HY4.out.keptS (w' := w4) (fun k_ hk_ _ => hK k_ hk_.2))
 have HRprl := Am (HY5.out.keptS (w' := w4) (fun k_ hk_ _ => hK k_ hk_.2))
 have HRprr := Am (HY6.out.keptS (w' := w4) (fun k_ hk_ _ => hK k_ hk_.2))
 have HRpa := Am (HY7.out.keptS (w' := w4) (fun k_ hk_ _ => hK k_ hk_.2))
 have HRpb := Am (HY8.out.keptS (w' := w4) (fun k_ hk_ _ => hK k_ hk_.2))
 have HRp := Am (HRX.out.below hB)
 have HV := Am hV
 have HB := Am hB
 clear HY1 HY2 HY3 HY4 HY5 HY6 HY7 HY8 hK
 have hk0 : w4.cell? ⟨w.heap.size, 0, none⟩ = some (.int .i64 kind) := (hB.cell (p := ⟨w.heap.size, 0, none⟩) (Nat.lt_trans hg0 hg2)).trans HB0.out
 have HK0 := Am hk0
 obtain ⟨hv0, hv1, hv2, hv3, hv4, hv5, hv6, hv7, hv8, hv9, hv10⟩ := vc11 hV
 clear hV hB HPC HB0 HB1
 go_wp2_with (fail)
 refine (can_any mir rt (some ⟨wg.heap.size + 2 + 2 * c, 0, none⟩) pl pr pll plr prl prr pa pb X _ HRp HRpl HRpr HRpll HRplr HRprl HRprr HRpa HRpb kind HKD.out).mono ?_
 rw [HCAN.out]
 rintro e w5 ⟨rfl, h5⟩
 have HB5 := Am (HB.out.trans (h5.mono HB.out.size))
 have H5 := Am h5
 have HV5 := Am ((h5.block _ (Array.getElem?_eq_some_iff.1 HV.out).1).trans HV.out)
 have hk5 := (h5.cell (blt _ _ HK0.out)).trans HK0.out
 clear h5 hv0 hv1 hv2 hv3 hv4 hv5 hv6 hv7 hv8 hv9 hv10 hk0 HV
 obtain ⟨hw0, hw1, hw2, hw3, hw4, hw5, hw6, hw7, hw8, hw9, hw10⟩ := vc11 HV5.out
 go_wp2_with (fail)
 refine (do_any (S := (fun k_ => (fun k_ => SetC wg.heap.size l0 c k_ ∧ k_ < w2.heap.size) k_ ∨ w5.heap.size ≤ k_)) mir rt (some ⟨wg.heap.size + 2 + 2 * c, 0, none⟩) pl pr pll plr prl prr pa pb X _ (fun _ hk_ => .inr hk_) ⟨(HRp.out.below H5.out).mono (fun _ hk_ => .inl hk_)⟩ ⟨(HRpl.out.below H5.out).mono (fun _ hk_ => .inl hk_)⟩ ⟨(HRpr.out.below H5.out).mono (fun _ hk_ => .inl hk_)⟩ ⟨(HRpll.out.below H5.out).mono (fun _ hk_ => .inl hk_)⟩ ⟨(HRplr.out.below H5.out).mono (fun _ hk_ => .inl hk_)⟩ ⟨(HRprl.out.below H5.out).mono (fun _ hk_ => .inl hk_)⟩ ⟨(HRprr.out.below H5.out).mono (fun _ hk_ => .inl hk_)⟩ ⟨(HRpa.out.below H5.out).mono (fun _ hk_ => .inl hk_)⟩ ⟨(HRpb.out.below H5.out).mono (fun _ hk_ => .inl hk_)⟩ kind HKD.out HXN.out HCAN.out).mono ?_
 rintro e w6 ⟨q, W6, rfl, h6a, h6b, h6c⟩
 have HB6 := Am ((HB5.out.trans (h6a.mono HB5.out.size)).trans (h6b.mono (Nat.le_trans HB5.out.size h6a.size)))
 have hge6 : w5.heap.size ≤ W6.heap.size := h6a.size
 have HTOP := Am h6c
 have HTB := Am h6b
 clear h6a h6b h6c hw0 hw1 hw2 hw3 hw4 hw5 hw6 hw7 hw8 hw9 hw10
 have hrf := HRF.out
 subst hrf
 obtain ⟨b6, n6, q6, L6, R6, vl6, vr6, hq6, hdo6, hge6b, hcl6, _, _, _⟩ := HTOP.out
 injection hq6 with hq6
 subst hq6
 have hcu6 : w6.cell? ⟨b6, 2, none⟩ = some (.int .i64 n6.f2) := (cell_of hcl6 2).trans rfl
 have hwt : wt (doT mir X kind) = n6.f2 := by rw [hdo6]; rfl
 have HREP := Am (HTOP.out.rep HTB.out)
 rw [hwt] at hbig
 clear hdo6 hcl6 hwt
 have HB7 := HB6
 have dbig : decide (1000000 < n6.f2) = true := decide_eq_true hbig
 clear hbig
 go_wp2
 go_ret2
 exact ⟨rfl, HBW.out.trans ((HFO.out.bel.trans (HB6.out.mono HFO.out.bel.size)).mono HBW.out.size)⟩
theorem do_ok0 (k : Nat) (A0 : Option Addr) (c0 : Nat) (l0 : List S34) (c : Nat) (kind : Int) (mir : Bool) (r1 : Int) (r2 : List Bool) (w : World) (hr0 : Kd.C k34 w A0 l0.length l0) (hc0 : l0.length ≤ c0)
  (h : steps_keys.f k l0 = some (r1, r2, 0)) (hm : steps_Move_is.f kind mir = some true) (hkd : 1 ≤ kind ∧ kind ≤ 12) (hp1 : (c : Int) < l0.length) (hp2 : (c : Int) < r2.length) (hbel : rdOf false r2 c = true) (ht : OkT l0) (K : Nat) (X : Tr) (hX : mkT l0 K c = some X) (rt : Bool) (hrt : ((c : Int) == r1) = rt) (hrf : rt = false) (hcan : canT mir rt X kind = true) (hbig : ¬ 1000000 < wt (doT mir X kind)) (K1 : Nat) (T1 : Tr) (hT1 : mkR l0 c (doT mir X kind) K1 0 = some T1) (hfull : Full T1) (hsz : sizeT T1 ≤ 1000000) :
  Calls Tryd.prog 16 #[.slice A0 l0.length c0, .int .i64 c, .agg #[.int .i64 kind, .bool mir]] w fun e w' => DoOK w (flatT T1 0) e w' := by
 have HCAN := Am hcan
 clear hcan
 have HT1 := Am hT1
 have HFULL := Am hfull
 have HSZ := Am hsz
 clear hT1 hfull hsz
 have hxn : X ≠ .nil := by rintro rfl; exact mkT_nil hX
 have HXN := Am hxn
 clear hxn
 have HRF := Am hrf
 clear hrf
 have hu62 := Tryd.underlying32
 have hu111 := Tryd.underlying62
 have hu116 := Tryd.underlying66
 have hu34 := Tryd.underlying50
 have HR := Am hr0
 have HC := Am hc0
 have H := Am h
 have HM := Am hm
 have HT := Am ht
 have HX := Am hX
 have HKD := Am hkd
 have HBEL := Am hbel
 have hlen : l0.length ≤ 100000 := ht.len
 have hcl : c < l0.length := by omega
 clear hr0 hc0 h hm ht hX hkd hbel
 go_enter Tryd.func16, Tryd.ntmps16
 go_wp2_with (fail)
 refine (at_okt k A0 c0 l0 c kind mir r1 r2 _ (Kd.C_below HR.out ((Below.refl _ _).alloc (Nat.le_refl _) _)) HC.out H.out (fun _ => HM.out) (by omega) hp1 hp2 HBEL.out (by omega) (fun i hi h4 => ⟨(HT.out.kids i hi h4).1, (HT.out.kids i hi h4).2.1, (HT.out.kids i hi h4).2.2.1⟩)).mono ?_
 rintro e w2 ⟨wg, rfl, hbg, hfo⟩
 have hbw : Below w.heap.size w wg := ((Below.refl _ _).alloc (Nat.le_refl _) _).trans (hbg.mono (by simp))
 have hg0 : w.heap.size < wg.heap.size := by have h_ := hbg.size; simp at h_; omega
 have hbx0 : wg.cell? ⟨w.heap.size, 0, none⟩ = some (.int .i64 kind) := (hbg.cell (p := ⟨w.heap.size, 0, none⟩) (by simp)).trans (World.cell?_alloc_at _ _ _ _ rfl)
 have hbx1 : wg.cell? ⟨w.heap.size, 1, none⟩ = some (.bool mir) := (hbg.cell (p := ⟨w.heap.size, 1, none⟩) (by simp)).trans (World.cell?_alloc_at _ _ _ _ rfl)
 have HBW := Am hbw
 have HFO := Am hfo
 have HX0 := Am hbx0
 have HX1 := Am hbx1
 have HRX : Aside0 (Rep (fun k_ => SetC wg.heap.size l0 c k_ ∧ k_ < w2.heap.size) w2 (.pointer (some ⟨wg.heap.size + 2 + 2 * c, 0, none⟩)) X) := ⟨(forest_rep hfo HX.out K c X HX.out (Nat.le_refl _)).bound⟩
 have hg2 : wg.heap.size < w2.heap.size := rowIs_lt hfo.ptrs
 have hpc : w2.drew.cell? ⟨wg.heap.size, c, none⟩ = some (.pointer (some ⟨wg.heap.size + 2 + 2 * c, 0, none⟩)) := (rowIs_cell hfo.ptrs c hcl).trans (by rw [if_pos hcl]; rfl)
 have hb0 : w2.drew.cell? ⟨w.heap.size, 0, none⟩ = some (.int .i64 kind) := (hfo.bel.cell (p := ⟨w.heap.size, 0, none⟩) hg0).trans hbx0
 have hb1 : w2.drew.cell? ⟨w.heap.size, 1, none⟩ = some (.bool mir) := (hfo.bel.cell (p := ⟨w.heap.size, 1, none⟩) hg0).trans hbx1
 clear hbg hbw hfo hbx0 hbx1
 go_wp2
 have HPC := Am hpc
 have HB0 := Am hb0
 have HB1 := Am hb1
 refine sT 11 [10] (S := fun w' => w'.cell? ⟨wg.heap.size, c, none⟩ = some (.pointer (some ⟨wg.heap.size + 2 + 2 * c, 0, none⟩)) ∧ w'.cell? ⟨w.heap.size, 0, none⟩ = some (.int .i64 kind) ∧ w'.cell? ⟨w.heap.size, 1, none⟩ = some (.bool mir)) ⟨hpc, hb0, hb1⟩ fun hHeld => ?_
 refine pu 0 26 ?_
 refine pu 1 27 ?_
 refine pu 2 28 ?_
 refine pu 5 31 ?_
 refine pu 6 32 ?_
 refine pu 7 33 ?_
 refine ta 3 29 hHeld ?_
 refine ta 4 30 hHeld ?_
 refine join_ (σ := Nat × Option Addr × Option Addr × Option Addr × Option Addr × Option Addr × Option Addr × Option Addr × Option Addr) 1 #[true, true, true, true, true, true, true, true, true, true, false] (fun s => [(34, .agg #[.bool mir, .pointer (some ⟨wg.heap.size + 2 + 2 * c, 0, none⟩), .pointer s.2.1, .pointer s.2.2.1, .pointer s.2.2.2.1, .pointer s.2.2.2.2.1, .pointer s.2.2.2.2.2.1, .pointer s.2.2.2.2.2.2.1, .pointer s.2.2.2.2.2.2.2.1, .pointer s.2.2.2.2.2.2.2.2, .bool rt]), (11, .pointer (some ⟨s.1, 0, none⟩))]) (fun s w' => Below w2.heap.size w2 w' ∧ w2.heap.size ≤ s.1 ∧ w'.heap[s.1]? = some (.cells #[.bool false, .pointer none, .pointer none, .pointer none, .pointer none, .pointer none, .pointer none, .pointer none, .pointer none, .pointer none, .bool false] 62 (0, 0)) ∧ Rep (fun k_ => SetC wg.heap.size l0 c k_ ∧ k_ < w2.heap.size) w' (.pointer s.2.1) (lT mir X) ∧ Rep (fun k_ => SetC wg.heap.size l0 c k_ ∧ k_ < w2.heap.size) w' (.pointer s.2.2.1) (rT mir X) ∧ Rep (fun k_ => SetC wg.heap.size l0 c k_ ∧ k_ < w2.heap.size) w' (.pointer s.2.2.2.1) (lT mir (lT mir X)) ∧ Rep (fun k_ => SetC wg.heap.size l0 c k_ ∧ k_ < w2.heap.size) w' (.pointer s.2.2.2.2.1) (rT mir (lT mir X)) ∧ Rep (fun k_ => SetC wg.heap.size l0 c k_ ∧ k_ < w2.heap.size) w' (.pointer s.2.2.2.2.2.1) (lT mir (rT mir X)) ∧ Rep (fun k_ => SetC wg.heap.size l0 c k_ ∧ k_ < w2.heap.size) w' (.pointer s.2.2.2.2.2.2.1) (rT mir (rT mir X)) ∧ Rep (fun k_ => SetC wg.heap.size l0 c k_ ∧ k_ < w2.heap.size) w' (.pointer s.2.2.2.2.2.2.2.1) (lT mir (lT mir (rT mir X))) ∧ Rep (fun k_ => SetC wg.heap.size l0 c k_ ∧ k_ < w2.heap.size) w' (.pointer s.2.2.2.2.2.2.2.2) (rT mir (lT mir (rT mir X)))) ?_ ?_
 rotate_left
 ·intro hCont
  refine two_ (i := 8) (j := 9) (Ni := some 34) (Nj := some 11) #[true, true, true, true, true, true, true, true, true, false, false] #[true, true, true, true, true, true, true, true, false, true, false] rfl rfl rfl rfl (by kernel_rfl) (by decide) (by decide) (fun K hK => ?_) (fun K hK => ?_)
  ·skip
   refine goes_ Tryd.func24 (by kernel_rfl) rfl #[.pointer (some ⟨wg.heap.size + 2 + 2 * c, 0, none⟩), .agg #[.int .i64 kind, .bool mir], .bool rt] (by rfl) rfl rfl (by (try simp only [List.map_toArray, List.map_cons, List.map_nil]); first | done | rfl) ?_
   with_reducible refine (look_any (S := (fun k_ => SetC wg.heap.size l0 c k_ ∧ k_ < w2.heap.size)) _ X _ _ _ _ (by first | exact HRX.out.below ((Below.refl _ _).drew) | exact HRX.out.below HBA.out)).mono ?_
   rintro e wL ⟨pl, pr, pll, plr, prl, prr, pa, pb, rfl, hLb, r1, r2, r3, r4, r5, r6, r7, r8⟩
   refine ⟨_, rfl, ?_⟩
   refine hK.out _ _ ⟨(hLb.cell (blt _ _ hHeld.1)).trans hHeld.1, (hLb.cell (blt _ _ hHeld.2.1)).trans hHeld.2.1, (hLb.cell (blt _ _ hHeld.2.2)).trans hHeld.2.2⟩ (fun hHeld => ?_)
   clear hK K
   refine nm 34 ?_
   refine on 9 11 fun K hK => ?_
   refine box_step (by rfl) (N := 11) rfl (cs := #[.bool false, .pointer none, .pointer none, .pointer none, .pointer none, .pointer none, .pointer none, .pointer none, .pointer none, .pointer none, .bool false]) (t := 62) ?hr ?_
   case hr => first | (go_simp; done) | (go_simp; rfl)
   intro g hg wA hbox hbA
   have hgs : w2.heap.size ≤ g := by rw [hg]; exact hLb.size
   refine hK.out _ _ ⟨(hbA.cell (blt _ _ hHeld.1)).trans hHeld.1, (hbA.cell (blt _ _ hHeld.2.1)).trans hHeld.2.1, (hbA.cell (blt _ _ hHeld.2.2)).trans hHeld.2.2⟩ (fun hHeld => ?_)
   clear hK K
   refine nm 11 ?_
   exact norm_ (by simp only [putAll, Act.put, sI, sZ, sS]) (hCont (g, pl, pr, pll, plr, prl, prr, pa, pb) _ ⟨((Below.refl w2.heap.size w2).drew.trans (hLb.mono (Nat.le_refl _))).trans (hbA.mono hLb.size), hgs, hbox, (r1.below hLb).below hbA, (r2.below hLb).below hbA, (r3.below hLb).below hbA, (r4.below hLb).below hbA, (r5.below hLb).below hbA, (r6.below hLb).below hbA, (r7.below hLb).below hbA, (r8.below hLb).below hbA⟩)
  ·skip
   refine box_step (by rfl) (N := 11) rfl (cs := #[.bool false, .pointer none, .pointer none, .pointer none, .pointer none, .pointer none, .pointer none, .pointer none, .pointer none, .pointer none, .bool false]) (t := 62) ?hr ?_
   case hr => first | (go_simp; done) | (go_simp; rfl)
   intro g hg wA hbox hbA
   have HBA := Am (((Below.refl w2.heap.size w2).drew).trans (hbA.mono (Nat.le_refl _)))
   have hgs : w2.heap.size ≤ g := by rw [hg]; exact Nat.le_refl _
   refine hK.out _ _ ⟨(hbA.cell (blt _ _ hHeld.1)).trans hHeld.1, (hbA.cell (blt _ _ hHeld.2.1)).trans hHeld.2.1, (hbA.cell (blt _ _ hHeld.2.2)).trans hHeld.2.2⟩ (fun hHeld => ?_)
   clear hK K
   refine nm 11 ?_
   refine on 8 34 fun K hK => ?_
   refine goes_ Tryd.func24 (by kernel_rfl) rfl #[.pointer (some ⟨wg.heap.size + 2 + 2 * c, 0, none⟩), .agg #[.int .i64 kind, .bool mir], .bool rt] (by rfl) rfl rfl (by (try simp only [List.map_toArray, List.map_cons, List.map_nil]); first | done | rfl) ?_
   with_reducible refine (look_any (S := (fun k_ => SetC wg.heap.size l0 c k_ ∧ k_ < w2.heap.size)) _ X _ _ _ _ (by first | exact HRX.out.below ((Below.refl _ _).drew) | exact HRX.out.below HBA.out)).mono ?_
   rintro e wL ⟨pl, pr, pll, plr, prl, prr, pa, pb, rfl, hLb, r1, r2, r3, r4, r5, r6, r7, r8⟩
   refine ⟨_, rfl, ?_⟩
   refine hK.out _ _ ⟨(hLb.cell (blt _ _ hHeld.1)).trans hHeld.1, (hLb.cell (blt _ _ hHeld.2.1)).trans hHeld.2.1, (hLb.cell (blt _ _ hHeld.2.2)).trans hHeld.2.2⟩ (fun hHeld => ?_)
   clear hK K
   refine nm 34 ?_
   exact norm_ (by simp only [putAll, Act.put, sI, sZ, sS]) (hCont (g, pl, pr, pll, plr, prl, prr, pa, pb) _ ⟨HBA.out.trans (hLb.mono hbA.size), hgs, (hLb.block _ (Array.getElem?_eq_some_iff.1 hbox).1).trans hbox, r1.below hLb, r2.below hLb, r3.below hLb, r4.below hLb, r5.below hLb, r6.below hLb, r7.below hLb, r8.below hLb⟩)
 rintro ⟨g, pl, pr, pll, plr, prl, prr, pa, pb⟩ w3 ⟨hF1, hF2, hF3, y1, y2, y3, y4, y5, y6, y7, y8⟩
 replace hF2 : w2.heap.size ≤ g := hF2
 replace hF3 : w3.heap[g]? = some (.cells #[.bool false, .pointer none, .pointer none, .pointer none, .pointer none, .pointer none, .pointer none, .pointer none, .pointer none, .pointer none, .bool false] 62 (0, 0)) := hF3
 have HY1 : Aside0 (Rep (fun k_ => SetC wg.heap.size l0 c k_ ∧ k_ < w2.heap.size) w3 (.pointer pl) (lT mir X)) := ⟨y1⟩
 have HY2 : Aside0 (Rep (fun k_ => SetC wg.heap.size l0 c k_ ∧ k_ < w2.heap.size) w3 (.pointer pr) (rT mir X)) := ⟨y2⟩
 have HY3 : Aside0 (Rep (fun k_ => SetC wg.heap.size l0 c k_ ∧ k_ < w2.heap.size) w3 (.pointer pll) (lT mir (lT mir X))) := ⟨y3⟩
 have HY4 : Aside0 (Rep (fun k_ => SetC wg.heap.size l0 c k_ ∧ k_ < w2.heap.size) w3 (.pointer plr) (rT mir (lT mir X))) := ⟨y4⟩
 have HY5 : Aside0 (Rep (fun k_ => SetC wg.heap.size l0 c k_ ∧ k_ < w2.heap.size) w3 (.pointer prl) (lT mir (rT mir X))) := ⟨y5⟩
 have HY6 : Aside0 (Rep (fun k_ => SetC wg.heap.size l0 c k_ ∧ k_ < w2.heap.size) w3 (.pointer prr) (rT mir (rT mir X))) := ⟨y6⟩
 have HY7 : Aside0 (Rep (fun k_ => SetC wg.heap.size l0 c k_ ∧ k_ < w2.heap.size) w3 (.pointer pa) (lT mir (lT mir (rT mir X)))) := ⟨y7⟩
 have HY8 : Aside0 (Rep (fun k_ => SetC wg.heap.size l0 c k_ ∧ k_ < w2.heap.size) w3 (.pointer pb) (rT mir (lT mir (rT mir X)))) := ⟨y8⟩
 have hHeld : w3.cell? ⟨wg.heap.size, c, none⟩ = some (.pointer (some ⟨wg.heap.size + 2 + 2 * c, 0, none⟩)) ∧ w3.cell? ⟨w.heap.size, 0, none⟩ = some (.int .i64 kind) ∧ w3.cell? ⟨w.heap.size, 1, none⟩ = some (.bool mir) := ⟨(hF1.cell (p := ⟨wg.heap.size, c, none⟩) hg2).trans HPC.out, (hF1.cell (p := ⟨w.heap.size, 0, none⟩) (Nat.lt_trans hg0 hg2)).trans HB0.out, (hF1.cell (p := ⟨w.heap.size, 1, none⟩) (Nat.lt_trans hg0 hg2)).trans HB1.out⟩
 obtain ⟨hz0, hz1, hz2, hz3, hz4, hz5, hz6, hz7, hz8, hz9, hz10⟩ := vc11 hF3
 have hfz0 := frz_of hF3 0
 have hfz1 := frz_of hF3 1
 have hfz2 := frz_of hF3 2
 have hfz3 := frz_of hF3 3
 have hfz4 := frz_of hF3 4
 have hfz5 := frz_of hF3 5
 have hfz6 := frz_of hF3 6
 have hfz7 := frz_of hF3 7
 have hfz8 := frz_of hF3 8
 have hfz9 := frz_of hF3 9
 have hfz10 := frz_of hF3 10
 have HF1 := Am hF1
 have HF3 := Am hF3
 clear hF1 hF3 y1 y2 y3 y4 y5 y6 y7 y8
 refine norm_ (a' := ?_) ?_ ?_
 rotate_left
 ·simp only [putAll, Act.put, sI, sZ, sS]
  rfl
 refine last_ (i := 10) (N := none) #[true, true, true, true, true, true, true, true, true, true, true] rfl rfl (by kernel_rfl) (by decide) (fun K hK => ?_)
 refine skip_ (w1 := ?_) (by rfl) rfl ?_ ?_
 rotate_left
 ·go_simp
  rfl
 refine hK.out _ _ ?_
 clear hK K
 refine done_ (by kernel_rfl) ?_
 try clear hHeld
 have hV := put11 HF3.out (.bool mir) (.pointer (some ⟨wg.heap.size + 2 + 2 * c, 0, none⟩)) (.pointer pl) (.pointer pr) (.pointer pll) (.pointer plr) (.pointer prl) (.pointer prr) (.pointer pa) (.pointer pb) (.bool rt)
 have hB := below11 HF1.out hF2 (.bool mir) (.pointer (some ⟨wg.heap.size + 2 + 2 * c, 0, none⟩)) (.pointer pl) (.pointer pr) (.pointer pll) (.pointer plr) (.pointer prl) (.pointer prr) (.pointer pa) (.pointer pb) (.bool rt)
 have hK : ∀ k_, k_ < w2.heap.size → (((((((((((w3.setCell ⟨g, 0, none⟩ (.bool mir)).setCell ⟨g, 1, none⟩ (.pointer (some ⟨wg.heap.size + 2 + 2 * c, 0, none⟩))).setCell ⟨g, 2, none⟩ (.pointer pl)).setCell ⟨g, 3, none⟩ (.pointer pr)).setCell ⟨g, 4, none⟩ (.pointer pll)).setCell ⟨g, 5, none⟩ (.pointer plr)).setCell ⟨g, 6, none⟩ (.pointer prl)).setCell ⟨g, 7, none⟩ (.pointer prr)).setCell ⟨g, 8, none⟩ (.pointer pa)).setCell ⟨g, 9, none⟩ (.pointer pb)).setCell ⟨g, 10, none⟩ (.bool rt)).heap[k_]? = w3.heap[k_]? := fun k_ hk_ => setc11 (by omega) (.bool mir) (.pointer (some ⟨wg.heap.size + 2 + 2 * c, 0, none⟩)) (.pointer pl) (.pointer pr) (.pointer pll) (.pointer plr) (.pointer prl) (.pointer prr) (.pointer pa) (.pointer pb) (.bool rt)
 clear hz0 hfz0 hz1 hfz1 hz2 hfz2 hz3 hfz3 hz4 hfz4 hz5 hfz5 hz6 hfz6 hz7 hfz7 hz8 hfz8 hz9 hfz9 hz10 hfz10 HF3 HF1
 generalize (((((((((((w3.setCell ⟨g, 0, none⟩ (.bool mir)).setCell ⟨g, 1, none⟩ (.pointer (some ⟨wg.heap.size + 2 + 2 * c, 0, none⟩))).setCell ⟨g, 2, none⟩ (.pointer pl)).setCell ⟨g, 3, none⟩ (.pointer pr)).setCell ⟨g, 4, none⟩ (.pointer pll)).setCell ⟨g, 5, none⟩ (.pointer plr)).setCell ⟨g, 6, none⟩ (.pointer prl)).setCell ⟨g, 7, none⟩ (.pointer prr)).setCell ⟨g, 8, none⟩ (.pointer pa)).setCell ⟨g, 9, none⟩ (.pointer pb)).setCell ⟨g, 10, none⟩ (.bool rt)) = w4 at hV hB hK ⊢
 have HRpl := Am (HY1.out.keptS (w' := w4) (fun k_ hk_ _ => hK k_ hk_.2))
 have HRpr := Am (HY2.out.keptS (w' := w4) (fun k_ hk_ _ => hK k_ hk_.2))
 have HRpll := Am (HY3.out.keptS (w' := w4) (fun k_ hk_ _ => hK k_ hk_.2))
 have HRplr := Am (HY4.out.keptS (w' := w4) (fun k_ hk_ _ => hK k_ hk_.2))
 have HRprl := Am (HY5.out.keptS (w' := w4) (fun k_ hk_ _ => hK k_ hk_.2))
 have HRprr := Am (HY6.out.keptS (w' := w4) (fun k_ hk_ _ => hK k_ hk_.2))
 have HRpa := Am (HY7.out.keptS (w' := w4) (fun k_ hk_ _ => hK k_ hk_.2))
 have HRpb := Am (HY8.out.keptS (w' := w4) (fun k_ hk_ _ => hK k_ hk_.2))
 have HRp := Am (HRX.out.below hB)
 have HV := Am hV
 have HB := Am hB
 clear HY1 HY2 HY3 HY4 HY5 HY6 HY7 HY8 hK
 have hk0 : w4.cell? ⟨w.heap.size, 0, none⟩ = some (.int .i64 kind) := (hB.cell (p := ⟨w.heap.size, 0, none⟩) (Nat.lt_trans hg0 hg2)).trans HB0.out
 have HK0 := Am hk0
 obtain ⟨hv0, hv1, hv2, hv3, hv4, hv5, hv6, hv7, hv8, hv9, hv10⟩ := vc11 hV
 clear hV hB HPC HB0 HB1
 go_wp2_with (fail)
 refine (can_any mir rt (some ⟨wg.heap.size + 2 + 2 * c, 0, none⟩) pl pr pll plr prl prr pa pb X _ HRp HRpl HRpr HRpll HRplr HRprl HRprr HRpa HRpb kind HKD.out).mono ?_
 rw [HCAN.out]
 rintro e w5 ⟨rfl, h5⟩
 have HB5 := Am (HB.out.trans (h5.mono HB.out.size))
 have H5 := Am h5
 have HV5 := Am ((h5.block _ (Array.getElem?_eq_some_iff.1 HV.out).1).trans HV.out)
 have hk5 := (h5.cell (blt _ _ HK0.out)).trans HK0.out
 clear h5 hv0 hv1 hv2 hv3 hv4 hv5 hv6 hv7 hv8 hv9 hv10 hk0 HV
 obtain ⟨hw0, hw1, hw2, hw3, hw4, hw5, hw6, hw7, hw8, hw9, hw10⟩ := vc11 HV5.out
 go_wp2_with (fail)
 refine (do_any (S := (fun k_ => (fun k_ => SetC wg.heap.size l0 c k_ ∧ k_ < w2.heap.size) k_ ∨ w5.heap.size ≤ k_)) mir rt (some ⟨wg.heap.size + 2 + 2 * c, 0, none⟩) pl pr pll plr prl prr pa pb X _ (fun _ hk_ => .inr hk_) ⟨(HRp.out.below H5.out).mono (fun _ hk_ => .inl hk_)⟩ ⟨(HRpl.out.below H5.out).mono (fun _ hk_ => .inl hk_)⟩ ⟨(HRpr.out.below H5.out).mono (fun _ hk_ => .inl hk_)⟩ ⟨(HRpll.out.below H5.out).mono (fun _ hk_ => .inl hk_)⟩ ⟨(HRplr.out.below H5.out).mono (fun _ hk_ => .inl hk_)⟩ ⟨(HRprl.out.below H5.out).mono (fun _ hk_ => .inl hk_)⟩ ⟨(HRprr.out.below H5.out).mono (fun _ hk_ => .inl hk_)⟩ ⟨(HRpa.out.below H5.out).mono (fun _ hk_ => .inl hk_)⟩ ⟨(HRpb.out.below H5.out).mono (fun _ hk_ => .inl hk_)⟩ kind HKD.out HXN.out HCAN.out).mono ?_
 rintro e w6 ⟨q, W6, rfl, h6a, h6b, h6c⟩
 have HB6 := Am ((HB5.out.trans (h6a.mono HB5.out.size)).trans (h6b.mono (Nat.le_trans HB5.out.size h6a.size)))
 have hge6 : w5.heap.size ≤ W6.heap.size := h6a.size
 have HTOP := Am h6c
 have HTB := Am h6b
 clear h6a h6b h6c hw0 hw1 hw2 hw3 hw4 hw5 hw6 hw7 hw8 hw9 hw10
 have hrf := HRF.out
 subst hrf
 obtain ⟨b6, n6, q6, L6, R6, vl6, vr6, hq6, hdo6, hge6b, hcl6, _, _, _⟩ := HTOP.out
 injection hq6 with hq6
 subst hq6
 have hcu6 : w6.cell? ⟨b6, 2, none⟩ = some (.int .i64 n6.f2) := (cell_of hcl6 2).trans rfl
 have hwt : wt (doT mir X kind) = n6.f2 := by rw [hdo6]; rfl
 have HREP := Am (HTOP.out.rep HTB.out)
 rw [hwt] at hbig
 clear hdo6 hcl6 hwt
 have HB7 := HB6
 have dbig : decide (1000000 < n6.f2) = false := decide_eq_false (by omega)
 clear hbig
 go_wp2
 have hf2 := forest2_start (forest_kept HFO.out HB7.out) c (some ⟨b6, 0, none⟩)
 have HF2 := Am hf2
 clear hf2
 have hfin := do_ok_fin w T1
 have HFIN := Am hfin
 clear hfin
 generalize w6 = w7 at HB7 HF2 HREP ⊢
 go_loopg [59] l0.length (fun gk vi wr => ∃ i : Nat, vi = .int .i64 (i : Int) ∧ i ≤ l0.length ∧ Aside0 (gk + i = l0.length) ∧ Aside0 (Forest2 wg wr l0 c (some ⟨b6, 0, none⟩) i) ∧ Aside0 (Rep (fun k_ => (fun k_ => SetC wg.heap.size l0 c k_ ∧ k_ < w2.heap.size) k_ ∨ w5.heap.size ≤ k_) wr (.pointer (some ⟨b6, 0, none⟩)) (doT mir X kind)))
 case atStart => exact ⟨0, rfl, Nat.zero_le _, ⟨by omega⟩, HF2, HREP⟩
 case round =>
  clear HF2 HREP
  obtain ⟨i, rfl, hil, HK, HF2, HREP⟩ := hrel
  have hpc : wr.cell? ⟨wg.heap.size, c, none⟩ = some (.pointer (some ⟨wg.heap.size + 2 + 2 * c, 0, none⟩)) := rowIs_cell HF2.out.ptrs c hcl
  by_cases hlt : i < l0.length
  ·have dlt : decide (i < l0.length) = true := decide_eq_true hlt
   have hpi : wr.cell? ⟨wg.heap.size, i, none⟩ = some (.pointer (some ⟨wg.heap.size + 2 + 2 * i, 0, none⟩)) := rowIs_cell HF2.out.ptrs i hlt
   have hni := HF2.out.nodes i hlt
   simp only [Nat.lt_irrefl, false_and, if_false] at hni
   have hf7 := frz_of hni 7
   have hf8 := frz_of hni 8
   have hc7 : wr.cell? ⟨wg.heap.size + 2 + 2 * i, 7, none⟩ = some (.pointer (lpV wg.heap.size l0 i)) := (cell_of hni 7).trans rfl
   have hc8 : wr.cell? ⟨wg.heap.size + 2 + 2 * i, 8, none⟩ = some (.pointer (rpV wg.heap.size l0 i)) := (cell_of hni 8).trans rfl
   clear hni
   by_cases h4 : 0 ≤ (l0.getD i z34).f4
   ·rw [lpV, if_pos h4, nb] at hc7
    rw [rpV, if_pos h4, nb] at hc8
    have hk := HT.out.kids i hlt h4
    have hnc := HF2.out.nodes c hcl
    have hnl := HF2.out.nodes (l0.getD i z34).f4.toNat (by omega)
    have hnr := HF2.out.nodes (l0.getD i z34).f5.toNat (by omega)
    have hes := eqp_same wr ⟨wg.heap.size + 2 + 2 * c, 0, none⟩
    by_cases el : (l0.getD i z34).f4.toNat = c
    ·have er : (l0.getD i z34).f5.toNat ≠ c := fun e_ => hk.2.2.2 (by omega)
     have hst := forest2_left HF2.out h4 el er
     have hrp := HREP.out.keptS (w' := wr.setCell ⟨wg.heap.size + 2 + 2 * i, 7, none⟩ (.pointer (some ⟨b6, 0, none⟩))) (fun k_ hk_ _ => Below.heap_setCell _ _ _ _ (by show k_ ≠ wg.heap.size + 2 + 2 * i; rcases hk_ with ⟨⟨j_, hj1, _, hj3⟩, _⟩ | hk_; rintro rfl; exact hj3 (by rw [show j_ = i by omega]; exact ⟨h4, .inl el⟩); have hz_ := (Array.getElem?_eq_some_iff.1 (HFO.out.nodes i hlt)).1; have hz2 := HB5.out.size; omega))
     have HST := Am hst
     have HRP := Am hrp
     rw [el] at hc7
     clear hst hrp hk er el h4 hc8 hnc hnl hnr
     go_wp2
     go_roundg (gk - 1)
     case measure => have := HK.out; omega
     case rel => exact ⟨i + 1, by go_num, by omega, ⟨by have := HK.out; omega⟩, HST, HRP⟩
    ·have hel := eqp_other wr (a := ⟨wg.heap.size + 2 + 2 * c, 0, none⟩) (b := ⟨wg.heap.size + 2 + 2 * (l0.getD i z34).f4.toNat, 0, none⟩) (fun e_ => by injection e_ with e_; omega) hnc hnl
     by_cases er : (l0.getD i z34).f5.toNat = c
     ·have hst := forest2_right HF2.out h4 el er
      have hrp := HREP.out.keptS (w' := wr.setCell ⟨wg.heap.size + 2 + 2 * i, 8, none⟩ (.pointer (some ⟨b6, 0, none⟩))) (fun k_ hk_ _ => Below.heap_setCell _ _ _ _ (by show k_ ≠ wg.heap.size + 2 + 2 * i; rcases hk_ with ⟨⟨j_, hj1, _, hj3⟩, _⟩ | hk_; rintro rfl; exact hj3 (by rw [show j_ = i by omega]; exact ⟨h4, .inr er⟩); have hz_ := (Array.getElem?_eq_some_iff.1 (HFO.out.nodes i hlt)).1; have hz2 := HB5.out.size; omega))
      have HST := Am hst
      have HRP := Am hrp
      rw [er] at hc8
      clear hst hrp hk h4 hnc hnl hnr er el
      generalize (l0.getD i z34).f4.toNat = cl at hc7 hel
      go_wp2
      go_roundg (gk - 1)
      case measure => have := HK.out; omega
      case rel => exact ⟨i + 1, by go_num, by omega, ⟨by have := HK.out; omega⟩, HST, HRP⟩
     ·have her := eqp_other wr (a := ⟨wg.heap.size + 2 + 2 * c, 0, none⟩) (b := ⟨wg.heap.size + 2 + 2 * (l0.getD i z34).f5.toNat, 0, none⟩) (fun e_ => by injection e_ with e_; omega) hnc hnr
      have hst := forest2_skip HF2.out (fun hc_ => by rcases hc_.2 with e_ | e_; exact el e_; exact er e_)
      have HST := Am hst
      clear hst hk h4 el er hnc hnl hnr
      generalize (l0.getD i z34).f4.toNat = cl at hc7 hel
      generalize (l0.getD i z34).f5.toNat = cr at hc8 her
      go_wp2
      go_roundg (gk - 1)
      case measure => have := HK.out; omega
      case rel => exact ⟨i + 1, by go_num, by omega, ⟨by have := HK.out; omega⟩, HST, HREP⟩
   ·rw [lpV, if_neg h4] at hc7
    rw [rpV, if_neg h4] at hc8
    have hst := forest2_skip HF2.out (fun hc_ => h4 hc_.1)
    have HST := Am hst
    clear hst h4
    go_wp2
    go_roundg (gk - 1)
    case measure => have := HK.out; omega
    case rel => exact ⟨i + 1, by go_num, by omega, ⟨by have := HK.out; omega⟩, HST, HREP⟩
  ·obtain rfl : i = l0.length := by omega
   have dlt : decide (l0.length < l0.length) = false := decide_eq_false (Nat.lt_irrefl _)
   have hp0 : wr.cell? ⟨wg.heap.size, 0, none⟩ = some (.pointer (some ⟨wg.heap.size + 2 + 2 * 0, 0, none⟩)) := rowIs_cell HF2.out.ptrs 0 (by omega)
   have h0l : 0 < l0.length := by omega
   clear hlt hpc
   go_wp2_with (fail)
   refine (flat_any _ T1 _ (rep_repl HF2.out HREP.out K1 0 T1 HT1.out) HFULL.out HSZ.out).mono ?_
   rintro e w8 ⟨v8, rfl, h8a, h8b⟩
   have HFP := Am (HFIN.out wg wr v8 w8 HBW.out HF2.out.bel ⟨v8, rfl, h8a, h8b⟩)
   obtain ⟨A8, c8, rfl⟩ := Kd.R_slice h8a
   clear h8a h8b
   go_wp2
   go_ret2
   exact HFP.out
theorem do_ok1 (k : Nat) (A0 : Option Addr) (c0 : Nat) (l0 : List S34) (c : Nat) (kind : Int) (mir : Bool) (r1 : Int) (r2 : List Bool) (w : World) (hr0 : Kd.C k34 w A0 l0.length l0) (hc0 : l0.length ≤ c0)
  (h : steps_keys.f k l0 = some (r1, r2, 0)) (hm : steps_Move_is.f kind mir = some true) (hkd : 1 ≤ kind ∧ kind ≤ 12) (hp1 : (c : Int) < l0.length) (hp2 : (c : Int) < r2.length) (hbel : rdOf false r2 c = true) (ht : OkT l0) (K : Nat) (X : Tr) (hX : mkT l0 K c = some X) (rt : Bool) (hrt : ((c : Int) == r1) = rt) (hrf : rt = true) (hcan : canT mir rt X kind = true) (K1 : Nat) (T1 : Tr) (hT1 : mkR l0 c (setW (doT mir X kind) 1) K1 0 = some T1) (hfull : Full T1) (hsz : sizeT T1 ≤ 1000000) :
  Calls Tryd.prog 16 #[.slice A0 l0.length c0, .int .i64 c, .agg #[.int .i64 kind, .bool mir]] w fun e w' => DoOK w (flatT T1 0) e w' := by
 have HCAN := Am hcan
 clear hcan
 have HT1 := Am hT1
 have HFULL := Am hfull
 have HSZ := Am hsz
 clear hT1 hfull hsz
 have hxn : X ≠ .nil := by rintro rfl; exact mkT_nil hX
 have HXN := Am hxn
 clear hxn
 have HRF := Am hrf
 clear hrf
 have hu62 := Tryd.underlying32
 have hu111 := Tryd.underlying62
 have hu116 := Tryd.underlying66
 have hu34 := Tryd.underlying50
 have HR := Am hr0
 have HC := Am hc0
 have H := Am h
 have HM := Am hm
 have HT := Am ht
 have HX := Am hX
 have HKD := Am hkd
 have HBEL := Am hbel
 have hlen : l0.length ≤ 100000 := ht.len
 have hcl : c < l0.length := by omega
 clear hr0 hc0 h hm ht hX hkd hbel
 go_enter Tryd.func16, Tryd.ntmps16
 go_wp2_with (fail)
 refine (at_okt k A0 c0 l0 c kind mir r1 r2 _ (Kd.C_below HR.out ((Below.refl _ _).alloc (Nat.le_refl _) _)) HC.out H.out (fun _ => HM.out) (by omega) hp1 hp2 HBEL.out (by omega) (fun i hi h4 => ⟨(HT.out.kids i hi h4).1, (HT.out.kids i hi h4).2.1, (HT.out.kids i hi h4).2.2.1⟩)).mono ?_
 rintro e w2 ⟨wg, rfl, hbg, hfo⟩
 have hbw : Below w.heap.size w wg := ((Below.refl _ _).alloc (Nat.le_refl _) _).trans (hbg.mono (by simp))
 have hg0 : w.heap.size < wg.heap.size := by have h_ := hbg.size; simp at h_; omega
 have hbx0 : wg.cell? ⟨w.heap.size, 0, none⟩ = some (.int .i64 kind) := (hbg.cell (p := ⟨w.heap.size, 0, none⟩) (by simp)).trans (World.cell?_alloc_at _ _ _ _ rfl)
 have hbx1 : wg.cell? ⟨w.heap.size, 1, none⟩ = some (.bool mir) := (hbg.cell (p := ⟨w.heap.size, 1, none⟩) (by simp)).trans (World.cell?_alloc_at _ _ _ _ rfl)
 have HBW := Am hbw
 have HFO := Am hfo
 have HX0 := Am hbx0
 have HX1 := Am hbx1
 have HRX : Aside0 (Rep (fun k_ => SetC wg.heap.size l0 c k_ ∧ k_ < w2.heap.size) w2 (.pointer (some ⟨wg.heap.size + 2 + 2 * c, 0, none⟩)) X) := ⟨(forest_rep hfo HX.out K c X HX.out (Nat.le_refl _)).bound⟩
 have hg2 : wg.heap.size < w2.heap.size := rowIs_lt hfo.ptrs
 have hpc : w2.drew.cell? ⟨wg.heap.size, c, none⟩ = some (.pointer (some ⟨wg.heap.size + 2 + 2 * c, 0, none⟩)) := (rowIs_cell hfo.ptrs c hcl).trans (by rw [if_pos hcl]; rfl)
 have hb0 : w2.drew.cell? ⟨w.heap.size, 0, none⟩ = some (.int .i64 kind) := (hfo.bel.cell (p := ⟨w.heap.size, 0, none⟩) hg0).trans hbx0
 have hb1 : w2.drew.cell? ⟨w.heap.size, 1, none⟩ = some (.bool mir) := (hfo.bel.cell (p := ⟨w.heap.size, 1, none⟩) hg0).trans hbx1
 clear hbg hbw hfo hbx0 hbx1
 go_wp2
 have HPC := Am hpc
 have HB0 := Am hb0
 have HB1 := Am hb1
 refine sT 11 [10] (S := fun w' => w'.cell? ⟨wg.heap.size, c, none⟩ = some (.pointer (some ⟨wg.heap.size + 2 + 2 * c, 0, none⟩)) ∧ w'.cell? ⟨w.heap.size, 0, none⟩ = some (.int .i64 kind) ∧ w'.cell? ⟨w.heap.size, 1, none⟩ = some (.bool mir)) ⟨hpc, hb0, hb1⟩ fun hHeld => ?_
 refine pu 0 26 ?_
 refine pu 1 27 ?_
 refine pu 2 28 ?_
 refine pu 5 31 ?_
 refine pu 6 32 ?_
 refine pu 7 33 ?_
 refine ta 3 29 hHeld ?_
 refine ta 4 30 hHeld ?_
 refine join_ (σ := Nat × Option Addr × Option Addr × Option Addr × Option Addr × Option Addr × Option Addr × Option Addr × Option Addr) 1 #[true, true, true, true, true, true, true, true, true, true, false] (fun s => [(34, .agg #[.bool mir, .pointer (some ⟨wg.heap.size + 2 + 2 * c, 0, none⟩), .pointer s.2.1, .pointer s.2.2.1, .pointer s.2.2.2.1, .pointer s.2.2.2.2.1, .pointer s.2.2.2.2.2.1, .pointer s.2.2.2.2.2.2.1, .pointer s.2.2.2.2.2.2.2.1, .pointer s.2.2.2.2.2.2.2.2, .bool rt]), (11, .pointer (some ⟨s.1, 0, none⟩))]) (fun s w' => Below w2.heap.size w2 w' ∧ w2.heap.size ≤ s.1 ∧ w'.heap[s.1]? = some (.cells #[.bool false, .pointer none, .pointer none, .pointer none, .pointer none, .pointer none, .pointer none, .pointer none, .pointer none, .pointer none, .bool false] 62 (0, 0)) ∧ Rep (fun k_ => SetC wg.heap.size l0 c k_ ∧ k_ < w2.heap.size) w' (.pointer s.2.1) (lT mir X) ∧ Rep (fun k_ => SetC wg.heap.size l0 c k_ ∧ k_ < w2.heap.size) w' (.pointer s.2.2.1) (rT mir X) ∧ Rep (fun k_ => SetC wg.heap.size l0 c k_ ∧ k_ < w2.heap.size) w' (.pointer s.2.2.2.1) (lT mir (lT mir X)) ∧ Rep (fun k_ => SetC wg.heap.size l0 c k_ ∧ k_ < w2.heap.size) w' (.pointer s.2.2.2.2.1) (rT mir (lT mir X)) ∧ Rep (fun k_ => SetC wg.heap.size l0 c k_ ∧ k_ < w2.heap.size) w' (.pointer s.2.2.2.2.2.1) (lT mir (rT mir X)) ∧ Rep (fun k_ => SetC wg.heap.size l0 c k_ ∧ k_ < w2.heap.size) w' (.pointer s.2.2.2.2.2.2.1) (rT mir (rT mir X)) ∧ Rep (fun k_ => SetC wg.heap.size l0 c k_ ∧ k_ < w2.heap.size) w' (.pointer s.2.2.2.2.2.2.2.1) (lT mir (lT mir (rT mir X))) ∧ Rep (fun k_ => SetC wg.heap.size l0 c k_ ∧ k_ < w2.heap.size) w' (.pointer s.2.2.2.2.2.2.2.2) (rT mir (lT mir (rT mir X)))) ?_ ?_
 rotate_left
 ·intro hCont
  refine two_ (i := 8) (j := 9) (Ni := some 34) (Nj := some 11) #[true, true, true, true, true, true, true, true, true, false, false] #[true, true, true, true, true, true, true, true, false, true, false] rfl rfl rfl rfl (by kernel_rfl) (by decide) (by decide) (fun K hK => ?_) (fun K hK => ?_)
  ·skip
   refine goes_ Tryd.func24 (by kernel_rfl) rfl #[.pointer (some ⟨wg.heap.size + 2 + 2 * c, 0, none⟩), .agg #[.int .i64 kind, .bool mir], .bool rt] (by rfl) rfl rfl (by (try simp only [List.map_toArray, List.map_cons, List.map_nil]); first | done | rfl) ?_
   with_reducible refine (look_any (S := (fun k_ => SetC wg.heap.size l0 c k_ ∧ k_ < w2.heap.size)) _ X _ _ _ _ (by first | exact HRX.out.below ((Below.refl _ _).drew) | exact HRX.out.below HBA.out)).mono ?_
   rintro e wL ⟨pl, pr, pll, plr, prl, prr, pa, pb, rfl, hLb, r1, r2, r3, r4, r5, r6, r7, r8⟩
   refine ⟨_, rfl, ?_⟩
   refine hK.out _ _ ⟨(hLb.cell (blt _ _ hHeld.1)).trans hHeld.1, (hLb.cell (blt _ _ hHeld.2.1)).trans hHeld.2.1, (hLb.cell (blt _ _ hHeld.2.2)).trans hHeld.2.2⟩ (fun hHeld => ?_)
   clear hK K
   refine nm 34 ?_
   refine on 9 11 fun K hK => ?_
   refine box_step (by rfl) (N := 11) rfl (cs := #[.bool false, .pointer none, .pointer none, .pointer none, .pointer none, .pointer none, .pointer none, .pointer none, .pointer none, .pointer none, .bool false]) (t := 62) ?hr ?_
   case hr => first | (go_simp; done) | (go_simp; rfl)
   intro g hg wA hbox hbA
   have hgs : w2.heap.size ≤ g := by rw [hg]; exact hLb.size
   refine hK.out _ _ ⟨(hbA.cell (blt _ _ hHeld.1)).trans hHeld.1, (hbA.cell (blt _ _ hHeld.2.1)).trans hHeld.2.1, (hbA.cell (blt _ _ hHeld.2.2)).trans hHeld.2.2⟩ (fun hHeld => ?_)
   clear hK K
   refine nm 11 ?_
   exact norm_ (by simp only [putAll, Act.put, sI, sZ, sS]) (hCont (g, pl, pr, pll, plr, prl, prr, pa, pb) _ ⟨((Below.refl w2.heap.size w2).drew.trans (hLb.mono (Nat.le_refl _))).trans (hbA.mono hLb.size), hgs, hbox, (r1.below hLb).below hbA, (r2.below hLb).below hbA, (r3.below hLb).below hbA, (r4.below hLb).below hbA, (r5.below hLb).below hbA, (r6.below hLb).below hbA, (r7.below hLb).below hbA, (r8.below hLb).below hbA⟩)
  ·skip
   refine box_step (by rfl) (N := 11) rfl (cs := #[.bool false, .pointer none, .pointer none, .pointer none, .pointer none, .pointer none, .pointer none, .pointer none, .pointer none, .pointer none, .bool false]) (t := 62) ?hr ?_
   case hr => first | (go_simp; done) | (go_simp; rfl)
   intro g hg wA hbox hbA
   have HBA := Am (((Below.refl w2.heap.size w2).drew).trans (hbA.mono (Nat.le_refl _)))
   have hgs : w2.heap.size ≤ g := by rw [hg]; exact Nat.le_refl _
   refine hK.out _ _ ⟨(hbA.cell (blt _ _ hHeld.1)).trans hHeld.1, (hbA.cell (blt _ _ hHeld.2.1)).trans hHeld.2.1, (hbA.cell (blt _ _ hHeld.2.2)).trans hHeld.2.2⟩ (fun hHeld => ?_)
   clear hK K
   refine nm 11 ?_
   refine on 8 34 fun K hK => ?_
   refine goes_ Tryd.func24 (by kernel_rfl) rfl #[.pointer (some ⟨wg.heap.size + 2 + 2 * c, 0, none⟩), .agg #[.int .i64 kind, .bool mir], .bool rt] (by rfl) rfl rfl (by (try simp only [List.map_toArray, List.map_cons, List.map_nil]); first | done | rfl) ?_
   with_reducible refine (look_any (S := (fun k_ => SetC wg.heap.size l0 c k_ ∧ k_ < w2.heap.size)) _ X _ _ _ _ (by first | exact HRX.out.below ((Below.refl _ _).drew) | exact HRX.out.below HBA.out)).mono ?_
   rintro e wL ⟨pl, pr, pll, plr, prl, prr, pa, pb, rfl, hLb, r1, r2, r3, r4, r5, r6, r7, r8⟩
   refine ⟨_, rfl, ?_⟩
   refine hK.out _ _ ⟨(hLb.cell (blt _ _ hHeld.1)).trans hHeld.1, (hLb.cell (blt _ _ hHeld.2.1)).trans hHeld.2.1, (hLb.cell (blt _ _ hHeld.2.2)).trans hHeld.2.2⟩ (fun hHeld => ?_)
   clear hK K
   refine nm 34 ?_
   exact norm_ (by simp only [putAll, Act.put, sI, sZ, sS]) (hCont (g, pl, pr, pll, plr, prl, prr, pa, pb) _ ⟨HBA.out.trans (hLb.mono hbA.size), hgs, (hLb.block _ (Array.getElem?_eq_some_iff.1 hbox).1).trans hbox, r1.below hLb, r2.below hLb, r3.below hLb, r4.below hLb, r5.below hLb, r6.below hLb, r7.below hLb, r8.below hLb⟩)
 rintro ⟨g, pl, pr, pll, plr, prl, prr, pa, pb⟩ w3 ⟨hF1, hF2, hF3, y1, y2, y3, y4, y5, y6, y7, y8⟩
 replace hF2 : w2.heap.size ≤ g := hF2
 replace hF3 : w3.heap[g]? = some (.cells #[.bool false, .pointer none, .pointer none, .pointer none, .pointer none, .pointer none, .pointer none, .pointer none, .pointer none, .pointer none, .bool false] 62 (0, 0)) := hF3
 have HY1 : Aside0 (Rep (fun k_ => SetC wg.heap.size l0 c k_ ∧ k_ < w2.heap.size) w3 (.pointer pl) (lT mir X)) := ⟨y1⟩
 have HY2 : Aside0 (Rep (fun k_ => SetC wg.heap.size l0 c k_ ∧ k_ < w2.heap.size) w3 (.pointer pr) (rT mir X)) := ⟨y2⟩
 have HY3 : Aside0 (Rep (fun k_ => SetC wg.heap.size l0 c k_ ∧ k_ < w2.heap.size) w3 (.pointer pll) (lT mir (lT mir X))) := ⟨y3⟩
 have HY4 : Aside0 (Rep (fun k_ => SetC wg.heap.size l0 c k_ ∧ k_ < w2.heap.size) w3 (.pointer plr) (rT mir (lT mir X))) := ⟨y4⟩
 have HY5 : Aside0 (Rep (fun k_ => SetC wg.heap.size l0 c k_ ∧ k_ < w2.heap.size) w3 (.pointer prl) (lT mir (rT mir X))) := ⟨y5⟩
 have HY6 : Aside0 (Rep (fun k_ => SetC wg.heap.size l0 c k_ ∧ k_ < w2.heap.size) w3 (.pointer prr) (rT mir (rT mir X))) := ⟨y6⟩
 have HY7 : Aside0 (Rep (fun k_ => SetC wg.heap.size l0 c k_ ∧ k_ < w2.heap.size) w3 (.pointer pa) (lT mir (lT mir (rT mir X)))) := ⟨y7⟩
 have HY8 : Aside0 (Rep (fun k_ => SetC wg.heap.size l0 c k_ ∧ k_ < w2.heap.size) w3 (.pointer pb) (rT mir (lT mir (rT mir X)))) := ⟨y8⟩
 have hHeld : w3.cell? ⟨wg.heap.size, c, none⟩ = some (.pointer (some ⟨wg.heap.size + 2 + 2 * c, 0, none⟩)) ∧ w3.cell? ⟨w.heap.size, 0, none⟩ = some (.int .i64 kind) ∧ w3.cell? ⟨w.heap.size, 1, none⟩ = some (.bool mir) := ⟨(hF1.cell (p := ⟨wg.heap.size, c, none⟩) hg2).trans HPC.out, (hF1.cell (p := ⟨w.heap.size, 0, none⟩) (Nat.lt_trans hg0 hg2)).trans HB0.out, (hF1.cell (p := ⟨w.heap.size, 1, none⟩) (Nat.lt_trans hg0 hg2)).trans HB1.out⟩
 obtain ⟨hz0, hz1, hz2, hz3, hz4, hz5, hz6, hz7, hz8, hz9, hz10⟩ := vc11 hF3
 have hfz0 := frz_of hF3 0
 have hfz1 := frz_of hF3 1
 have hfz2 := frz_of hF3 2
 have hfz3 := frz_of hF3 3
 have hfz4 := frz_of hF3 4
 have hfz5 := frz_of hF3 5
 have hfz6 := frz_of hF3 6
 have hfz7 := frz_of hF3 7
 have hfz8 := frz_of hF3 8
 have hfz9 := frz_of hF3 9
 have hfz10 := frz_of hF3 10
 have HF1 := Am hF1
 have HF3 := Am hF3
 clear hF1 hF3 y1 y2 y3 y4 y5 y6 y7 y8
 refine norm_ (a' := ?_) ?_ ?_
 rotate_left
 ·simp only [putAll, Act.put, sI, sZ, sS]
  rfl
 refine last_ (i := 10) (N := none) #[true, true, true, true, true, true, true, true, true, true, true] rfl rfl (by kernel_rfl) (by decide) (fun K hK => ?_)
 refine skip_ (w1 := ?_) (by rfl) rfl ?_ ?_
 rotate_left
 ·go_simp
  rfl
 refine hK.out _ _ ?_
 clear hK K
 refine done_ (by kernel_rfl) ?_
 try clear hHeld
 have hV := put11 HF3.out (.bool mir) (.pointer (some ⟨wg.heap.size + 2 + 2 * c, 0, none⟩)) (.pointer pl) (.pointer pr) (.pointer pll) (.pointer plr) (.pointer prl) (.pointer prr) (.pointer pa) (.pointer pb) (.bool rt)
 have hB := below11 HF1.out hF2 (.bool mir) (.pointer (some ⟨wg.heap.size + 2 + 2 * c, 0, none⟩)) (.pointer pl) (.pointer pr) (.pointer pll) (.pointer plr) (.pointer prl) (.pointer prr) (.pointer pa) (.pointer pb) (.bool rt)
 have hK : ∀ k_, k_ < w2.heap.size → (((((((((((w3.setCell ⟨g, 0, none⟩ (.bool mir)).setCell ⟨g, 1, none⟩ (.pointer (some ⟨wg.heap.size + 2 + 2 * c, 0, none⟩))).setCell ⟨g, 2, none⟩ (.pointer pl)).setCell ⟨g, 3, none⟩ (.pointer pr)).setCell ⟨g, 4, none⟩ (.pointer pll)).setCell ⟨g, 5, none⟩ (.pointer plr)).setCell ⟨g, 6, none⟩ (.pointer prl)).setCell ⟨g, 7, none⟩ (.pointer prr)).setCell ⟨g, 8, none⟩ (.pointer pa)).setCell ⟨g, 9, none⟩ (.pointer pb)).setCell ⟨g, 10, none⟩ (.bool rt)).heap[k_]? = w3.heap[k_]? := fun k_ hk_ => setc11 (by omega) (.bool mir) (.pointer (some ⟨wg.heap.size + 2 + 2 * c, 0, none⟩)) (.pointer pl) (.pointer pr) (.pointer pll) (.pointer plr) (.pointer prl) (.pointer prr) (.pointer pa) (.pointer pb) (.bool rt)
 clear hz0 hfz0 hz1 hfz1 hz2 hfz2 hz3 hfz3 hz4 hfz4 hz5 hfz5 hz6 hfz6 hz7 hfz7 hz8 hfz8 hz9 hfz9 hz10 hfz10 HF3 HF1
 generalize (((((((((((w3.setCell ⟨g, 0, none⟩ (.bool mir)).setCell ⟨g, 1, none⟩ (.pointer (some ⟨wg.heap.size + 2 + 2 * c, 0, none⟩))).setCell ⟨g, 2, none⟩ (.pointer pl)).setCell ⟨g, 3, none⟩ (.pointer pr)).setCell ⟨g, 4, none⟩ (.pointer pll)).setCell ⟨g, 5, none⟩ (.pointer plr)).setCell ⟨g, 6, none⟩ (.pointer prl)).setCell ⟨g, 7, none⟩ (.pointer prr)).setCell ⟨g, 8, none⟩ (.pointer pa)).setCell ⟨g, 9, none⟩ (.pointer pb)).setCell ⟨g, 10, none⟩ (.bool rt)) = w4 at hV hB hK ⊢
 have HRpl := Am (HY1.out.keptS (w' := w4) (fun k_ hk_ _ => hK k_ hk_.2))
 have HRpr := Am (HY2.out.keptS (w' := w4) (fun k_ hk_ _ => hK k_ hk_.2))
 have HRpll := Am (HY3.out.keptS (w' := w4) (fun k_ hk_ _ => hK k_ hk_.2))
 have HRplr := Am (HY4.out.keptS (w' := w4) (fun k_ hk_ _ => hK k_ hk_.2))
 have HRprl := Am (HY5.out.keptS (w' := w4) (fun k_ hk_ _ => hK k_ hk_.2))
 have HRprr := Am (HY6.out.keptS (w' := w4) (fun k_ hk_ _ => hK k_ hk_.2))
 have HRpa := Am (HY7.out.keptS (w' := w4) (fun k_ hk_ _ => hK k_ hk_.2))
 have HRpb := Am (HY8.out.keptS (w' := w4) (fun k_ hk_ _ => hK k_ hk_.2))
 have HRp := Am (HRX.out.below hB)
 have HV := Am hV
 have HB := Am hB
 clear HY1 HY2 HY3 HY4 HY5 HY6 HY7 HY8 hK
 have hk0 : w4.cell? ⟨w.heap.size, 0, none⟩ = some (.int .i64 kind) := (hB.cell (p := ⟨w.heap.size, 0, none⟩) (Nat.lt_trans hg0 hg2)).trans HB0.out
 have HK0 := Am hk0
 obtain ⟨hv0, hv1, hv2, hv3, hv4, hv5, hv6, hv7, hv8, hv9, hv10⟩ := vc11 hV
 clear hV hB HPC HB0 HB1
 go_wp2_with (fail)
 refine (can_any mir rt (some ⟨wg.heap.size + 2 + 2 * c, 0, none⟩) pl pr pll plr prl prr pa pb X _ HRp HRpl HRpr HRpll HRplr HRprl HRprr HRpa HRpb kind HKD.out).mono ?_
 rw [HCAN.out]
 rintro e w5 ⟨rfl, h5⟩
 have HB5 := Am (HB.out.trans (h5.mono HB.out.size))
 have H5 := Am h5
 have HV5 := Am ((h5.block _ (Array.getElem?_eq_some_iff.1 HV.out).1).trans HV.out)
 have hk5 := (h5.cell (blt _ _ HK0.out)).trans HK0.out
 clear h5 hv0 hv1 hv2 hv3 hv4 hv5 hv6 hv7 hv8 hv9 hv10 hk0 HV
 obtain ⟨hw0, hw1, hw2, hw3, hw4, hw5, hw6, hw7, hw8, hw9, hw10⟩ := vc11 HV5.out
 go_wp2_with (fail)
 refine (do_any (S := (fun k_ => (fun k_ => SetC wg.heap.size l0 c k_ ∧ k_ < w2.heap.size) k_ ∨ w5.heap.size ≤ k_)) mir rt (some ⟨wg.heap.size + 2 + 2 * c, 0, none⟩) pl pr pll plr prl prr pa pb X _ (fun _ hk_ => .inr hk_) ⟨(HRp.out.below H5.out).mono (fun _ hk_ => .inl hk_)⟩ ⟨(HRpl.out.below H5.out).mono (fun _ hk_ => .inl hk_)⟩ ⟨(HRpr.out.below H5.out).mono (fun _ hk_ => .inl hk_)⟩ ⟨(HRpll.out.below H5.out).mono (fun _ hk_ => .inl hk_)⟩ ⟨(HRplr.out.below H5.out).mono (fun _ hk_ => .inl hk_)⟩ ⟨(HRprl.out.below H5.out).mono (fun _ hk_ => .inl hk_)⟩ ⟨(HRprr.out.below H5.out).mono (fun _ hk_ => .inl hk_)⟩ ⟨(HRpa.out.below H5.out).mono (fun _ hk_ => .inl hk_)⟩ ⟨(HRpb.out.below H5.out).mono (fun _ hk_ => .inl hk_)⟩ kind HKD.out HXN.out HCAN.out).mono ?_
 rintro e w6 ⟨q, W6, rfl, h6a, h6b, h6c⟩
 have HB6 := Am ((HB5.out.trans (h6a.mono HB5.out.size)).trans (h6b.mono (Nat.le_trans HB5.out.size h6a.size)))
 have hge6 : w5.heap.size ≤ W6.heap.size := h6a.size
 have HTOP := Am h6c
 have HTB := Am h6b
 clear h6a h6b h6c hw0 hw1 hw2 hw3 hw4 hw5 hw6 hw7 hw8 hw9 hw10
 have hrf := HRF.out
 subst hrf
 obtain ⟨b6, hq6, hb6, ⟨u6, hcu6⟩, hfu6, hrep6⟩ := top_set HTOP.out HTB.out 1
 injection hq6 with hq6
 subst hq6
 have HREP := Am hrep6
 clear hrep6
 have hge : w2.heap.size ≤ b6 := Nat.le_trans (Nat.le_trans HB5.out.size hge6) hb6
 have HB7 := Am (HB6.out.setCell (p := ⟨b6, 2, none⟩) hge (.int .i64 1))
 go_wp2
 have hf2 := forest2_start (forest_kept HFO.out HB7.out) c (some ⟨b6, 0, none⟩)
 have HF2 := Am hf2
 clear hf2
 have hfin := do_ok_fin w T1
 have HFIN := Am hfin
 clear hfin
 generalize (w6.setCell ⟨b6, 2, none⟩ (.int .i64 1)) = w7 at HB7 HF2 HREP ⊢
 go_loopg [59] l0.length (fun gk vi wr => ∃ i : Nat, vi = .int .i64 (i : Int) ∧ i ≤ l0.length ∧ Aside0 (gk + i = l0.length) ∧ Aside0 (Forest2 wg wr l0 c (some ⟨b6, 0, none⟩) i) ∧ Aside0 (Rep (fun k_ => (fun k_ => SetC wg.heap.size l0 c k_ ∧ k_ < w2.heap.size) k_ ∨ w5.heap.size ≤ k_) wr (.pointer (some ⟨b6, 0, none⟩)) (setW (doT mir X kind) 1)))
 case atStart => exact ⟨0, rfl, Nat.zero_le _, ⟨by omega⟩, HF2, HREP⟩
 case round =>
  clear HF2 HREP
  obtain ⟨i, rfl, hil, HK, HF2, HREP⟩ := hrel
  have hpc : wr.cell? ⟨wg.heap.size, c, none⟩ = some (.pointer (some ⟨wg.heap.size + 2 + 2 * c, 0, none⟩)) := rowIs_cell HF2.out.ptrs c hcl
  by_cases hlt : i < l0.length
  ·have dlt : decide (i < l0.length) = true := decide_eq_true hlt
   have hpi : wr.cell? ⟨wg.heap.size, i, none⟩ = some (.pointer (some ⟨wg.heap.size + 2 + 2 * i, 0, none⟩)) := rowIs_cell HF2.out.ptrs i hlt
   have hni := HF2.out.nodes i hlt
   simp only [Nat.lt_irrefl, false_and, if_false] at hni
   have hf7 := frz_of hni 7
   have hf8 := frz_of hni 8
   have hc7 : wr.cell? ⟨wg.heap.size + 2 + 2 * i, 7, none⟩ = some (.pointer (lpV wg.heap.size l0 i)) := (cell_of hni 7).trans rfl
   have hc8 : wr.cell? ⟨wg.heap.size + 2 + 2 * i, 8, none⟩ = some (.pointer (rpV wg.heap.size l0 i)) := (cell_of hni 8).trans rfl
   clear hni
   by_cases h4 : 0 ≤ (l0.getD i z34).f4
   ·rw [lpV, if_pos h4, nb] at hc7
    rw [rpV, if_pos h4, nb] at hc8
    have hk := HT.out.kids i hlt h4
    have hnc := HF2.out.nodes c hcl
    have hnl := HF2.out.nodes (l0.getD i z34).f4.toNat (by omega)
    have hnr := HF2.out.nodes (l0.getD i z34).f5.toNat (by omega)
    have hes := eqp_same wr ⟨wg.heap.size + 2 + 2 * c, 0, none⟩
    by_cases el : (l0.getD i z34).f4.toNat = c
    ·have er : (l0.getD i z34).f5.toNat ≠ c := fun e_ => hk.2.2.2 (by omega)
     have hst := forest2_left HF2.out h4 el er
     have hrp := HREP.out.keptS (w' := wr.setCell ⟨wg.heap.size + 2 + 2 * i, 7, none⟩ (.pointer (some ⟨b6, 0, none⟩))) (fun k_ hk_ _ => Below.heap_setCell _ _ _ _ (by show k_ ≠ wg.heap.size + 2 + 2 * i; rcases hk_ with ⟨⟨j_, hj1, _, hj3⟩, _⟩ | hk_; rintro rfl; exact hj3 (by rw [show j_ = i by omega]; exact ⟨h4, .inl el⟩); have hz_ := (Array.getElem?_eq_some_iff.1 (HFO.out.nodes i hlt)).1; have hz2 := HB5.out.size; omega))
     have HST := Am hst
     have HRP := Am hrp
     rw [el] at hc7
     clear hst hrp hk er el h4 hc8 hnc hnl hnr
     go_wp2
     go_roundg (gk - 1)
     case measure => have := HK.out; omega
     case rel => exact ⟨i + 1, by go_num, by omega, ⟨by have := HK.out; omega⟩, HST, HRP⟩
    ·have hel := eqp_other wr (a := ⟨wg.heap.size + 2 + 2 * c, 0, none⟩) (b := ⟨wg.heap.size + 2 + 2 * (l0.getD i z34).f4.toNat, 0, none⟩) (fun e_ => by injection e_ with e_; omega) hnc hnl
     by_cases er : (l0.getD i z34).f5.toNat = c
     ·have hst := forest2_right HF2.out h4 el er
      have hrp := HREP.out.keptS (w' := wr.setCell ⟨wg.heap.size + 2 + 2 * i, 8, none⟩ (.pointer (some ⟨b6, 0, none⟩))) (fun k_ hk_ _ => Below.heap_setCell _ _ _ _ (by show k_ ≠ wg.heap.size + 2 + 2 * i; rcases hk_ with ⟨⟨j_, hj1, _, hj3⟩, _⟩ | hk_; rintro rfl; exact hj3 (by rw [show j_ = i by omega]; exact ⟨h4, .inr er⟩); have hz_ := (Array.getElem?_eq_some_iff.1 (HFO.out.nodes i hlt)).1; have hz2 := HB5.out.size; omega))
      have HST := Am hst
      have HRP := Am hrp
      rw [er] at hc8
      clear hst hrp hk h4 hnc hnl hnr er el
      generalize (l0.getD i z34).f4.toNat = cl at hc7 hel
      go_wp2
      go_roundg (gk - 1)
      case measure => have := HK.out; omega
      case rel => exact ⟨i + 1, by go_num, by omega, ⟨by have := HK.out; omega⟩, HST, HRP⟩
     ·have her := eqp_other wr (a := ⟨wg.heap.size + 2 + 2 * c, 0, none⟩) (b := ⟨wg.heap.size + 2 + 2 * (l0.getD i z34).f5.toNat, 0, none⟩) (fun e_ => by injection e_ with e_; omega) hnc hnr
      have hst := forest2_skip HF2.out (fun hc_ => by rcases hc_.2 with e_ | e_; exact el e_; exact er e_)
      have HST := Am hst
      clear hst hk h4 el er hnc hnl hnr
      generalize (l0.getD i z34).f4.toNat = cl at hc7 hel
      generalize (l0.getD i z34).f5.toNat = cr at hc8 her
      go_wp2
      go_roundg (gk - 1)
      case measure => have := HK.out; omega
      case rel => exact ⟨i + 1, by go_num, by omega, ⟨by have := HK.out; omega⟩, HST, HREP⟩
   ·rw [lpV, if_neg h4] at hc7
    rw [rpV, if_neg h4] at hc8
    have hst := forest2_skip HF2.out (fun hc_ => h4 hc_.1)
    have HST := Am hst
    clear hst h4
    go_wp2
    go_roundg (gk - 1)
    case measure => have := HK.out; omega
    case rel => exact ⟨i + 1, by go_num, by omega, ⟨by have := HK.out; omega⟩, HST, HREP⟩
  ·obtain rfl : i = l0.length := by omega
   have dlt : decide (l0.length < l0.length) = false := decide_eq_false (Nat.lt_irrefl _)
   have hp0 : wr.cell? ⟨wg.heap.size, 0, none⟩ = some (.pointer (some ⟨wg.heap.size + 2 + 2 * 0, 0, none⟩)) := rowIs_cell HF2.out.ptrs 0 (by omega)
   have h0l : 0 < l0.length := by omega
   clear hlt hpc
   go_wp2_with (fail)
   refine (flat_any _ T1 _ (rep_repl HF2.out HREP.out K1 0 T1 HT1.out) HFULL.out HSZ.out).mono ?_
   rintro e w8 ⟨v8, rfl, h8a, h8b⟩
   have HFP := Am (HFIN.out wg wr v8 w8 HBW.out HF2.out.bel ⟨v8, rfl, h8a, h8b⟩)
   obtain ⟨A8, c8, rfl⟩ := Kd.R_slice h8a
   clear h8a h8b
   go_wp2
   go_ret2
   exact HFP.out
theorem do_err1 (k : Nat) (A0 : Option Addr) (c0 : Nat) (l0 : List S34) (a1 kind : Int) (mir : Bool) (r1 : Int) (r2 : List Bool) (r3 : Int) (w : World) (hr0 : Kd.C k34 w A0 l0.length l0) (hc0 : l0.length ≤ c0)
  (h : steps_keys.f k l0 = some (r1, r2, r3)) (h3 : r3 ≠ 0) :
  Calls Tryd.prog 16 #[.slice A0 l0.length c0, .int .i64 a1, .agg #[.int .i64 kind, .bool mir]] w (RB w (.tuple #[.slice none 0 0, .int .i64 r3])) := by
 have hu62 := Tryd.underlying32
 have hu111 := Tryd.underlying62
 have hu116 := Tryd.underlying66
 have hu34 := Tryd.underlying50
 have HR := Am hr0
 have HC := Am hc0
 have d3 : (r3 != 0) = true := bne_iff_ne.mpr h3
 have H_h := Am h
 clear h
 have H_h3 := Am h3
 clear h3
 clear hr0 hc0
 go_enter Tryd.func16, Tryd.ntmps16
 go_wp2_with (fail)
 refine (at_err1 k A0 c0 l0 a1 kind mir true r1 r2 r3 _ (Kd.C_below HR.out ((Below.refl _ _).alloc (Nat.le_refl _) _)) HC.out H_h.out H_h3.out).mono ?_
 rintro e w2 ⟨rfl, hbg⟩
 have hbw : Below w.heap.size w w2 := ((Below.refl _ _).alloc (Nat.le_refl _) _).trans (hbg.mono (by simp))
 have HBW := Am hbw
 clear hbg hbw
 go_wp2
 go_ret2
 exact ⟨rfl, HBW.out⟩
theorem do_err2 (k : Nat) (A0 : Option Addr) (c0 : Nat) (l0 : List S34) (a1 kind : Int) (mir : Bool) (r1 : Int) (r2 : List Bool) (w : World) (hr0 : Kd.C k34 w A0 l0.length l0) (hc0 : l0.length ≤ c0)
  (h : steps_keys.f k l0 = some (r1, r2, 0)) (hm : steps_Move_is.f kind mir = some false) :
  Calls Tryd.prog 16 #[.slice A0 l0.length c0, .int .i64 a1, .agg #[.int .i64 kind, .bool mir]] w (RB w (.tuple #[.slice none 0 0, .int .i64 5])) := by
 have hu62 := Tryd.underlying32
 have hu111 := Tryd.underlying62
 have hu116 := Tryd.underlying66
 have hu34 := Tryd.underlying50
 have HR := Am hr0
 have HC := Am hc0
 have H_h := Am h
 clear h
 have H_hm := Am hm
 clear hm
 clear hr0 hc0
 go_enter Tryd.func16, Tryd.ntmps16
 go_wp2_with (fail)
 refine (at_err2 k A0 c0 l0 a1 kind mir r1 r2 _ (Kd.C_below HR.out ((Below.refl _ _).alloc (Nat.le_refl _) _)) HC.out H_h.out H_hm.out).mono ?_
 rintro e w2 ⟨rfl, hbg⟩
 have hbw : Below w.heap.size w w2 := ((Below.refl _ _).alloc (Nat.le_refl _) _).trans (hbg.mono (by simp))
 have HBW := Am hbw
 clear hbg hbw
 go_wp2
 go_ret2
 exact ⟨rfl, HBW.out⟩
theorem do_err3 (k : Nat) (A0 : Option Addr) (c0 : Nat) (l0 : List S34) (a1 kind : Int) (mir : Bool) (r1 : Int) (r2 : List Bool) (w : World) (hr0 : Kd.C k34 w A0 l0.length l0) (hc0 : l0.length ≤ c0)
  (h : steps_keys.f k l0 = some (r1, r2, 0)) (hm : steps_Move_is.f kind mir = some true) (hp : a1 < 0 ∨ (l0.length : Int) ≤ a1) :
  Calls Tryd.prog 16 #[.slice A0 l0.length c0, .int .i64 a1, .agg #[.int .i64 kind, .bool mir]] w (RB w (.tuple #[.slice none 0 0, .int .i64 1])) := by
 have hu62 := Tryd.underlying32
 have hu111 := Tryd.underlying62
 have hu116 := Tryd.underlying66
 have hu34 := Tryd.underlying50
 have HR := Am hr0
 have HC := Am hc0
 have H_h := Am h
 clear h
 have H_hm := Am hm
 clear hm
 have H_hp := Am hp
 clear hp
 clear hr0 hc0
 go_enter Tryd.func16, Tryd.ntmps16
 go_wp2_with (fail)
 refine (at_err3t k A0 c0 l0 a1 kind mir r1 r2 _ (Kd.C_below HR.out ((Below.refl _ _).alloc (Nat.le_refl _) _)) HC.out H_h.out (fun _ => H_hm.out) H_hp.out).mono ?_
 rintro e w2 ⟨rfl, hbg⟩
 have hbw : Below w.heap.size w w2 := ((Below.refl _ _).alloc (Nat.le_refl _) _).trans (hbg.mono (by simp))
 have HBW := Am hbw
 clear hbg hbw
 go_wp2
 go_ret2
 exact ⟨rfl, HBW.out⟩
theorem do_err4 (k : Nat) (A0 : Option Addr) (c0 : Nat) (l0 : List S34) (a1 kind : Int) (mir : Bool) (r1 : Int) (r2 : List Bool) (w : World) (hr0 : Kd.C k34 w A0 l0.length l0) (hc0 : l0.length ≤ c0)
  (h : steps_keys.f k l0 = some (r1, r2, 0)) (hm : steps_Move_is.f kind mir = some true) (hp0 : 0 ≤ a1) (hp1 : a1 < l0.length) (hp2 : a1 < r2.length) (hbel : rdOf false r2 a1 = false) :
  Calls Tryd.prog 16 #[.slice A0 l0.length c0, .int .i64 a1, .agg #[.int .i64 kind, .bool mir]] w (RB w (.tuple #[.slice none 0 0, .int .i64 1])) := by
 have hu62 := Tryd.underlying32
 have hu111 := Tryd.underlying62
 have hu116 := Tryd.underlying66
 have hu34 := Tryd.underlying50
 have HR := Am hr0
 have HC := Am hc0
 have H_h := Am h
 clear h
 have H_hm := Am hm
 clear hm
 have H_hbel := Am hbel
 clear hbel
 have H_hp0 := Am hp0
 clear hp0
 have H_hp1 := Am hp1
 clear hp1
 have H_hp2 := Am hp2
 clear hp2
 clear hr0 hc0
 go_enter Tryd.func16, Tryd.ntmps16
 go_wp2_with (fail)
 refine (at_err4t k A0 c0 l0 a1 kind mir r1 r2 _ (Kd.C_below HR.out ((Below.refl _ _).alloc (Nat.le_refl _) _)) HC.out H_h.out (fun _ => H_hm.out) H_hp0.out H_hp1.out H_hp2.out H_hbel.out).mono ?_
 rintro e w2 ⟨rfl, hbg⟩
 have hbw : Below w.heap.size w w2 := ((Below.refl _ _).alloc (Nat.le_refl _) _).trans (hbg.mono (by simp))
 have HBW := Am hbw
 clear hbg hbw
 go_wp2
 go_ret2
 exact ⟨rfl, HBW.out⟩
def okB (t : List S34) : Bool := decide (t.length ≤ 100000) && t.all (fun n => decide (n.f4 < 0) || (decide (n.f4 < t.length) && decide (0 ≤ n.f5) && decide (n.f5 < t.length) && decide (n.f4 ≠ n.f5)))
theorem okT_of {t : List S34} (h : okB t = true) : OkT t := by
 simp only [okB, Bool.and_eq_true, decide_eq_true_eq, List.all_eq_true] at h
 refine ⟨h.1, fun i hi h4 => ?_⟩
 have hm : t.getD i z34 ∈ t := by rw [List.getD, List.getElem?_eq_getElem hi, Option.getD_some]; exact List.getElem_mem hi
 have := h.2 _ hm
 simp only [Bool.or_eq_true, Bool.and_eq_true, decide_eq_true_eq] at this
 omega
def fullB : Tr → Bool
 | .nil => false
 | .node _ _ .nil .nil => true
 | .node _ _ .nil (.node ..) => false
 | .node _ _ (.node ..) .nil => false
 | .node _ _ (.node n p l r) (.node n' p' l' r') => fullB (.node n p l r) && fullB (.node n' p' l' r')
theorem full_of : ∀ {T : Tr}, fullB T = true → Full T
 | .nil, h => by simp [fullB] at h
 | .node _ _ .nil .nil, _ => by unfold Full; trivial
 | .node _ _ .nil (.node ..), h => by simp [fullB] at h
 | .node _ _ (.node ..) .nil, h => by simp [fullB] at h
 | .node _ _ (.node n p l r) (.node n' p' l' r'), h => by
  rw [fullB, Bool.and_eq_true] at h
  unfold Full
  exact ⟨full_of h.1, full_of h.2⟩
def outT (T1 : Tr) : Option (List S34 × Int) := if fullB T1 = true then (if sizeT T1 ≤ 1000000 then some (flatT T1 0, 0) else none) else none
def doGood (l0 : List S34) (rt : Bool) (c : Nat) (kind : Int) (mir : Bool) : Option (List S34 × Int) :=
 if okB l0 = true then (mkT l0 l0.length c).bind fun X =>
  if canT mir rt X kind = true then
   (if rt = true then (mkR l0 c (setW (doT mir X kind) 1) l0.length 0).bind outT
   else if 1000000 < wt (doT mir X kind) then some ([], 2) else (mkR l0 c (doT mir X kind) l0.length 0).bind outT)
  else some ([], 6)
 else none
def steps_Do.f (k : Nat) (l0 : List S34) (a1 a2_0 : Int) (a2_1 : Bool) : Option (List S34 × Int) :=
 (steps_keys.f k l0).bind fun bt => if bt.2.2 = 0 then ((steps_Move_is.f a2_0 a2_1).bind fun t => if t = true then (if a1 < 0 ∨ (l0.length : Int) ≤ a1 then some ([], 1) else (if a1 < bt.2.1.length then (if rdOf false bt.2.1 a1 = true then doGood l0 (a1 == bt.1) a1.toNat a2_0 a2_1 else some ([], 1)) else none)) else some ([], 5)) else some ([], bt.2.2)
theorem move_kind {kind : Int} {mir : Bool} (h : steps_Move_is.f kind mir = some true) : 1 ≤ kind ∧ kind ≤ 12 := by
 unfold steps_Move_is.f at h
 split at h
 ·split at h
  ·omega
  ·exact absurd h (by simp)
 ·exact absurd h (by simp)
theorem outT_some {T1 : Tr} {r1 : List S34} {r2 : Int} (h : outT T1 = some (r1, r2)) : Full T1 ∧ sizeT T1 ≤ 1000000 ∧ r1 = flatT T1 0 ∧ r2 = 0 := by
 unfold outT at h
 split at h
 ·rename_i h1
  split at h
  ·rename_i h2
   injection h with h
   injection h with ha hb
   exact ⟨full_of h1, h2, ha.symm, hb.symm⟩
  ·exact absurd h (by simp)
 ·exact absurd h (by simp)
theorem do_nil {w : World} (x : Int) : ∀ (e : Ending) (w' : World), e = .returned (.tuple #[.slice none 0 0, .int .i64 x]) ∧ Below w.heap.size w w' → ∃ v0_ : Value, e = .returned (.tuple #[v0_, .int .i64 x]) ∧ Kd.R k34 50 w' w.heap.size (fun _ => True) v0_ [] ∧ Below w.heap.size w w' :=
 fun _ _ ⟨h1, h2⟩ => ⟨_, h1, Kd.R_nil _ _ _ _ _, h2⟩
theorem steps_Do.calls (k : Nat) (A0 : Option Addr) (c0 : Nat) (l0 : List S34) (a1 a2_0 : Int) (a2_1 : Bool) (r1 : List S34) (r2 : Int) (w : World) (hr0 : Kd.C k34 w A0 l0.length l0) (hc0 : l0.length ≤ c0) (h : steps_Do.f k l0 a1 a2_0 a2_1 = some (r1, r2)) :
  Calls Tryd.prog 16 #[.slice A0 l0.length c0, .int .i64 a1, .agg #[.int .i64 a2_0, .bool a2_1]] w fun e w' => ∃ v0_ : Value, e = .returned (.tuple #[v0_, .int .i64 r2]) ∧ Kd.R k34 50 w' w.heap.size (fun _ => True) v0_ r1 ∧ Below w.heap.size w w' := by
 unfold steps_Do.f at h
 obtain ⟨⟨q1, q2, q3⟩, hb, h⟩ := Option.bind_eq_some_iff.1 h
 dsimp only at h
 split at h
 ·rename_i h3
  subst h3
  obtain ⟨t, hm, h⟩ := Option.bind_eq_some_iff.1 h
  split at h
  ·rename_i ht
   subst ht
   split at h
   ·rename_i hp
    injection h with h
    injection h with ha hb'
    subst ha hb'
    exact (do_err3 k A0 c0 l0 a1 a2_0 a2_1 q1 q2 w hr0 hc0 hb hm hp).mono (do_nil 1)
   ·rename_i hp
    split at h
    ·rename_i hp2
     split at h
     ·rename_i hbel
      obtain ⟨c, rfl⟩ : ∃ c : Nat, a1 = c := ⟨a1.toNat, by omega⟩
      rw [Int.toNat_natCast] at h
      unfold doGood at h
      split at h
      ·rename_i hok
       obtain ⟨X, hX, h⟩ := Option.bind_eq_some_iff.1 h
       split at h
       ·rename_i hcan
        split at h
        ·rename_i hrt
         obtain ⟨T1, hT1, h⟩ := Option.bind_eq_some_iff.1 h
         obtain ⟨g1, g2, rfl, rfl⟩ := outT_some h
         exact do_ok1 k A0 c0 l0 c a2_0 a2_1 q1 q2 w hr0 hc0 hb hm (move_kind hm) (by omega) hp2 hbel (okT_of hok) _ X hX _ rfl hrt hcan _ T1 hT1 g1 g2
        ·rename_i hrt
         split at h
         ·rename_i hbig
          injection h with h
          injection h with ha hb'
          subst ha hb'
          exact (do_big k A0 c0 l0 c a2_0 a2_1 q1 q2 w hr0 hc0 hb hm (move_kind hm) (by omega) hp2 hbel (okT_of hok) _ X hX _ rfl (Bool.eq_false_iff.2 hrt) hcan hbig).mono (do_nil 2)
         ·rename_i hbig
          obtain ⟨T1, hT1, h⟩ := Option.bind_eq_some_iff.1 h
          obtain ⟨g1, g2, rfl, rfl⟩ := outT_some h
          exact do_ok0 k A0 c0 l0 c a2_0 a2_1 q1 q2 w hr0 hc0 hb hm (move_kind hm) (by omega) hp2 hbel (okT_of hok) _ X hX _ rfl (Bool.eq_false_iff.2 hrt) hcan hbig _ T1 hT1 g1 g2
       ·rename_i hcan
        injection h with h
        injection h with ha hb'
        subst ha hb'
        exact (do_nocan k A0 c0 l0 c a2_0 a2_1 q1 q2 w hr0 hc0 hb hm (move_kind hm) (by omega) hp2 hbel (okT_of hok) _ X hX _ rfl (Bool.eq_false_iff.2 hcan)).mono (do_nil 6)
      ·exact absurd h (by simp)
     ·rename_i hbel
      injection h with h
      injection h with ha hb'
      subst ha hb'
      exact (do_err4 k A0 c0 l0 a1 a2_0 a2_1 q1 q2 w hr0 hc0 hb hm (by omega) (by omega) hp2 (Bool.eq_false_iff.2 hbel)).mono (do_nil 1)
    ·exact absurd h (by simp)
  ·rename_i ht
   injection h with h
   injection h with ha hb'
   subst ha hb'
   exact (do_err2 k A0 c0 l0 a1 a2_0 a2_1 q1 q2 w hr0 hc0 hb (by rw [hm, Bool.eq_false_iff.2 ht])).mono (do_nil 5)
 ·rename_i h3
  injection h with h
  injection h with ha hb'
  subst ha hb'
  exact (do_err1 k A0 c0 l0 a1 a2_0 a2_1 q1 q2 q3 w hr0 hc0 hb h3).mono (do_nil q3)
section
attribute [local go_sem] max2_int min2_int max_two min_two max_three min_three max_four min_four
end
theorem heap_alloc_at {W : World} {n : Nat} (h : W.heap.size = n) (o : Obj) : (W.alloc o).heap[n]? = some o := by subst h; exact heap_alloc_new W o
def someL (x y : Int) : List S34 := [⟨0, 1, 1, 0, 1, 6⟩, ⟨0, 1, 1, 0, 2, 5⟩, ⟨2, 0, 1, 0, 3, 4⟩, ⟨1, 0, x, 0, -1, -1⟩, ⟨2, 0, y, 0, -1, -1⟩, ⟨0, 1, 1, 0, -1, -1⟩, ⟨0, 1, 1, 0, -1, -1⟩]
theorem some_any (w : World) : Calls Tryd.prog 15 #[] w fun e w' => ∃ g, e = .returned (.tuple #[.slice (some ⟨g, 0, none⟩) 7 7, .int .i64 2]) ∧ w.heap.size ≤ g ∧ w'.heap[g]? = some (.cells (rowL (someL 2 2)).toArray 50 (0, 0)) ∧ Below w.heap.size w w' := by
 have hu34 := Tryd.underlying50
 go_enter Tryd.func15, Tryd.ntmps15
 go_wp2
 go_ret2
 exact ⟨_, rfl, by omega, heap_alloc_at (by simp) _, ba (ba (ba (ba (Below.refl _ _) _) _) _) _⟩
theorem some_R {W : World} {base g : Nat} {x y : Int} (h : W.heap[g]? = some (.cells (rowL (someL x y)).toArray 50 (0, 0))) (hg : base ≤ g) : Kd.R k34 50 W base (fun _ => True) (.slice (some ⟨g, 0, none⟩) 7 7) (someL x y) := by
 have hl : (rowL (someL x y)).length = 7 * 6 := rowL_len _
 refine row_R (xs := someL x y) ⟨hl, .inr ⟨g, 7, (rowL (someL x y)).toArray, rfl, hg, h, Nat.le_refl _, by simp [maxLen], by rw [List.size_toArray]; exact hl, ?_⟩⟩
 exact List.take_of_length_le (Nat.le_of_eq hl)
theorem wake_do : ∃ k, steps_Do.f k (someL 2 2) 2 11 false = some (someL 1 1, 0) ∧ larchref18_SameTable.f k (someL 1 1) (someL 1 1) = some true := ⟨30, by kernel_rfl, by kernel_rfl⟩
theorem awake_any (w : World) : Calls Tryd.prog 4 #[] w (RB w (.bool true)) := by
 obtain ⟨k, h1, h2⟩ := wake_do
 have H1 := Am h1
 have H2 := Am h2
 clear h1 h2
 go_enter Tryd.func4, Tryd.ntmps4
 go_wp2_with (fail)
 refine (some_any _).mono ?_
 rintro e w1 ⟨g, rfl, hg, hk, hb⟩
 have HG := Am hg
 have HK := Am hk
 have HB := Am hb
 clear hg hk hb
 go_wp2_with (fail)
 refine (steps_Do.calls k (some ⟨g, 0, none⟩) 7 (someL 2 2) 2 11 false _ 0 _ (Kd.R_reads' (some_R HK.out (Nat.le_refl _))).2.2 (Nat.le_refl _) H1.out).mono ?_
 rintro e w2 ⟨v2, rfl, ho, hb⟩
 obtain ⟨ga, ca, rfl, hga, -, -⟩ := Kd.R_form ho (by decide)
 have hlt := blk_lt HK.out
 have HO := Am ho
 have hk := (hb.block g hlt).trans HK.out
 have HB2 := Am (HB.out.trans (hb.mono HB.out.size))
 have z3 : w2.cell? ⟨g, 20, none⟩ = some (.int .i64 2) := (cell_of hk 20).trans rfl
 have z4 : w2.cell? ⟨g, 26, none⟩ = some (.int .i64 2) := (cell_of hk 26).trans rfl
 have f3 := frz_of hk 20
 have f4 := frz_of hk 26
 have HK2 := Am hk
 have HN := Am (show g ≠ ga by omega)
 clear ho hb hk HB HK hga
 go_wp2_with (fail)
 have hA := Kd.R_drop (Kd.R_far (p := ⟨g, 26, none⟩) (Kd.R_far1 (Kd.R_drop (Kd.R_far (p := ⟨g, 20, none⟩) (Kd.R_far1 HO.out rfl (g := g) (by simpa [Value.ownBlock] using HN.out)) (fun _ hk => hk.2) (.int .i64 1))) rfl (g := g) (by simpa [Value.ownBlock] using HN.out)) (fun _ hk => hk.2) (.int .i64 1))
 have hk := blk_set (blk_set HK2.out 20 (.int .i64 1)) 26 (.int .i64 1)
 refine (larchref18_SameTable.calls k (some ⟨ga, 0, none⟩) ca (someL 1 1) (some ⟨g, 0, none⟩) 7 (someL 1 1) true _ (Kd.R_reads' hA).2.2 (Kd.R_reads' hA).2.1 (Kd.R_reads' (some_R (x := 1) (y := 1) hk HG.out)).2.2 (Nat.le_refl _) H2.out).mono ?_
 rintro e w4 ⟨rfl, m, rfl⟩
 go_wp2
 go_ret
 exact ⟨rfl, bn (below_set (below_set HB2.out HG.out) HG.out) _⟩
end Go.Proofs.YtgleaefhflamnaaDoor.T
namespace Go.Proofs.YtgleaefhflamnaaDoor.U
open Go.RowKit Go.Proofs.YtgleaefhflamnaaDoorW.PrintWords Go.Proofs.YtgleaefhflamnaaDoorW.PrintLast Go.Proofs.YtgleaefhflamnaaDoorW.PrintMore
open Go.Proofs.YtgleaefhflamnaaDoor.T (pu ta po on gO sT nm cz2)
set_option linter.unusedVariables false
set_option linter.unusedSimpArgs false
def Tab (w : World) : Prop := Lib.TabBelow Tryd.prog w.heap.size w "strings.asciiSpace" .u8 Lib.asciiSpaceTab
theorem Tab.below {w W : World} (h : Tab w) (hb : Below w.heap.size w W) : Tab W := fun w' hb' => h w' (below_step hb hb')
def namesB : ByteArray := ⟨#[66, 76, 75, 32, 82, 66, 49, 32, 82, 66, 50, 32, 80, 85, 83, 72, 32, 87, 49, 32, 87, 50, 32, 87, 51, 32, 87, 52, 32, 87, 53, 32, 87, 54, 32, 87, 55, 32, 82, 79, 79, 84]⟩
def nm12 : List ByteArray := [⟨#[66, 76, 75]⟩, ⟨#[82, 66, 49]⟩, ⟨#[82, 66, 50]⟩, ⟨#[80, 85, 83, 72]⟩, ⟨#[87, 49]⟩, ⟨#[87, 50]⟩, ⟨#[87, 51]⟩, ⟨#[87, 52]⟩, ⟨#[87, 53]⟩, ⟨#[87, 54]⟩, ⟨#[87, 55]⟩, ⟨#[82, 79, 79, 84]⟩]
def mirB : ByteArray := ⟨#[32, 109, 105, 114, 114, 111, 114]⟩
theorem fields_calls (w : World) (h : Tab w) : Calls Tryd.prog 21 #[.string ⟨#[66, 76, 75, 32, 82, 66, 49, 32, 82, 66, 50, 32, 80, 85, 83, 72, 32, 87, 49, 32, 87, 50, 32, 87, 51, 32, 87, 52, 32, 87, 53, 32, 87, 54, 32, 87, 55, 32, 82, 79, 79, 84]⟩] w fun e w' =>
  e = .returned (.slice (some ⟨w.heap.size, 0, none⟩) 12 12) ∧ w'.heap[w.heap.size]? = some (.cells (nm12.map Value.string).toArray 9 (0, 0)) ∧ Below w.heap.size w w' := by
 refine (Tryd.strings_Fields namesB w (by decide) (fun j b hj => (by decide : ∀ b ∈ namesB.data.toList, b.toNat < 128) b (List.mem_of_getElem? hj)) (h w (Below.refl _ _))).mono ?_
 rintro e w' ⟨rfl, rfl⟩
 have hf : (Lib.fields namesB.data.toList).map (fun l => Value.string ⟨l.toArray⟩) = nm12.map Value.string := by kernel_rfl
 have hl : (Lib.fields namesB.data.toList).length = 12 := by kernel_rfl
 refine ⟨by rw [hl], ?_, below_alloc (Below.refl _ _) _⟩
 rw [hf]
 exact heap_alloc_new w _
def steps_Name.f (a0 : Int) (a1 : Bool) : Option (ByteArray × Int) := (T.steps_Move_is.f a0 a1).bind fun b => if b = true then some ((if a1 = true then rdOf ByteArray.empty nm12 (a0 - 1) ++ mirB else rdOf ByteArray.empty nm12 (a0 - 1)), 0) else some (ByteArray.empty, 5)
set_option maxHeartbeats 8000000 in
set_option maxRecDepth 100000 in
theorem steps_Name.calls (a0 : Int) (a1 : Bool) (r1 : ByteArray) (r2 : Int) (w : World) (h : steps_Name.f a0 a1 = some (r1, r2))
  (ht : Tab w := by exact Tab.below TAB.out (by repeat (first | (with_reducible first | exact HB.out | apply below_alloc | apply pw_below_drewN | apply below_drew1 | refine T.bst ?_ (by assumption)) | exact HB.out))) :
  Calls Tryd.prog 7 #[.agg #[.int .i64 a0, .bool a1]] w fun e w' => e = .returned (.tuple #[.string r1, .int .i64 r2]) ∧ Below w.heap.size w w' := by
 have hu32 := Tryd.underlying32
 unfold steps_Name.f at h
 obtain ⟨b, hb, h2⟩ := Option.bind_eq_some_iff.1 h
 clear h
 have HM := Aside0.mk hb
 have HT := Aside0.mk ht
 have H := Aside0.mk h2
 clear hb ht h2
 go_enter Tryd.func7, Tryd.ntmps7
 go_wp2_with (fail)
 refine (T.steps_Move_is.calls a0 a1 b _ HM.out).mono ?_
 rintro _ w1 ⟨rfl, hb⟩
 have HB := Aside0.mk (((Below.refl w.heap.size w).alloc (Nat.le_refl _) (.cells #[.int .i64 a0, .bool a1] 32)).trans (hb.mono (by simp)) : Below w.heap.size w w1)
 have HK := Aside0.mk (show w1.heap[w.heap.size]? = some (.cells #[.int .i64 a0, .bool a1] 32 (0, 0)) by rw [hb.block _ (by simp)]; exact heap_alloc_new w _)
 clear hb
 cases b
 ·have h := H.out
  obtain ⟨rfl, rfl⟩ := Prod.mk.inj (Option.some.inj h)
  clear h H
  go_wp2
  go_ret2
  exact ⟨rfl, HB.out⟩
 have hk := T.move_kind HM.out
 have h := H.out
 rw [if_pos rfl] at h
 obtain ⟨rfl, rfl⟩ := Prod.mk.inj (Option.some.inj h)
 clear h H
 obtain ⟨k1, k2⟩ := hk
 have hcase : a0 = 1 ∨ a0 = 2 ∨ a0 = 3 ∨ a0 = 4 ∨ a0 = 5 ∨ a0 = 6 ∨ a0 = 7 ∨ a0 = 8 ∨ a0 = 9 ∨ a0 = 10 ∨ a0 = 11 ∨ a0 = 12 := by omega
 clear k1 k2 HM
 have HC := Aside0.mk hcase
 clear hcase
 obtain ⟨z0, z1⟩ := cz2 HK.out
 cases a1
 ·rcases HC.out with rfl | rfl | rfl | rfl | rfl | rfl | rfl | rfl | rfl | rfl | rfl | rfl
  ·clear HC
   have wv : wrap64 0 = 0 := Go.IntWalk.wrap64_in _ (by decide)
   go_wp2
   clear z0 z1
   refine sT 7 [] (S := fun W' => Below w1.heap.size w1 W') (below_drew1 (Below.refl _ _)) fun hHeld => ?_
   generalize w1.drew = w2 at hHeld ⊢
   refine pu 1 9 ?_
   refine ta 2 10 hHeld (hy := by intro w' hs; obtain ⟨z0, z1⟩ := cz2 (blk_below HK.out hs); go_simp; with_reducible rfl) ?_
   refine pu 3 11 ?_
   refine on 0 8 fun K hK => ?_
   refine gO Tryd.func21 #[.string ⟨#[66, 76, 75, 32, 82, 66, 49, 32, 82, 66, 50, 32, 80, 85, 83, 72, 32, 87, 49, 32, 87, 50, 32, 87, 51, 32, 87, 52, 32, 87, 53, 32, 87, 54, 32, 87, 55, 32, 82, 79, 79, 84]⟩] ?_
   refine (fields_calls _ (Tab.below (Tab.below HT.out HB.out) hHeld)).mono ?_
   rintro e w3 ⟨rfl, hx, hb⟩
   refine ⟨_, rfl, ?_⟩
   have HX := Aside0.mk hx
   have HB3 := Aside0.mk (below_step hHeld hb : Below w1.heap.size w1 w3)
   clear hx hb
   refine hK.out _ _ HB3.out (fun hH => ?_)
   clear hK K hHeld hH
   have hHeld := HB3.out
   generalize w2.heap.size = gN at HX ⊢
   refine nm 8 ?_
   refine pu 4 12 ?_
   refine on 5 13 fun K hK => ?_
   have x0 := (blk_cell HX.out 0).trans rfl
   refine event_step rfl (w1 := w3) (v := .string ⟨#[66, 76, 75]⟩) (by go_simp; rfl) ?_
   refine hK.out _ _ hHeld (fun hH => ?_)
   clear hK K hH x0
   refine nm 13 ?_
   refine pu 6 4 ?_
   refine done_ (by kernel_rfl) ?_
   obtain ⟨z0, z1⟩ := cz2 (blk_below HK.out hHeld)
   go_wp2
   go_ret2
   exact ⟨by first | rfl | (simp; rfl), HB.out.trans (hHeld.mono HB.out.size)⟩
  ·clear HC
   have wv : wrap64 1 = 1 := Go.IntWalk.wrap64_in _ (by decide)
   go_wp2
   clear z0 z1
   refine sT 7 [] (S := fun W' => Below w1.heap.size w1 W') (below_drew1 (Below.refl _ _)) fun hHeld => ?_
   generalize w1.drew = w2 at hHeld ⊢
   refine pu 1 9 ?_
   refine ta 2 10 hHeld (hy := by intro w' hs; obtain ⟨z0, z1⟩ := cz2 (blk_below HK.out hs); go_simp; with_reducible rfl) ?_
   refine pu 3 11 ?_
   refine on 0 8 fun K hK => ?_
   refine gO Tryd.func21 #[.string ⟨#[66, 76, 75, 32, 82, 66, 49, 32, 82, 66, 50, 32, 80, 85, 83, 72, 32, 87, 49, 32, 87, 50, 32, 87, 51, 32, 87, 52, 32, 87, 53, 32, 87, 54, 32, 87, 55, 32, 82, 79, 79, 84]⟩] ?_
   refine (fields_calls _ (Tab.below (Tab.below HT.out HB.out) hHeld)).mono ?_
   rintro e w3 ⟨rfl, hx, hb⟩
   refine ⟨_, rfl, ?_⟩
   have HX := Aside0.mk hx
   have HB3 := Aside0.mk (below_step hHeld hb : Below w1.heap.size w1 w3)
   clear hx hb
   refine hK.out _ _ HB3.out (fun hH => ?_)
   clear hK K hHeld hH
   have hHeld := HB3.out
   generalize w2.heap.size = gN at HX ⊢
   refine nm 8 ?_
   refine pu 4 12 ?_
   refine on 5 13 fun K hK => ?_
   have x0 := (blk_cell HX.out 1).trans rfl
   refine event_step rfl (w1 := w3) (v := .string ⟨#[82, 66, 49]⟩) (by go_simp; rfl) ?_
   refine hK.out _ _ hHeld (fun hH => ?_)
   clear hK K hH x0
   refine nm 13 ?_
   refine pu 6 4 ?_
   refine done_ (by kernel_rfl) ?_
   obtain ⟨z0, z1⟩ := cz2 (blk_below HK.out hHeld)
   go_wp2
   go_ret2
   exact ⟨by first | rfl | (simp; rfl), HB.out.trans (hHeld.mono HB.out.size)⟩
  ·clear HC
   have wv : wrap64 2 = 2 := Go.IntWalk.wrap64_in _ (by decide)
   go_wp2
   clear z0 z1
   refine sT 7 [] (S := fun W' => Below w1.heap.size w1 W') (below_drew1 (Below.refl _ _)) fun hHeld => ?_
   generalize w1.drew = w2 at hHeld ⊢
   refine pu 1 9 ?_
   refine ta 2 10 hHeld (hy := by intro w' hs; obtain ⟨z0, z1⟩ := cz2 (blk_below HK.out hs); go_simp; with_reducible rfl) ?_
   refine pu 3 11 ?_
   refine on 0 8 fun K hK => ?_
   refine gO Tryd.func21 #[.string ⟨#[66, 76, 75, 32, 82, 66, 49, 32, 82, 66, 50, 32, 80, 85, 83, 72, 32, 87, 49, 32, 87, 50, 32, 87, 51, 32, 87, 52, 32, 87, 53, 32, 87, 54, 32, 87, 55, 32, 82, 79, 79, 84]⟩] ?_
   refine (fields_calls _ (Tab.below (Tab.below HT.out HB.out) hHeld)).mono ?_
   rintro e w3 ⟨rfl, hx, hb⟩
   refine ⟨_, rfl, ?_⟩
   have HX := Aside0.mk hx
   have HB3 := Aside0.mk (below_step hHeld hb : Below w1.heap.size w1 w3)
   clear hx hb
   refine hK.out _ _ HB3.out (fun hH => ?_)
   clear hK K hHeld hH
   have hHeld := HB3.out
   generalize w2.heap.size = gN at HX ⊢
   refine nm 8 ?_
   refine pu 4 12 ?_
   refine on 5 13 fun K hK => ?_
   have x0 := (blk_cell HX.out 2).trans rfl
   refine event_step rfl (w1 := w3) (v := .string ⟨#[82, 66, 50]⟩) (by go_simp; rfl) ?_
   refine hK.out _ _ hHeld (fun hH => ?_)
   clear hK K hH x0
   refine nm 13 ?_
   refine pu 6 4 ?_
   refine done_ (by kernel_rfl) ?_
   obtain ⟨z0, z1⟩ := cz2 (blk_below HK.out hHeld)
   go_wp2
   go_ret2
   exact ⟨by first | rfl | (simp; rfl), HB.out.trans (hHeld.mono HB.out.size)⟩
  ·clear HC
   have wv : wrap64 3 = 3 := Go.IntWalk.wrap64_in _ (by decide)
   go_wp2
   clear z0 z1
   refine sT 7 [] (S := fun W' => Below w1.heap.size w1 W') (below_drew1 (Below.refl _ _)) fun hHeld => ?_
   generalize w1.drew = w2 at hHeld ⊢
   refine pu 1 9 ?_
   refine ta 2 10 hHeld (hy := by intro w' hs; obtain ⟨z0, z1⟩ := cz2 (blk_below HK.out hs); go_simp; with_reducible rfl) ?_
   refine pu 3 11 ?_
   refine on 0 8 fun K hK => ?_
   refine gO Tryd.func21 #[.string ⟨#[66, 76, 75, 32, 82, 66, 49, 32, 82, 66, 50, 32, 80, 85, 83, 72, 32, 87, 49, 32, 87, 50, 32, 87, 51, 32, 87, 52, 32, 87, 53, 32, 87, 54, 32, 87, 55, 32, 82, 79, 79, 84]⟩] ?_
   refine (fields_calls _ (Tab.below (Tab.below HT.out HB.out) hHeld)).mono ?_
   rintro e w3 ⟨rfl, hx, hb⟩
   refine ⟨_, rfl, ?_⟩
   have HX := Aside0.mk hx
   have HB3 := Aside0.mk (below_step hHeld hb : Below w1.heap.size w1 w3)
   clear hx hb
   refine hK.out _ _ HB3.out (fun hH => ?_)
   clear hK K hHeld hH
   have hHeld := HB3.out
   generalize w2.heap.size = gN at HX ⊢
   refine nm 8 ?_
   refine pu 4 12 ?_
   refine on 5 13 fun K hK => ?_
   have x0 := (blk_cell HX.out 3).trans rfl
   refine event_step rfl (w1 := w3) (v := .string ⟨#[80, 85, 83, 72]⟩) (by go_simp; rfl) ?_
   refine hK.out _ _ hHeld (fun hH => ?_)
   clear hK K hH x0
   refine nm 13 ?_
   refine pu 6 4 ?_
   refine done_ (by kernel_rfl) ?_
   obtain ⟨z0, z1⟩ := cz2 (blk_below HK.out hHeld)
   go_wp2
   go_ret2
   exact ⟨by first | rfl | (simp; rfl), HB.out.trans (hHeld.mono HB.out.size)⟩
  ·clear HC
   have wv : wrap64 4 = 4 := Go.IntWalk.wrap64_in _ (by decide)
   go_wp2
   clear z0 z1
   refine sT 7 [] (S := fun W' => Below w1.heap.size w1 W') (below_drew1 (Below.refl _ _)) fun hHeld => ?_
   generalize w1.drew = w2 at hHeld ⊢
   refine pu 1 9 ?_
   refine ta 2 10 hHeld (hy := by intro w' hs; obtain ⟨z0, z1⟩ := cz2 (blk_below HK.out hs); go_simp; with_reducible rfl) ?_
   refine pu 3 11 ?_
   refine on 0 8 fun K hK => ?_
   refine gO Tryd.func21 #[.string ⟨#[66, 76, 75, 32, 82, 66, 49, 32, 82, 66, 50, 32, 80, 85, 83, 72, 32, 87, 49, 32, 87, 50, 32, 87, 51, 32, 87, 52, 32, 87, 53, 32, 87, 54, 32, 87, 55, 32, 82, 79, 79, 84]⟩] ?_
   refine (fields_calls _ (Tab.below (Tab.below HT.out HB.out) hHeld)).mono ?_
   rintro e w3 ⟨rfl, hx, hb⟩
   refine ⟨_, rfl, ?_⟩
   have HX := Aside0.mk hx
   have HB3 := Aside0.mk (below_step hHeld hb : Below w1.heap.size w1 w3)
   clear hx hb
   refine hK.out _ _ HB3.out (fun hH => ?_)
   clear hK K hHeld hH
   have hHeld := HB3.out
   generalize w2.heap.size = gN at HX ⊢
   refine nm 8 ?_
   refine pu 4 12 ?_
   refine on 5 13 fun K hK => ?_
   have x0 := (blk_cell HX.out 4).trans rfl
   refine event_step rfl (w1 := w3) (v := .string ⟨#[87, 49]⟩) (by go_simp; rfl) ?_
   refine hK.out _ _ hHeld (fun hH => ?_)
   clear hK K hH x0
   refine nm 13 ?_
   refine pu 6 4 ?_
   refine done_ (by kernel_rfl) ?_
   obtain ⟨z0, z1⟩ := cz2 (blk_below HK.out hHeld)
   go_wp2
   go_ret2
   exact ⟨by first | rfl | (simp; rfl), HB.out.trans (hHeld.mono HB.out.size)⟩
  ·clear HC
   have wv : wrap64 5 = 5 := Go.IntWalk.wrap64_in _ (by decide)
   go_wp2
   clear z0 z1
   refine sT 7 [] (S := fun W' => Below w1.heap.size w1 W') (below_drew1 (Below.refl _ _)) fun hHeld => ?_
   generalize w1.drew = w2 at hHeld ⊢
   refine pu 1 9 ?_
   refine ta 2 10 hHeld (hy := by intro w' hs; obtain ⟨z0, z1⟩ := cz2 (blk_below HK.out hs); go_simp; with_reducible rfl) ?_
   refine pu 3 11 ?_
   refine on 0 8 fun K hK => ?_
   refine gO Tryd.func21 #[.string ⟨#[66, 76, 75, 32, 82, 66, 49, 32, 82, 66, 50, 32, 80, 85, 83, 72, 32, 87, 49, 32, 87, 50, 32, 87, 51, 32, 87, 52, 32, 87, 53, 32, 87, 54, 32, 87, 55, 32, 82, 79, 79, 84]⟩] ?_
   refine (fields_calls _ (Tab.below (Tab.below HT.out HB.out) hHeld)).mono ?_
   rintro e w3 ⟨rfl, hx, hb⟩
   refine ⟨_, rfl, ?_⟩
   have HX := Aside0.mk hx
   have HB3 := Aside0.mk (below_step hHeld hb : Below w1.heap.size w1 w3)
   clear hx hb
   refine hK.out _ _ HB3.out (fun hH => ?_)
   clear hK K hHeld hH
   have hHeld := HB3.out
   generalize w2.heap.size = gN at HX ⊢
   refine nm 8 ?_
   refine pu 4 12 ?_
   refine on 5 13 fun K hK => ?_
   have x0 := (blk_cell HX.out 5).trans rfl
   refine event_step rfl (w1 := w3) (v := .string ⟨#[87, 50]⟩) (by go_simp; rfl) ?_
   refine hK.out _ _ hHeld (fun hH => ?_)
   clear hK K hH x0
   refine nm 13 ?_
   refine pu 6 4 ?_
   refine done_ (by kernel_rfl) ?_
   obtain ⟨z0, z1⟩ := cz2 (blk_below HK.out hHeld)
   go_wp2
   go_ret2
   exact ⟨by first | rfl | (simp; rfl), HB.out.trans (hHeld.mono HB.out.size)⟩
  ·clear HC
   have wv : wrap64 6 = 6 := Go.IntWalk.wrap64_in _ (by decide)
   go_wp2
   clear z0 z1
   refine sT 7 [] (S := fun W' => Below w1.heap.size w1 W') (below_drew1 (Below.refl _ _)) fun hHeld => ?_
   generalize w1.drew = w2 at hHeld ⊢
   refine pu 1 9 ?_
   refine ta 2 10 hHeld (hy := by intro w' hs; obtain ⟨z0, z1⟩ := cz2 (blk_below HK.out hs); go_simp; with_reducible rfl) ?_
   refine pu 3 11 ?_
   refine on 0 8 fun K hK => ?_
   refine gO Tryd.func21 #[.string ⟨#[66, 76, 75, 32, 82, 66, 49, 32, 82, 66, 50, 32, 80, 85, 83, 72, 32, 87, 49, 32, 87, 50, 32, 87, 51, 32, 87, 52, 32, 87, 53, 32, 87, 54, 32, 87, 55, 32, 82, 79, 79, 84]⟩] ?_
   refine (fields_calls _ (Tab.below (Tab.below HT.out HB.out) hHeld)).mono ?_
   rintro e w3 ⟨rfl, hx, hb⟩
   refine ⟨_, rfl, ?_⟩
   have HX := Aside0.mk hx
   have HB3 := Aside0.mk (below_step hHeld hb : Below w1.heap.size w1 w3)
   clear hx hb
   refine hK.out _ _ HB3.out (fun hH => ?_)
   clear hK K hHeld hH
   have hHeld := HB3.out
   generalize w2.heap.size = gN at HX ⊢
   refine nm 8 ?_
   refine pu 4 12 ?_
   refine on 5 13 fun K hK => ?_
   have x0 := (blk_cell HX.out 6).trans rfl
   refine event_step rfl (w1 := w3) (v := .string ⟨#[87, 51]⟩) (by go_simp; rfl) ?_
   refine hK.out _ _ hHeld (fun hH => ?_)
   clear hK K hH x0
   refine nm 13 ?_
   refine pu 6 4 ?_
   refine done_ (by kernel_rfl) ?_
   obtain ⟨z0, z1⟩ := cz2 (blk_below HK.out hHeld)
   go_wp2
   go_ret2
   exact ⟨by first | rfl | (simp; rfl), HB.out.trans (hHeld.mono HB.out.size)⟩
  ·clear HC
   have wv : wrap64 7 = 7 := Go.IntWalk.wrap64_in _ (by decide)
   go_wp2
   clear z0 z1
   refine sT 7 [] (S := fun W' => Below w1.heap.size w1 W') (below_drew1 (Below.refl _ _)) fun hHeld => ?_
   generalize w1.drew = w2 at hHeld ⊢
   refine pu 1 9 ?_
   refine ta 2 10 hHeld (hy := by intro w' hs; obtain ⟨z0, z1⟩ := cz2 (blk_below HK.out hs); go_simp; with_reducible rfl) ?_
   refine pu 3 11 ?_
   refine on 0 8 fun K hK => ?_
   refine gO Tryd.func21 #[.string ⟨#[66, 76, 75, 32, 82, 66, 49, 32, 82, 66, 50, 32, 80, 85, 83, 72, 32, 87, 49, 32, 87, 50, 32, 87, 51, 32, 87, 52, 32, 87, 53, 32, 87, 54, 32, 87, 55, 32, 82, 79, 79, 84]⟩] ?_
   refine (fields_calls _ (Tab.below (Tab.below HT.out HB.out) hHeld)).mono ?_
   rintro e w3 ⟨rfl, hx, hb⟩
   refine ⟨_, rfl, ?_⟩
   have HX := Aside0.mk hx
   have HB3 := Aside0.mk (below_step hHeld hb : Below w1.heap.size w1 w3)
   clear hx hb
   refine hK.out _ _ HB3.out (fun hH => ?_)
   clear hK K hHeld hH
   have hHeld := HB3.out
   generalize w2.heap.size = gN at HX ⊢
   refine nm 8 ?_
   refine pu 4 12 ?_
   refine on 5 13 fun K hK => ?_
   have x0 := (blk_cell HX.out 7).trans rfl
   refine event_step rfl (w1 := w3) (v := .string ⟨#[87, 52]⟩) (by go_simp; rfl) ?_
   refine hK.out _ _ hHeld (fun hH => ?_)
   clear hK K hH x0
   refine nm 13 ?_
   refine pu 6 4 ?_
   refine done_ (by kernel_rfl) ?_
   obtain ⟨z0, z1⟩ := cz2 (blk_below HK.out hHeld)
   go_wp2
   go_ret2
   exact ⟨by first | rfl | (simp; rfl), HB.out.trans (hHeld.mono HB.out.size)⟩
  ·clear HC
   have wv : wrap64 8 = 8 := Go.IntWalk.wrap64_in _ (by decide)
   go_wp2
   clear z0 z1
   refine sT 7 [] (S := fun W' => Below w1.heap.size w1 W') (below_drew1 (Below.refl _ _)) fun hHeld => ?_
   generalize w1.drew = w2 at hHeld ⊢
   refine pu 1 9 ?_
   refine ta 2 10 hHeld (hy := by intro w' hs; obtain ⟨z0, z1⟩ := cz2 (blk_below HK.out hs); go_simp; with_reducible rfl) ?_
   refine pu 3 11 ?_
   refine on 0 8 fun K hK => ?_
   refine gO Tryd.func21 #[.string ⟨#[66, 76, 75, 32, 82, 66, 49, 32, 82, 66, 50, 32, 80, 85, 83, 72, 32, 87, 49, 32, 87, 50, 32, 87, 51, 32, 87, 52, 32, 87, 53, 32, 87, 54, 32, 87, 55, 32, 82, 79, 79, 84]⟩] ?_
   refine (fields_calls _ (Tab.below (Tab.below HT.out HB.out) hHeld)).mono ?_
   rintro e w3 ⟨rfl, hx, hb⟩
   refine ⟨_, rfl, ?_⟩
   have HX := Aside0.mk hx
   have HB3 := Aside0.mk (below_step hHeld hb : Below w1.heap.size w1 w3)
   clear hx hb
   refine hK.out _ _ HB3.out (fun hH => ?_)
   clear hK K hHeld hH
   have hHeld := HB3.out
   generalize w2.heap.size = gN at HX ⊢
   refine nm 8 ?_
   refine pu 4 12 ?_
   refine on 5 13 fun K hK => ?_
   have x0 := (blk_cell HX.out 8).trans rfl
   refine event_step rfl (w1 := w3) (v := .string ⟨#[87, 53]⟩) (by go_simp; rfl) ?_
   refine hK.out _ _ hHeld (fun hH => ?_)
   clear hK K hH x0
   refine nm 13 ?_
   refine pu 6 4 ?_
   refine done_ (by kernel_rfl) ?_
   obtain ⟨z0, z1⟩ := cz2 (blk_below HK.out hHeld)
   go_wp2
   go_ret2
   exact ⟨by first | rfl | (simp; rfl), HB.out.trans (hHeld.mono HB.out.size)⟩
  ·clear HC
   have wv : wrap64 9 = 9 := Go.IntWalk.wrap64_in _ (by decide)
   go_wp2
   clear z0 z1
   refine sT 7 [] (S := fun W' => Below w1.heap.size w1 W') (below_drew1 (Below.refl _ _)) fun hHeld => ?_
   generalize w1.drew = w2 at hHeld ⊢
   refine pu 1 9 ?_
   refine ta 2 10 hHeld (hy := by intro w' hs; obtain ⟨z0, z1⟩ := cz2 (blk_below HK.out hs); go_simp; with_reducible rfl) ?_
   refine pu 3 11 ?_
   refine on 0 8 fun K hK => ?_
   refine gO Tryd.func21 #[.string ⟨#[66, 76, 75, 32, 82, 66, 49, 32, 82, 66, 50, 32, 80, 85, 83, 72, 32, 87, 49, 32, 87, 50, 32, 87, 51, 32, 87, 52, 32, 87, 53, 32, 87, 54, 32, 87, 55, 32, 82, 79, 79, 84]⟩] ?_
   refine (fields_calls _ (Tab.below (Tab.below HT.out HB.out) hHeld)).mono ?_
   rintro e w3 ⟨rfl, hx, hb⟩
   refine ⟨_, rfl, ?_⟩
   have HX := Aside0.mk hx
   have HB3 := Aside0.mk (below_step hHeld hb : Below w1.heap.size w1 w3)
   clear hx hb
   refine hK.out _ _ HB3.out (fun hH => ?_)
   clear hK K hHeld hH
   have hHeld := HB3.out
   generalize w2.heap.size = gN at HX ⊢
   refine nm 8 ?_
   refine pu 4 12 ?_
   refine on 5 13 fun K hK => ?_
   have x0 := (blk_cell HX.out 9).trans rfl
   refine event_step rfl (w1 := w3) (v := .string ⟨#[87, 54]⟩) (by go_simp; rfl) ?_
   refine hK.out _ _ hHeld (fun hH => ?_)
   clear hK K hH x0
   refine nm 13 ?_
   refine pu 6 4 ?_
   refine done_ (by kernel_rfl) ?_
   obtain ⟨z0, z1⟩ := cz2 (blk_below HK.out hHeld)
   go_wp2
   go_ret2
   exact ⟨by first | rfl | (simp; rfl), HB.out.trans (hHeld.mono HB.out.size)⟩
  ·clear HC
   have wv : wrap64 10 = 10 := Go.IntWalk.wrap64_in _ (by decide)
   go_wp2
   clear z0 z1
   refine sT 7 [] (S := fun W' => Below w1.heap.size w1 W') (below_drew1 (Below.refl _ _)) fun hHeld => ?_
   generalize w1.drew = w2 at hHeld ⊢
   refine pu 1 9 ?_
   refine ta 2 10 hHeld (hy := by intro w' hs; obtain ⟨z0, z1⟩ := cz2 (blk_below HK.out hs); go_simp; with_reducible rfl) ?_
   refine pu 3 11 ?_
   refine on 0 8 fun K hK => ?_
   refine gO Tryd.func21 #[.string ⟨#[66, 76, 75, 32, 82, 66, 49, 32, 82, 66, 50, 32, 80, 85, 83, 72, 32, 87, 49, 32, 87, 50, 32, 87, 51, 32, 87, 52, 32, 87, 53, 32, 87, 54, 32, 87, 55, 32, 82, 79, 79, 84]⟩] ?_
   refine (fields_calls _ (Tab.below (Tab.below HT.out HB.out) hHeld)).mono ?_
   rintro e w3 ⟨rfl, hx, hb⟩
   refine ⟨_, rfl, ?_⟩
   have HX := Aside0.mk hx
   have HB3 := Aside0.mk (below_step hHeld hb : Below w1.heap.size w1 w3)
   clear hx hb
   refine hK.out _ _ HB3.out (fun hH => ?_)
   clear hK K hHeld hH
   have hHeld := HB3.out
   generalize w2.heap.size = gN at HX ⊢
   refine nm 8 ?_
   refine pu 4 12 ?_
   refine on 5 13 fun K hK => ?_
   have x0 := (blk_cell HX.out 10).trans rfl
   refine event_step rfl (w1 := w3) (v := .string ⟨#[87, 55]⟩) (by go_simp; rfl) ?_
   refine hK.out _ _ hHeld (fun hH => ?_)
   clear hK K hH x0
   refine nm 13 ?_
   refine pu 6 4 ?_
   refine done_ (by kernel_rfl) ?_
   obtain ⟨z0, z1⟩ := cz2 (blk_below HK.out hHeld)
   go_wp2
   go_ret2
   exact ⟨by first | rfl | (simp; rfl), HB.out.trans (hHeld.mono HB.out.size)⟩
  ·clear HC
   have wv : wrap64 11 = 11 := Go.IntWalk.wrap64_in _ (by decide)
   go_wp2
   clear z0 z1
   refine sT 7 [] (S := fun W' => Below w1.heap.size w1 W') (below_drew1 (Below.refl _ _)) fun hHeld => ?_
   generalize w1.drew = w2 at hHeld ⊢
   refine pu 1 9 ?_
   refine ta 2 10 hHeld (hy := by intro w' hs; obtain ⟨z0, z1⟩ := cz2 (blk_below HK.out hs); go_simp; with_reducible rfl) ?_
   refine pu 3 11 ?_
   refine on 0 8 fun K hK => ?_
   refine gO Tryd.func21 #[.string ⟨#[66, 76, 75, 32, 82, 66, 49, 32, 82, 66, 50, 32, 80, 85, 83, 72, 32, 87, 49, 32, 87, 50, 32, 87, 51, 32, 87, 52, 32, 87, 53, 32, 87, 54, 32, 87, 55, 32, 82, 79, 79, 84]⟩] ?_
   refine (fields_calls _ (Tab.below (Tab.below HT.out HB.out) hHeld)).mono ?_
   rintro e w3 ⟨rfl, hx, hb⟩
   refine ⟨_, rfl, ?_⟩
   have HX := Aside0.mk hx
   have HB3 := Aside0.mk (below_step hHeld hb : Below w1.heap.size w1 w3)
   clear hx hb
   refine hK.out _ _ HB3.out (fun hH => ?_)
   clear hK K hHeld hH
   have hHeld := HB3.out
   generalize w2.heap.size = gN at HX ⊢
   refine nm 8 ?_
   refine pu 4 12 ?_
   refine on 5 13 fun K hK => ?_
   have x0 := (blk_cell HX.out 11).trans rfl
   refine event_step rfl (w1 := w3) (v := .string ⟨#[82, 79, 79, 84]⟩) (by go_simp; rfl) ?_
   refine hK.out _ _ hHeld (fun hH => ?_)
   clear hK K hH x0
   refine nm 13 ?_
   refine pu 6 4 ?_
   refine done_ (by kernel_rfl) ?_
   obtain ⟨z0, z1⟩ := cz2 (blk_below HK.out hHeld)
   go_wp2
   go_ret2
   exact ⟨by first | rfl | (simp; rfl), HB.out.trans (hHeld.mono HB.out.size)⟩
 ·rcases HC.out with rfl | rfl | rfl | rfl | rfl | rfl | rfl | rfl | rfl | rfl | rfl | rfl
  ·clear HC
   have wv : wrap64 0 = 0 := Go.IntWalk.wrap64_in _ (by decide)
   go_wp2
   clear z0 z1
   refine sT 7 [] (S := fun W' => Below w1.heap.size w1 W') (below_drew1 (Below.refl _ _)) fun hHeld => ?_
   generalize w1.drew = w2 at hHeld ⊢
   refine pu 1 9 ?_
   refine ta 2 10 hHeld (hy := by intro w' hs; obtain ⟨z0, z1⟩ := cz2 (blk_below HK.out hs); go_simp; with_reducible rfl) ?_
   refine pu 3 11 ?_
   refine on 0 8 fun K hK => ?_
   refine gO Tryd.func21 #[.string ⟨#[66, 76, 75, 32, 82, 66, 49, 32, 82, 66, 50, 32, 80, 85, 83, 72, 32, 87, 49, 32, 87, 50, 32, 87, 51, 32, 87, 52, 32, 87, 53, 32, 87, 54, 32, 87, 55, 32, 82, 79, 79, 84]⟩] ?_
   refine (fields_calls _ (Tab.below (Tab.below HT.out HB.out) hHeld)).mono ?_
   rintro e w3 ⟨rfl, hx, hb⟩
   refine ⟨_, rfl, ?_⟩
   have HX := Aside0.mk hx
   have HB3 := Aside0.mk (below_step hHeld hb : Below w1.heap.size w1 w3)
   clear hx hb
   refine hK.out _ _ HB3.out (fun hH => ?_)
   clear hK K hHeld hH
   have hHeld := HB3.out
   generalize w2.heap.size = gN at HX ⊢
   refine nm 8 ?_
   refine pu 4 12 ?_
   refine on 5 13 fun K hK => ?_
   have x0 := (blk_cell HX.out 0).trans rfl
   refine event_step rfl (w1 := w3) (v := .string ⟨#[66, 76, 75]⟩) (by go_simp; rfl) ?_
   refine hK.out _ _ hHeld (fun hH => ?_)
   clear hK K hH x0
   refine nm 13 ?_
   refine pu 6 4 ?_
   refine done_ (by kernel_rfl) ?_
   obtain ⟨z0, z1⟩ := cz2 (blk_below HK.out hHeld)
   go_wp2
   go_ret2
   exact ⟨by first | rfl | (simp; rfl), HB.out.trans (hHeld.mono HB.out.size)⟩
  ·clear HC
   have wv : wrap64 1 = 1 := Go.IntWalk.wrap64_in _ (by decide)
   go_wp2
   clear z0 z1
   refine sT 7 [] (S := fun W' => Below w1.heap.size w1 W') (below_drew1 (Below.refl _ _)) fun hHeld => ?_
   generalize w1.drew = w2 at hHeld ⊢
   refine pu 1 9 ?_
   refine ta 2 10 hHeld (hy := by intro w' hs; obtain ⟨z0, z1⟩ := cz2 (blk_below HK.out hs); go_simp; with_reducible rfl) ?_
   refine pu 3 11 ?_
   refine on 0 8 fun K hK => ?_
   refine gO Tryd.func21 #[.string ⟨#[66, 76, 75, 32, 82, 66, 49, 32, 82, 66, 50, 32, 80, 85, 83, 72, 32, 87, 49, 32, 87, 50, 32, 87, 51, 32, 87, 52, 32, 87, 53, 32, 87, 54, 32, 87, 55, 32, 82, 79, 79, 84]⟩] ?_
   refine (fields_calls _ (Tab.below (Tab.below HT.out HB.out) hHeld)).mono ?_
   rintro e w3 ⟨rfl, hx, hb⟩
   refine ⟨_, rfl, ?_⟩
   have HX := Aside0.mk hx
   have HB3 := Aside0.mk (below_step hHeld hb : Below w1.heap.size w1 w3)
   clear hx hb
   refine hK.out _ _ HB3.out (fun hH => ?_)
   clear hK K hHeld hH
   have hHeld := HB3.out
   generalize w2.heap.size = gN at HX ⊢
   refine nm 8 ?_
   refine pu 4 12 ?_
   refine on 5 13 fun K hK => ?_
   have x0 := (blk_cell HX.out 1).trans rfl
   refine event_step rfl (w1 := w3) (v := .string ⟨#[82, 66, 49]⟩) (by go_simp; rfl) ?_
   refine hK.out _ _ hHeld (fun hH => ?_)
   clear hK K hH x0
   refine nm 13 ?_
   refine pu 6 4 ?_
   refine done_ (by kernel_rfl) ?_
   obtain ⟨z0, z1⟩ := cz2 (blk_below HK.out hHeld)
   go_wp2
   go_ret2
   exact ⟨by first | rfl | (simp; rfl), HB.out.trans (hHeld.mono HB.out.size)⟩
  ·clear HC
   have wv : wrap64 2 = 2 := Go.IntWalk.wrap64_in _ (by decide)
   go_wp2
   clear z0 z1
   refine sT 7 [] (S := fun W' => Below w1.heap.size w1 W') (below_drew1 (Below.refl _ _)) fun hHeld => ?_
   generalize w1.drew = w2 at hHeld ⊢
   refine pu 1 9 ?_
   refine ta 2 10 hHeld (hy := by intro w' hs; obtain ⟨z0, z1⟩ := cz2 (blk_below HK.out hs); go_simp; with_reducible rfl) ?_
   refine pu 3 11 ?_
   refine on 0 8 fun K hK => ?_
   refine gO Tryd.func21 #[.string ⟨#[66, 76, 75, 32, 82, 66, 49, 32, 82, 66, 50, 32, 80, 85, 83, 72, 32, 87, 49, 32, 87, 50, 32, 87, 51, 32, 87, 52, 32, 87, 53, 32, 87, 54, 32, 87, 55, 32, 82, 79, 79, 84]⟩] ?_
   refine (fields_calls _ (Tab.below (Tab.below HT.out HB.out) hHeld)).mono ?_
   rintro e w3 ⟨rfl, hx, hb⟩
   refine ⟨_, rfl, ?_⟩
   have HX := Aside0.mk hx
   have HB3 := Aside0.mk (below_step hHeld hb : Below w1.heap.size w1 w3)
   clear hx hb
   refine hK.out _ _ HB3.out (fun hH => ?_)
   clear hK K hHeld hH
   have hHeld := HB3.out
   generalize w2.heap.size = gN at HX ⊢
   refine nm 8 ?_
   refine pu 4 12 ?_
   refine on 5 13 fun K hK => ?_
   have x0 := (blk_cell HX.out 2).trans rfl
   refine event_step rfl (w1 := w3) (v := .string ⟨#[82, 66, 50]⟩) (by go_simp; rfl) ?_
   refine hK.out _ _ hHeld (fun hH => ?_)
   clear hK K hH x0
   refine nm 13 ?_
   refine pu 6 4 ?_
   refine done_ (by kernel_rfl) ?_
   obtain ⟨z0, z1⟩ := cz2 (blk_below HK.out hHeld)
   go_wp2
   go_ret2
   exact ⟨by first | rfl | (simp; rfl), HB.out.trans (hHeld.mono HB.out.size)⟩
  ·clear HC
   have wv : wrap64 3 = 3 := Go.IntWalk.wrap64_in _ (by decide)
   go_wp2
   clear z0 z1
   refine sT 7 [] (S := fun W' => Below w1.heap.size w1 W') (below_drew1 (Below.refl _ _)) fun hHeld => ?_
   generalize w1.drew = w2 at hHeld ⊢
   refine pu 1 9 ?_
   refine ta 2 10 hHeld (hy := by intro w' hs; obtain ⟨z0, z1⟩ := cz2 (blk_below HK.out hs); go_simp; with_reducible rfl) ?_
   refine pu 3 11 ?_
   refine on 0 8 fun K hK => ?_
   refine gO Tryd.func21 #[.string ⟨#[66, 76, 75, 32, 82, 66, 49, 32, 82, 66, 50, 32, 80, 85, 83, 72, 32, 87, 49, 32, 87, 50, 32, 87, 51, 32, 87, 52, 32, 87, 53, 32, 87, 54, 32, 87, 55, 32, 82, 79, 79, 84]⟩] ?_
   refine (fields_calls _ (Tab.below (Tab.below HT.out HB.out) hHeld)).mono ?_
   rintro e w3 ⟨rfl, hx, hb⟩
   refine ⟨_, rfl, ?_⟩
   have HX := Aside0.mk hx
   have HB3 := Aside0.mk (below_step hHeld hb : Below w1.heap.size w1 w3)
   clear hx hb
   refine hK.out _ _ HB3.out (fun hH => ?_)
   clear hK K hHeld hH
   have hHeld := HB3.out
   generalize w2.heap.size = gN at HX ⊢
   refine nm 8 ?_
   refine pu 4 12 ?_
   refine on 5 13 fun K hK => ?_
   have x0 := (blk_cell HX.out 3).trans rfl
   refine event_step rfl (w1 := w3) (v := .string ⟨#[80, 85, 83, 72]⟩) (by go_simp; rfl) ?_
   refine hK.out _ _ hHeld (fun hH => ?_)
   clear hK K hH x0
   refine nm 13 ?_
   refine pu 6 4 ?_
   refine done_ (by kernel_rfl) ?_
   obtain ⟨z0, z1⟩ := cz2 (blk_below HK.out hHeld)
   go_wp2
   go_ret2
   exact ⟨by first | rfl | (simp; rfl), HB.out.trans (hHeld.mono HB.out.size)⟩
  ·clear HC
   have wv : wrap64 4 = 4 := Go.IntWalk.wrap64_in _ (by decide)
   go_wp2
   clear z0 z1
   refine sT 7 [] (S := fun W' => Below w1.heap.size w1 W') (below_drew1 (Below.refl _ _)) fun hHeld => ?_
   generalize w1.drew = w2 at hHeld ⊢
   refine pu 1 9 ?_
   refine ta 2 10 hHeld (hy := by intro w' hs; obtain ⟨z0, z1⟩ := cz2 (blk_below HK.out hs); go_simp; with_reducible rfl) ?_
   refine pu 3 11 ?_
   refine on 0 8 fun K hK => ?_
   refine gO Tryd.func21 #[.string ⟨#[66, 76, 75, 32, 82, 66, 49, 32, 82, 66, 50, 32, 80, 85, 83, 72, 32, 87, 49, 32, 87, 50, 32, 87, 51, 32, 87, 52, 32, 87, 53, 32, 87, 54, 32, 87, 55, 32, 82, 79, 79, 84]⟩] ?_
   refine (fields_calls _ (Tab.below (Tab.below HT.out HB.out) hHeld)).mono ?_
   rintro e w3 ⟨rfl, hx, hb⟩
   refine ⟨_, rfl, ?_⟩
   have HX := Aside0.mk hx
   have HB3 := Aside0.mk (below_step hHeld hb : Below w1.heap.size w1 w3)
   clear hx hb
   refine hK.out _ _ HB3.out (fun hH => ?_)
   clear hK K hHeld hH
   have hHeld := HB3.out
   generalize w2.heap.size = gN at HX ⊢
   refine nm 8 ?_
   refine pu 4 12 ?_
   refine on 5 13 fun K hK => ?_
   have x0 := (blk_cell HX.out 4).trans rfl
   refine event_step rfl (w1 := w3) (v := .string ⟨#[87, 49]⟩) (by go_simp; rfl) ?_
   refine hK.out _ _ hHeld (fun hH => ?_)
   clear hK K hH x0
   refine nm 13 ?_
   refine pu 6 4 ?_
   refine done_ (by kernel_rfl) ?_
   obtain ⟨z0, z1⟩ := cz2 (blk_below HK.out hHeld)
   go_wp2
   go_ret2
   exact ⟨by first | rfl | (simp; rfl), HB.out.trans (hHeld.mono HB.out.size)⟩
  ·clear HC
   have wv : wrap64 5 = 5 := Go.IntWalk.wrap64_in _ (by decide)
   go_wp2
   clear z0 z1
   refine sT 7 [] (S := fun W' => Below w1.heap.size w1 W') (below_drew1 (Below.refl _ _)) fun hHeld => ?_
   generalize w1.drew = w2 at hHeld ⊢
   refine pu 1 9 ?_
   refine ta 2 10 hHeld (hy := by intro w' hs; obtain ⟨z0, z1⟩ := cz2 (blk_below HK.out hs); go_simp; with_reducible rfl) ?_
   refine pu 3 11 ?_
   refine on 0 8 fun K hK => ?_
   refine gO Tryd.func21 #[.string ⟨#[66, 76, 75, 32, 82, 66, 49, 32, 82, 66, 50, 32, 80, 85, 83, 72, 32, 87, 49, 32, 87, 50, 32, 87, 51, 32, 87, 52, 32, 87, 53, 32, 87, 54, 32, 87, 55, 32, 82, 79, 79, 84]⟩] ?_
   refine (fields_calls _ (Tab.below (Tab.below HT.out HB.out) hHeld)).mono ?_
   rintro e w3 ⟨rfl, hx, hb⟩
   refine ⟨_, rfl, ?_⟩
   have HX := Aside0.mk hx
   have HB3 := Aside0.mk (below_step hHeld hb : Below w1.heap.size w1 w3)
   clear hx hb
   refine hK.out _ _ HB3.out (fun hH => ?_)
   clear hK K hHeld hH
   have hHeld := HB3.out
   generalize w2.heap.size = gN at HX ⊢
   refine nm 8 ?_
   refine pu 4 12 ?_
   refine on 5 13 fun K hK => ?_
   have x0 := (blk_cell HX.out 5).trans rfl
   refine event_step rfl (w1 := w3) (v := .string ⟨#[87, 50]⟩) (by go_simp; rfl) ?_
   refine hK.out _ _ hHeld (fun hH => ?_)
   clear hK K hH x0
   refine nm 13 ?_
   refine pu 6 4 ?_
   refine done_ (by kernel_rfl) ?_
   obtain ⟨z0, z1⟩ := cz2 (blk_below HK.out hHeld)
   go_wp2
   go_ret2
   exact ⟨by first | rfl | (simp; rfl), HB.out.trans (hHeld.mono HB.out.size)⟩
  ·clear HC
   have wv : wrap64 6 = 6 := Go.IntWalk.wrap64_in _ (by decide)
   go_wp2
   clear z0 z1
   refine sT 7 [] (S := fun W' => Below w1.heap.size w1 W') (below_drew1 (Below.refl _ _)) fun hHeld => ?_
   generalize w1.drew = w2 at hHeld ⊢
   refine pu 1 9 ?_
   refine ta 2 10 hHeld (hy := by intro w' hs; obtain ⟨z0, z1⟩ := cz2 (blk_below HK.out hs); go_simp; with_reducible rfl) ?_
   refine pu 3 11 ?_
   refine on 0 8 fun K hK => ?_
   refine gO Tryd.func21 #[.string ⟨#[66, 76, 75, 32, 82, 66, 49, 32, 82, 66, 50, 32, 80, 85, 83, 72, 32, 87, 49, 32, 87, 50, 32, 87, 51, 32, 87, 52, 32, 87, 53, 32, 87, 54, 32, 87, 55, 32, 82, 79, 79, 84]⟩] ?_
   refine (fields_calls _ (Tab.below (Tab.below HT.out HB.out) hHeld)).mono ?_
   rintro e w3 ⟨rfl, hx, hb⟩
   refine ⟨_, rfl, ?_⟩
   have HX := Aside0.mk hx
   have HB3 := Aside0.mk (below_step hHeld hb : Below w1.heap.size w1 w3)
   clear hx hb
   refine hK.out _ _ HB3.out (fun hH => ?_)
   clear hK K hHeld hH
   have hHeld := HB3.out
   generalize w2.heap.size = gN at HX ⊢
   refine nm 8 ?_
   refine pu 4 12 ?_
   refine on 5 13 fun K hK => ?_
   have x0 := (blk_cell HX.out 6).trans rfl
   refine event_step rfl (w1 := w3) (v := .string ⟨#[87, 51]⟩) (by go_simp; rfl) ?_
   refine hK.out _ _ hHeld (fun hH => ?_)
   clear hK K hH x0
   refine nm 13 ?_
   refine pu 6 4 ?_
   refine done_ (by kernel_rfl) ?_
   obtain ⟨z0, z1⟩ := cz2 (blk_below HK.out hHeld)
   go_wp2
   go_ret2
   exact ⟨by first | rfl | (simp; rfl), HB.out.trans (hHeld.mono HB.out.size)⟩
  ·clear HC
   have wv : wrap64 7 = 7 := Go.IntWalk.wrap64_in _ (by decide)
   go_wp2
   clear z0 z1
   refine sT 7 [] (S := fun W' => Below w1.heap.size w1 W') (below_drew1 (Below.refl _ _)) fun hHeld => ?_
   generalize w1.drew = w2 at hHeld ⊢
   refine pu 1 9 ?_
   refine ta 2 10 hHeld (hy := by intro w' hs; obtain ⟨z0, z1⟩ := cz2 (blk_below HK.out hs); go_simp; with_reducible rfl) ?_
   refine pu 3 11 ?_
   refine on 0 8 fun K hK => ?_
   refine gO Tryd.func21 #[.string ⟨#[66, 76, 75, 32, 82, 66, 49, 32, 82, 66, 50, 32, 80, 85, 83, 72, 32, 87, 49, 32, 87, 50, 32, 87, 51, 32, 87, 52, 32, 87, 53, 32, 87, 54, 32, 87, 55, 32, 82, 79, 79, 84]⟩] ?_
   refine (fields_calls _ (Tab.below (Tab.below HT.out HB.out) hHeld)).mono ?_
   rintro e w3 ⟨rfl, hx, hb⟩
   refine ⟨_, rfl, ?_⟩
   have HX := Aside0.mk hx
   have HB3 := Aside0.mk (below_step hHeld hb : Below w1.heap.size w1 w3)
   clear hx hb
   refine hK.out _ _ HB3.out (fun hH => ?_)
   clear hK K hHeld hH
   have hHeld := HB3.out
   generalize w2.heap.size = gN at HX ⊢
   refine nm 8 ?_
   refine pu 4 12 ?_
   refine on 5 13 fun K hK => ?_
   have x0 := (blk_cell HX.out 7).trans rfl
   refine event_step rfl (w1 := w3) (v := .string ⟨#[87, 52]⟩) (by go_simp; rfl) ?_
   refine hK.out _ _ hHeld (fun hH => ?_)
   clear hK K hH x0
   refine nm 13 ?_
   refine pu 6 4 ?_
   refine done_ (by kernel_rfl) ?_
   obtain ⟨z0, z1⟩ := cz2 (blk_below HK.out hHeld)
   go_wp2
   go_ret2
   exact ⟨by first | rfl | (simp; rfl), HB.out.trans (hHeld.mono HB.out.size)⟩
  ·clear HC
   have wv : wrap64 8 = 8 := Go.IntWalk.wrap64_in _ (by decide)
   go_wp2
   clear z0 z1
   refine sT 7 [] (S := fun W' => Below w1.heap.size w1 W') (below_drew1 (Below.refl _ _)) fun hHeld => ?_
   generalize w1.drew = w2 at hHeld ⊢
   refine pu 1 9 ?_
   refine ta 2 10 hHeld (hy := by intro w' hs; obtain ⟨z0, z1⟩ := cz2 (blk_below HK.out hs); go_simp; with_reducible rfl) ?_
   refine pu 3 11 ?_
   refine on 0 8 fun K hK => ?_
   refine gO Tryd.func21 #[.string ⟨#[66, 76, 75, 32, 82, 66, 49, 32, 82, 66, 50, 32, 80, 85, 83, 72, 32, 87, 49, 32, 87, 50, 32, 87, 51, 32, 87, 52, 32, 87, 53, 32, 87, 54, 32, 87, 55, 32, 82, 79, 79, 84]⟩] ?_
   refine (fields_calls _ (Tab.below (Tab.below HT.out HB.out) hHeld)).mono ?_
   rintro e w3 ⟨rfl, hx, hb⟩
   refine ⟨_, rfl, ?_⟩
   have HX := Aside0.mk hx
   have HB3 := Aside0.mk (below_step hHeld hb : Below w1.heap.size w1 w3)
   clear hx hb
   refine hK.out _ _ HB3.out (fun hH => ?_)
   clear hK K hHeld hH
   have hHeld := HB3.out
   generalize w2.heap.size = gN at HX ⊢
   refine nm 8 ?_
   refine pu 4 12 ?_
   refine on 5 13 fun K hK => ?_
   have x0 := (blk_cell HX.out 8).trans rfl
   refine event_step rfl (w1 := w3) (v := .string ⟨#[87, 53]⟩) (by go_simp; rfl) ?_
   refine hK.out _ _ hHeld (fun hH => ?_)
   clear hK K hH x0
   refine nm 13 ?_
   refine pu 6 4 ?_
   refine done_ (by kernel_rfl) ?_
   obtain ⟨z0, z1⟩ := cz2 (blk_below HK.out hHeld)
   go_wp2
   go_ret2
   exact ⟨by first | rfl | (simp; rfl), HB.out.trans (hHeld.mono HB.out.size)⟩
  ·clear HC
   have wv : wrap64 9 = 9 := Go.IntWalk.wrap64_in _ (by decide)
   go_wp2
   clear z0 z1
   refine sT 7 [] (S := fun W' => Below w1.heap.size w1 W') (below_drew1 (Below.refl _ _)) fun hHeld => ?_
   generalize w1.drew = w2 at hHeld ⊢
   refine pu 1 9 ?_
   refine ta 2 10 hHeld (hy := by intro w' hs; obtain ⟨z0, z1⟩ := cz2 (blk_below HK.out hs); go_simp; with_reducible rfl) ?_
   refine pu 3 11 ?_
   refine on 0 8 fun K hK => ?_
   refine gO Tryd.func21 #[.string ⟨#[66, 76, 75, 32, 82, 66, 49, 32, 82, 66, 50, 32, 80, 85, 83, 72, 32, 87, 49, 32, 87, 50, 32, 87, 51, 32, 87, 52, 32, 87, 53, 32, 87, 54, 32, 87, 55, 32, 82, 79, 79, 84]⟩] ?_
   refine (fields_calls _ (Tab.below (Tab.below HT.out HB.out) hHeld)).mono ?_
   rintro e w3 ⟨rfl, hx, hb⟩
   refine ⟨_, rfl, ?_⟩
   have HX := Aside0.mk hx
   have HB3 := Aside0.mk (below_step hHeld hb : Below w1.heap.size w1 w3)
   clear hx hb
   refine hK.out _ _ HB3.out (fun hH => ?_)
   clear hK K hHeld hH
   have hHeld := HB3.out
   generalize w2.heap.size = gN at HX ⊢
   refine nm 8 ?_
   refine pu 4 12 ?_
   refine on 5 13 fun K hK => ?_
   have x0 := (blk_cell HX.out 9).trans rfl
   refine event_step rfl (w1 := w3) (v := .string ⟨#[87, 54]⟩) (by go_simp; rfl) ?_
   refine hK.out _ _ hHeld (fun hH => ?_)
   clear hK K hH x0
   refine nm 13 ?_
   refine pu 6 4 ?_
   refine done_ (by kernel_rfl) ?_
   obtain ⟨z0, z1⟩ := cz2 (blk_below HK.out hHeld)
   go_wp2
   go_ret2
   exact ⟨by first | rfl | (simp; rfl), HB.out.trans (hHeld.mono HB.out.size)⟩
  ·clear HC
   have wv : wrap64 10 = 10 := Go.IntWalk.wrap64_in _ (by decide)
   go_wp2
   clear z0 z1
   refine sT 7 [] (S := fun W' => Below w1.heap.size w1 W') (below_drew1 (Below.refl _ _)) fun hHeld => ?_
   generalize w1.drew = w2 at hHeld ⊢
   refine pu 1 9 ?_
   refine ta 2 10 hHeld (hy := by intro w' hs; obtain ⟨z0, z1⟩ := cz2 (blk_below HK.out hs); go_simp; with_reducible rfl) ?_
   refine pu 3 11 ?_
   refine on 0 8 fun K hK => ?_
   refine gO Tryd.func21 #[.string ⟨#[66, 76, 75, 32, 82, 66, 49, 32, 82, 66, 50, 32, 80, 85, 83, 72, 32, 87, 49, 32, 87, 50, 32, 87, 51, 32, 87, 52, 32, 87, 53, 32, 87, 54, 32, 87, 55, 32, 82, 79, 79, 84]⟩] ?_
   refine (fields_calls _ (Tab.below (Tab.below HT.out HB.out) hHeld)).mono ?_
   rintro e w3 ⟨rfl, hx, hb⟩
   refine ⟨_, rfl, ?_⟩
   have HX := Aside0.mk hx
   have HB3 := Aside0.mk (below_step hHeld hb : Below w1.heap.size w1 w3)
   clear hx hb
   refine hK.out _ _ HB3.out (fun hH => ?_)
   clear hK K hHeld hH
   have hHeld := HB3.out
   generalize w2.heap.size = gN at HX ⊢
   refine nm 8 ?_
   refine pu 4 12 ?_
   refine on 5 13 fun K hK => ?_
   have x0 := (blk_cell HX.out 10).trans rfl
   refine event_step rfl (w1 := w3) (v := .string ⟨#[87, 55]⟩) (by go_simp; rfl) ?_
   refine hK.out _ _ hHeld (fun hH => ?_)
   clear hK K hH x0
   refine nm 13 ?_
   refine pu 6 4 ?_
   refine done_ (by kernel_rfl) ?_
   obtain ⟨z0, z1⟩ := cz2 (blk_below HK.out hHeld)
   go_wp2
   go_ret2
   exact ⟨by first | rfl | (simp; rfl), HB.out.trans (hHeld.mono HB.out.size)⟩
  ·clear HC
   have wv : wrap64 11 = 11 := Go.IntWalk.wrap64_in _ (by decide)
   go_wp2
   clear z0 z1
   refine sT 7 [] (S := fun W' => Below w1.heap.size w1 W') (below_drew1 (Below.refl _ _)) fun hHeld => ?_
   generalize w1.drew = w2 at hHeld ⊢
   refine pu 1 9 ?_
   refine ta 2 10 hHeld (hy := by intro w' hs; obtain ⟨z0, z1⟩ := cz2 (blk_below HK.out hs); go_simp; with_reducible rfl) ?_
   refine pu 3 11 ?_
   refine on 0 8 fun K hK => ?_
   refine gO Tryd.func21 #[.string ⟨#[66, 76, 75, 32, 82, 66, 49, 32, 82, 66, 50, 32, 80, 85, 83, 72, 32, 87, 49, 32, 87, 50, 32, 87, 51, 32, 87, 52, 32, 87, 53, 32, 87, 54, 32, 87, 55, 32, 82, 79, 79, 84]⟩] ?_
   refine (fields_calls _ (Tab.below (Tab.below HT.out HB.out) hHeld)).mono ?_
   rintro e w3 ⟨rfl, hx, hb⟩
   refine ⟨_, rfl, ?_⟩
   have HX := Aside0.mk hx
   have HB3 := Aside0.mk (below_step hHeld hb : Below w1.heap.size w1 w3)
   clear hx hb
   refine hK.out _ _ HB3.out (fun hH => ?_)
   clear hK K hHeld hH
   have hHeld := HB3.out
   generalize w2.heap.size = gN at HX ⊢
   refine nm 8 ?_
   refine pu 4 12 ?_
   refine on 5 13 fun K hK => ?_
   have x0 := (blk_cell HX.out 11).trans rfl
   refine event_step rfl (w1 := w3) (v := .string ⟨#[82, 79, 79, 84]⟩) (by go_simp; rfl) ?_
   refine hK.out _ _ hHeld (fun hH => ?_)
   clear hK K hH x0
   refine nm 13 ?_
   refine pu 6 4 ?_
   refine done_ (by kernel_rfl) ?_
   obtain ⟨z0, z1⟩ := cz2 (blk_below HK.out hHeld)
   go_wp2
   go_ret2
   exact ⟨by first | rfl | (simp; rfl), HB.out.trans (hHeld.mono HB.out.size)⟩
def larchlaw18_awake.f : Option Bool := some true
theorem larchlaw18_awake.calls (r : Bool) (w : World) (h : larchlaw18_awake.f = some r) : Calls Tryd.prog 4 #[] w fun e w' => e = .returned (.bool r) ∧ Below w.heap.size w w' := by
 obtain rfl := Option.some.inj h
 exact T.awake_any w
end Go.Proofs.YtgleaefhflamnaaDoor.U
namespace Go.Proofs.YtgleaefhflamnaaDoor.U
open Go.RowKit Go.Proofs.YtgleaefhflamnaaDoorW.PrintWords Go.Proofs.YtgleaefhflamnaaDoorW.PrintLast Go.Proofs.YtgleaefhflamnaaDoorW.PrintMore
attribute [local go_sem] max2_int min2_int max_two min_two max_three min_three max_four min_four
set_option linter.unusedVariables false
set_option linter.unusedSimpArgs false
def larchref18_IsMove.f (a0_0 : Int) (a0_1 : Bool) : Option (Bool) := if a0_1 = true then (if a0_0 = 1 then (some false) else (if a0_0 = 11 then (some false) else (if a0_0 = 12 then (some false) else (if a0_0 ≥ 1 then (some (decide (a0_0 ≤ 12))) else (some false))))) else (if a0_0 ≥ 1 then (some (decide (a0_0 ≤ 12))) else (some false))
set_option maxHeartbeats 8000000 in
set_option maxRecDepth 100000 in
theorem larchref18_IsMove.calls (a0_0 : Int) (a0_1 : Bool) (r : Bool) (w : World) (h : larchref18_IsMove.f a0_0 a0_1 = some r) :
  Calls Tryd.prog 18 #[.agg #[.int .i64 a0_0, .bool a0_1]] w fun e w' => e = .returned (.bool r) ∧ Below w.heap.size w w' := by
 have hu23 := Tryd.underlying23
 have HB := Aside0.mk (Below.refl w.heap.size w)
 have H : (if a0_1 = true then (if a0_0 = 1 then (some false) else (if a0_0 = 11 then (some false) else (if a0_0 = 12 then (some false) else (if a0_0 ≥ 1 then (some (decide (a0_0 ≤ 12))) else (some false))))) else (if a0_0 ≥ 1 then (some (decide (a0_0 ≤ 12))) else (some false))) = some r := h
 clear h
 by_cases c2 : a0_1 = true
 ·subst c2
  have H1 : (if a0_0 = 1 then (some false) else (if a0_0 = 11 then (some false) else (if a0_0 = 12 then (some false) else (if a0_0 ≥ 1 then (some (decide (a0_0 ≤ 12))) else (some false))))) = some r := by rw [if_pos rfl] at H; exact H
  clear H
  have H := H1
  clear H1
  by_cases c3 : a0_0 = 1
  ·rw [if_pos c3] at H
   have c3b0 : (a0_0 == 1) = true := beq_iff_eq.mpr c3
   have c3b1 : (a0_0 != 1) = false := bne_eq_false_iff_eq.mpr c3
   clear c3
   obtain rfl := Option.some.inj H
   go_enter Tryd.func18, Tryd.ntmps18
   go_wp2_with (first | ((with_reducible refine gate_dst (N := 1) rfl ?_); refine box_event ?hg (N := 1) ?hd (cs := #[.int .i64 a0_0, .bool true]) (t := 23) ?hr ?_; (case hd => rfl); (case hg => rfl); (case hr => first | (go_simp; done) | (go_simp; rfl)); intro gb101 hg w4 hbox hb; have n0_ := Aside0.mk (below_step (by repeat (first | (with_reducible first | exact HB.out | apply below_alloc | apply pw_below_drewN | apply below_drew1) | exact HB.out)) hb); have n1_ := Aside0.mk (hbox); have n2_ := Aside0.mk ((by rw [hg]; exact (below_size (by repeat (first | (with_reducible first | exact HB.out | apply below_alloc | apply pw_below_drewN | apply below_drew1) | exact HB.out))) : w.heap.size ≤ gb101)); have n3_ := Aside0.mk ((by rw [hg]; exact (below_size (by repeat (first | (with_reducible first | exact HB.out | apply below_alloc | apply pw_below_drewN | apply below_drew1) | exact HB.out))) : w.heap.size ≤ gb101)); clear HB; have HB := n0_; have BK101 := n1_; have GW101 := n2_; have GE101 := n3_; clear n0_ n1_ n2_ n3_; clear hb hbox hg; have hcz5_0 : w4.cell? ⟨gb101, 0, none⟩ = some (.int .i64 a0_0) := (blk_cell BK101.out 0).trans rfl; have hcz5_1 : w4.cell? ⟨gb101, 1, none⟩ = some (.bool true) := (blk_cell BK101.out 1).trans rfl; have hfz5_0 := blk_frozen BK101.out 0; have hfz5_1 := blk_frozen BK101.out 1))
   go_ret
   exact ⟨by first | rfl | (simp [errW_none, errW_some] <;> rfl) | (simp [*, errW_none, errW_some] <;> rfl), by repeat (first | (with_reducible first | exact HB.out | apply below_alloc | apply pw_below_drewN | apply below_drew1 | refine below_set ?_ GE101.out) | exact HB.out)⟩
  ·rw [if_neg c3] at H
   have c3b0 : (a0_0 == 1) = false := beq_eq_false_iff_ne.mpr c3
   have c3b1 : (a0_0 != 1) = true := bne_iff_ne.mpr c3
   by_cases c6 : a0_0 = 11
   ·rw [if_pos c6] at H
    have c6b0 : (a0_0 == 11) = true := beq_iff_eq.mpr c6
    have c6b1 : (a0_0 != 11) = false := bne_eq_false_iff_eq.mpr c6
    clear c6
    obtain rfl := Option.some.inj H
    go_enter Tryd.func18, Tryd.ntmps18
    go_wp2_with (first | ((with_reducible refine gate_dst (N := 1) rfl ?_); refine box_event ?hg (N := 1) ?hd (cs := #[.int .i64 a0_0, .bool true]) (t := 23) ?hr ?_; (case hd => rfl); (case hg => rfl); (case hr => first | (go_simp; done) | (go_simp; rfl)); intro gb101 hg w7 hbox hb; have n0_ := Aside0.mk (below_step (by repeat (first | (with_reducible first | exact HB.out | apply below_alloc | apply pw_below_drewN | apply below_drew1) | exact HB.out)) hb); have n1_ := Aside0.mk (hbox); have n2_ := Aside0.mk ((by rw [hg]; exact (below_size (by repeat (first | (with_reducible first | exact HB.out | apply below_alloc | apply pw_below_drewN | apply below_drew1) | exact HB.out))) : w.heap.size ≤ gb101)); have n3_ := Aside0.mk ((by rw [hg]; exact (below_size (by repeat (first | (with_reducible first | exact HB.out | apply below_alloc | apply pw_below_drewN | apply below_drew1) | exact HB.out))) : w.heap.size ≤ gb101)); clear HB; have HB := n0_; have BK101 := n1_; have GW101 := n2_; have GE101 := n3_; clear n0_ n1_ n2_ n3_; clear hb hbox hg; have hcz8_0 : w7.cell? ⟨gb101, 0, none⟩ = some (.int .i64 a0_0) := (blk_cell BK101.out 0).trans rfl; have hcz8_1 : w7.cell? ⟨gb101, 1, none⟩ = some (.bool true) := (blk_cell BK101.out 1).trans rfl; have hfz8_0 := blk_frozen BK101.out 0; have hfz8_1 := blk_frozen BK101.out 1))
    go_ret
    exact ⟨by first | rfl | (simp [errW_none, errW_some] <;> rfl) | (simp [*, errW_none, errW_some] <;> rfl), by repeat (first | (with_reducible first | exact HB.out | apply below_alloc | apply pw_below_drewN | apply below_drew1 | refine below_set ?_ GE101.out) | exact HB.out)⟩
   ·rw [if_neg c6] at H
    have c6b0 : (a0_0 == 11) = false := beq_eq_false_iff_ne.mpr c6
    have c6b1 : (a0_0 != 11) = true := bne_iff_ne.mpr c6
    by_cases c9 : a0_0 = 12
    ·rw [if_pos c9] at H
     have c9b0 : (a0_0 == 12) = true := beq_iff_eq.mpr c9
     have c9b1 : (a0_0 != 12) = false := bne_eq_false_iff_eq.mpr c9
     clear c9
     obtain rfl := Option.some.inj H
     go_enter Tryd.func18, Tryd.ntmps18
     go_wp2_with (first | ((with_reducible refine gate_dst (N := 1) rfl ?_); refine box_event ?hg (N := 1) ?hd (cs := #[.int .i64 a0_0, .bool true]) (t := 23) ?hr ?_; (case hd => rfl); (case hg => rfl); (case hr => first | (go_simp; done) | (go_simp; rfl)); intro gb101 hg w10 hbox hb; have n0_ := Aside0.mk (below_step (by repeat (first | (with_reducible first | exact HB.out | apply below_alloc | apply pw_below_drewN | apply below_drew1) | exact HB.out)) hb); have n1_ := Aside0.mk (hbox); have n2_ := Aside0.mk ((by rw [hg]; exact (below_size (by repeat (first | (with_reducible first | exact HB.out | apply below_alloc | apply pw_below_drewN | apply below_drew1) | exact HB.out))) : w.heap.size ≤ gb101)); have n3_ := Aside0.mk ((by rw [hg]; exact (below_size (by repeat (first | (with_reducible first | exact HB.out | apply below_alloc | apply pw_below_drewN | apply below_drew1) | exact HB.out))) : w.heap.size ≤ gb101)); clear HB; have HB := n0_; have BK101 := n1_; have GW101 := n2_; have GE101 := n3_; clear n0_ n1_ n2_ n3_; clear hb hbox hg; have hcz11_0 : w10.cell? ⟨gb101, 0, none⟩ = some (.int .i64 a0_0) := (blk_cell BK101.out 0).trans rfl; have hcz11_1 : w10.cell? ⟨gb101, 1, none⟩ = some (.bool true) := (blk_cell BK101.out 1).trans rfl; have hfz11_0 := blk_frozen BK101.out 0; have hfz11_1 := blk_frozen BK101.out 1))
     go_ret
     exact ⟨by first | rfl | (simp [errW_none, errW_some] <;> rfl) | (simp [*, errW_none, errW_some] <;> rfl), by repeat (first | (with_reducible first | exact HB.out | apply below_alloc | apply pw_below_drewN | apply below_drew1 | refine below_set ?_ GE101.out) | exact HB.out)⟩
    ·rw [if_neg c9] at H
     have c9b0 : (a0_0 == 12) = false := beq_eq_false_iff_ne.mpr c9
     have c9b1 : (a0_0 != 12) = true := bne_iff_ne.mpr c9
     by_cases c12 : a0_0 ≥ 1
     ·rw [if_pos c12] at H
      have c12b0 : decide (1 ≤ a0_0) = true := decide_eq_true c12
      clear c12
      obtain rfl := Option.some.inj H
      go_enter Tryd.func18, Tryd.ntmps18
      go_wp2_with (first | ((with_reducible refine gate_dst (N := 1) rfl ?_); refine box_event ?hg (N := 1) ?hd (cs := #[.int .i64 a0_0, .bool true]) (t := 23) ?hr ?_; (case hd => rfl); (case hg => rfl); (case hr => first | (go_simp; done) | (go_simp; rfl)); intro gb101 hg w13 hbox hb; have n0_ := Aside0.mk (below_step (by repeat (first | (with_reducible first | exact HB.out | apply below_alloc | apply pw_below_drewN | apply below_drew1) | exact HB.out)) hb); have n1_ := Aside0.mk (hbox); have n2_ := Aside0.mk ((by rw [hg]; exact (below_size (by repeat (first | (with_reducible first | exact HB.out | apply below_alloc | apply pw_below_drewN | apply below_drew1) | exact HB.out))) : w.heap.size ≤ gb101)); have n3_ := Aside0.mk ((by rw [hg]; exact (below_size (by repeat (first | (with_reducible first | exact HB.out | apply below_alloc | apply pw_below_drewN | apply below_drew1) | exact HB.out))) : w.heap.size ≤ gb101)); clear HB; have HB := n0_; have BK101 := n1_; have GW101 := n2_; have GE101 := n3_; clear n0_ n1_ n2_ n3_; clear hb hbox hg; have hcz14_0 : w13.cell? ⟨gb101, 0, none⟩ = some (.int .i64 a0_0) := (blk_cell BK101.out 0).trans rfl; have hcz14_1 : w13.cell? ⟨gb101, 1, none⟩ = some (.bool true) := (blk_cell BK101.out 1).trans rfl; have hfz14_0 := blk_frozen BK101.out 0; have hfz14_1 := blk_frozen BK101.out 1))
      go_ret
      exact ⟨by first | rfl | (simp [errW_none, errW_some] <;> rfl) | (simp [*, errW_none, errW_some] <;> rfl), by repeat (first | (with_reducible first | exact HB.out | apply below_alloc | apply pw_below_drewN | apply below_drew1 | refine below_set ?_ GE101.out) | exact HB.out)⟩
     ·rw [if_neg c12] at H
      have c12b0 : decide (1 ≤ a0_0) = false := decide_eq_false c12
      clear c12
      obtain rfl := Option.some.inj H
      go_enter Tryd.func18, Tryd.ntmps18
      go_wp2_with (first | ((with_reducible refine gate_dst (N := 1) rfl ?_); refine box_event ?hg (N := 1) ?hd (cs := #[.int .i64 a0_0, .bool true]) (t := 23) ?hr ?_; (case hd => rfl); (case hg => rfl); (case hr => first | (go_simp; done) | (go_simp; rfl)); intro gb101 hg w15 hbox hb; have n0_ := Aside0.mk (below_step (by repeat (first | (with_reducible first | exact HB.out | apply below_alloc | apply pw_below_drewN | apply below_drew1) | exact HB.out)) hb); have n1_ := Aside0.mk (hbox); have n2_ := Aside0.mk ((by rw [hg]; exact (below_size (by repeat (first | (with_reducible first | exact HB.out | apply below_alloc | apply pw_below_drewN | apply below_drew1) | exact HB.out))) : w.heap.size ≤ gb101)); have n3_ := Aside0.mk ((by rw [hg]; exact (below_size (by repeat (first | (with_reducible first | exact HB.out | apply below_alloc | apply pw_below_drewN | apply below_drew1) | exact HB.out))) : w.heap.size ≤ gb101)); clear HB; have HB := n0_; have BK101 := n1_; have GW101 := n2_; have GE101 := n3_; clear n0_ n1_ n2_ n3_; clear hb hbox hg; have hcz16_0 : w15.cell? ⟨gb101, 0, none⟩ = some (.int .i64 a0_0) := (blk_cell BK101.out 0).trans rfl; have hcz16_1 : w15.cell? ⟨gb101, 1, none⟩ = some (.bool true) := (blk_cell BK101.out 1).trans rfl; have hfz16_0 := blk_frozen BK101.out 0; have hfz16_1 := blk_frozen BK101.out 1))
      go_ret
      exact ⟨by first | rfl | (simp [errW_none, errW_some] <;> rfl) | (simp [*, errW_none, errW_some] <;> rfl), by repeat (first | (with_reducible first | exact HB.out | apply below_alloc | apply pw_below_drewN | apply below_drew1 | refine below_set ?_ GE101.out) | exact HB.out)⟩
 ·replace c2 := Bool.eq_false_iff.mpr c2
  subst c2
  have H1 : (if a0_0 ≥ 1 then (some (decide (a0_0 ≤ 12))) else (some false)) = some r := by rw [if_neg (show ¬ (false = true) by decide)] at H; exact H
  clear H
  have H := H1
  clear H1
  by_cases c17 : a0_0 ≥ 1
  ·rw [if_pos c17] at H
   have c17b0 : decide (1 ≤ a0_0) = true := decide_eq_true c17
   clear c17
   obtain rfl := Option.some.inj H
   go_enter Tryd.func18, Tryd.ntmps18
   go_wp2_with (first | ((with_reducible refine gate_dst (N := 1) rfl ?_); refine box_event ?hg (N := 1) ?hd (cs := #[.int .i64 a0_0, .bool false]) (t := 23) ?hr ?_; (case hd => rfl); (case hg => rfl); (case hr => first | (go_simp; done) | (go_simp; rfl)); intro gb101 hg w18 hbox hb; have n0_ := Aside0.mk (below_step (by repeat (first | (with_reducible first | exact HB.out | apply below_alloc | apply pw_below_drewN | apply below_drew1) | exact HB.out)) hb); have n1_ := Aside0.mk (hbox); have n2_ := Aside0.mk ((by rw [hg]; exact (below_size (by repeat (first | (with_reducible first | exact HB.out | apply below_alloc | apply pw_below_drewN | apply below_drew1) | exact HB.out))) : w.heap.size ≤ gb101)); have n3_ := Aside0.mk ((by rw [hg]; exact (below_size (by repeat (first | (with_reducible first | exact HB.out | apply below_alloc | apply pw_below_drewN | apply below_drew1) | exact HB.out))) : w.heap.size ≤ gb101)); clear HB; have HB := n0_; have BK101 := n1_; have GW101 := n2_; have GE101 := n3_; clear n0_ n1_ n2_ n3_; clear hb hbox hg; have hcz19_0 : w18.cell? ⟨gb101, 0, none⟩ = some (.int .i64 a0_0) := (blk_cell BK101.out 0).trans rfl; have hcz19_1 : w18.cell? ⟨gb101, 1, none⟩ = some (.bool false) := (blk_cell BK101.out 1).trans rfl; have hfz19_0 := blk_frozen BK101.out 0; have hfz19_1 := blk_frozen BK101.out 1))
   go_ret
   exact ⟨by first | rfl | (simp [errW_none, errW_some] <;> rfl) | (simp [*, errW_none, errW_some] <;> rfl), by repeat (first | (with_reducible first | exact HB.out | apply below_alloc | apply pw_below_drewN | apply below_drew1 | refine below_set ?_ GE101.out) | exact HB.out)⟩
  ·rw [if_neg c17] at H
   have c17b0 : decide (1 ≤ a0_0) = false := decide_eq_false c17
   clear c17
   obtain rfl := Option.some.inj H
   go_enter Tryd.func18, Tryd.ntmps18
   go_wp2_with (first | ((with_reducible refine gate_dst (N := 1) rfl ?_); refine box_event ?hg (N := 1) ?hd (cs := #[.int .i64 a0_0, .bool false]) (t := 23) ?hr ?_; (case hd => rfl); (case hg => rfl); (case hr => first | (go_simp; done) | (go_simp; rfl)); intro gb101 hg w20 hbox hb; have n0_ := Aside0.mk (below_step (by repeat (first | (with_reducible first | exact HB.out | apply below_alloc | apply pw_below_drewN | apply below_drew1) | exact HB.out)) hb); have n1_ := Aside0.mk (hbox); have n2_ := Aside0.mk ((by rw [hg]; exact (below_size (by repeat (first | (with_reducible first | exact HB.out | apply below_alloc | apply pw_below_drewN | apply below_drew1) | exact HB.out))) : w.heap.size ≤ gb101)); have n3_ := Aside0.mk ((by rw [hg]; exact (below_size (by repeat (first | (with_reducible first | exact HB.out | apply below_alloc | apply pw_below_drewN | apply below_drew1) | exact HB.out))) : w.heap.size ≤ gb101)); clear HB; have HB := n0_; have BK101 := n1_; have GW101 := n2_; have GE101 := n3_; clear n0_ n1_ n2_ n3_; clear hb hbox hg; have hcz21_0 : w20.cell? ⟨gb101, 0, none⟩ = some (.int .i64 a0_0) := (blk_cell BK101.out 0).trans rfl; have hcz21_1 : w20.cell? ⟨gb101, 1, none⟩ = some (.bool false) := (blk_cell BK101.out 1).trans rfl; have hfz21_0 := blk_frozen BK101.out 0; have hfz21_1 := blk_frozen BK101.out 1))
   go_ret
   exact ⟨by first | rfl | (simp [errW_none, errW_some] <;> rfl) | (simp [*, errW_none, errW_some] <;> rfl), by repeat (first | (with_reducible first | exact HB.out | apply below_alloc | apply pw_below_drewN | apply below_drew1 | refine below_set ?_ GE101.out) | exact HB.out)⟩
end Go.Proofs.YtgleaefhflamnaaDoor.U
namespace Go.Proofs.YtgleaefhflamnaaDoor.U
open Go.RowKit Go.Proofs.YtgleaefhflamnaaDoorW.PrintWords Go.Proofs.YtgleaefhflamnaaDoorW.PrintLast Go.Proofs.YtgleaefhflamnaaDoorW.PrintMore
open Go.Proofs.YtgleaefhflamnaaDoor.T (pu ta po on gO sT nm cz2)
set_option linter.unusedVariables false
set_option linter.unusedSimpArgs false
def nm13 : List ByteArray := ⟨#[]⟩ :: nm12
set_option maxHeartbeats 4000000 in
set_option maxRecDepth 100000 in
theorem refnames_calls (w : World) : Calls Tryd.prog 19 #[] w fun e w' =>
  e = .returned (.slice (some ⟨w.heap.size, 0, none⟩) 13 13) ∧ w'.heap[w.heap.size]? = some (.cells (nm13.map Value.string).toArray 9 (0, 0)) ∧ Below w.heap.size w w' := by
 go_enter Tryd.func19, Tryd.ntmps19
 go_wp2
 go_ret
 exact ⟨rfl, heap_alloc_new w _, below_alloc (Below.refl _ _) _⟩
def refIs (a0 : Int) (a1 : Bool) : Bool := !(a1 && (a0 == 1 || a0 == 11 || a0 == 12)) && decide (1 ≤ a0) && decide (a0 ≤ 12)
set_option maxHeartbeats 4000000 in
set_option maxRecDepth 100000 in
theorem refIs_calls (a0 : Int) (a1 : Bool) (w : World) :
  Calls Tryd.prog 18 #[.agg #[.int .i64 a0, .bool a1]] w fun e w' => e = .returned (.bool (refIs a0 a1)) ∧ Below w.heap.size w w' := by
 have hu23 := Tryd.underlying23
 cases a1
 all_goals
  go_enter Tryd.func18, Tryd.ntmps18
  go_wp2
  all_goals
   go_ret
   refine ⟨?_, below_alloc (Below.refl _ _) _⟩
   unfold refIs
   first | (simp_all; done) | (simp_all; omega) | (simp_all <;> omega)
def larchref18_Name.f (a0 : Int) (a1 : Bool) : Option (ByteArray × Int) := if refIs a0 a1 = true then some ((if a1 = true then rdOf ByteArray.empty nm12 (a0 - 1) ++ mirB else rdOf ByteArray.empty nm12 (a0 - 1)), 0) else some (ByteArray.empty, 5)
set_option maxHeartbeats 8000000 in
set_option maxRecDepth 100000 in
theorem larchref18_Name.calls (a0 : Int) (a1 : Bool) (r1 : ByteArray) (r2 : Int) (w : World) (h : larchref18_Name.f a0 a1 = some (r1, r2)) :
  Calls Tryd.prog 5 #[.agg #[.int .i64 a0, .bool a1]] w fun e w' => e = .returned (.tuple #[.string r1, .int .i64 r2]) ∧ Below w.heap.size w w' := by
 have hu23 := Tryd.underlying23
 unfold larchref18_Name.f at h
 have H := Aside0.mk h
 clear h
 go_enter Tryd.func5, Tryd.ntmps5
 go_wp2_with (fail)
 refine (refIs_calls a0 a1 _).mono ?_
 rintro _ w1 ⟨rfl, hb⟩
 have HB := Aside0.mk (((Below.refl w.heap.size w).alloc (Nat.le_refl _) (.cells #[.int .i64 a0, .bool a1] 23)).trans (hb.mono (by simp)) : Below w.heap.size w w1)
 have HK := Aside0.mk (show w1.heap[w.heap.size]? = some (.cells #[.int .i64 a0, .bool a1] 23 (0, 0)) by rw [hb.block _ (by simp)]; exact heap_alloc_new w _)
 clear hb
 by_cases hi : refIs a0 a1 = true
 rotate_left
 ·have hf : refIs a0 a1 = false := by simpa using hi
  have h := H.out
  rw [if_neg hi] at h
  obtain ⟨rfl, rfl⟩ := Prod.mk.inj (Option.some.inj h)
  clear h H hi
  go_wp2
  go_ret2
  exact ⟨rfl, HB.out⟩
 have hcase : a0 = 1 ∨ a0 = 2 ∨ a0 = 3 ∨ a0 = 4 ∨ a0 = 5 ∨ a0 = 6 ∨ a0 = 7 ∨ a0 = 8 ∨ a0 = 9 ∨ a0 = 10 ∨ a0 = 11 ∨ a0 = 12 := by
  unfold refIs at hi
  simp only [Bool.and_eq_true, decide_eq_true_eq] at hi
  omega
 have h := H.out
 rw [if_pos hi] at h
 obtain ⟨rfl, rfl⟩ := Prod.mk.inj (Option.some.inj h)
 clear h H
 have HC := Aside0.mk hcase
 clear hcase
 obtain ⟨z0, z1⟩ := cz2 HK.out
 cases a1
 ·rcases HC.out with rfl | rfl | rfl | rfl | rfl | rfl | rfl | rfl | rfl | rfl | rfl | rfl
  ·clear HC
   go_wp2
   clear z0 z1
   refine sT 7 [] (S := fun W' => Below w1.heap.size w1 W') (below_drew1 (Below.refl _ _)) fun hHeld => ?_
   generalize w1.drew = w2 at hHeld ⊢
   refine pu 1 16 ?_
   refine ta 2 17 hHeld (hy := by intro w' hs; obtain ⟨z0, z1⟩ := cz2 (blk_below HK.out hs); go_simp; with_reducible rfl) ?_
   refine on 0 15 fun K hK => ?_
   refine gO Tryd.func19 #[] ?_
   refine (refnames_calls _).mono ?_
   rintro e w3 ⟨rfl, hx, hb⟩
   refine ⟨_, rfl, ?_⟩
   have HX := Aside0.mk hx
   have HB3 := Aside0.mk (below_step hHeld hb : Below w1.heap.size w1 w3)
   clear hx hb
   refine hK.out _ _ HB3.out (fun hH => ?_)
   clear hK K hHeld hH
   have hHeld := HB3.out
   generalize w2.heap.size = gN at HX ⊢
   refine nm 15 ?_
   refine pu 3 18 ?_
   refine on 4 19 fun K hK => ?_
   have x0 := (blk_cell HX.out 1).trans rfl
   refine event_step rfl (w1 := w3) (v := .string ⟨#[66, 76, 75]⟩) (by go_simp; rfl) ?_
   refine hK.out _ _ hHeld (fun hH => ?_)
   clear hK K hH x0
   refine nm 19 ?_
   refine pu 5 2 ?_
   refine pu 6 3 ?_
   refine done_ (by kernel_rfl) ?_
   go_wp2
   go_ret2
   exact ⟨by first | rfl | (simp; rfl), HB.out.trans (hHeld.mono HB.out.size)⟩
  ·clear HC
   go_wp2
   clear z0 z1
   refine sT 7 [] (S := fun W' => Below w1.heap.size w1 W') (below_drew1 (Below.refl _ _)) fun hHeld => ?_
   generalize w1.drew = w2 at hHeld ⊢
   refine pu 1 16 ?_
   refine ta 2 17 hHeld (hy := by intro w' hs; obtain ⟨z0, z1⟩ := cz2 (blk_below HK.out hs); go_simp; with_reducible rfl) ?_
   refine on 0 15 fun K hK => ?_
   refine gO Tryd.func19 #[] ?_
   refine (refnames_calls _).mono ?_
   rintro e w3 ⟨rfl, hx, hb⟩
   refine ⟨_, rfl, ?_⟩
   have HX := Aside0.mk hx
   have HB3 := Aside0.mk (below_step hHeld hb : Below w1.heap.size w1 w3)
   clear hx hb
   refine hK.out _ _ HB3.out (fun hH => ?_)
   clear hK K hHeld hH
   have hHeld := HB3.out
   generalize w2.heap.size = gN at HX ⊢
   refine nm 15 ?_
   refine pu 3 18 ?_
   refine on 4 19 fun K hK => ?_
   have x0 := (blk_cell HX.out 2).trans rfl
   refine event_step rfl (w1 := w3) (v := .string ⟨#[82, 66, 49]⟩) (by go_simp; rfl) ?_
   refine hK.out _ _ hHeld (fun hH => ?_)
   clear hK K hH x0
   refine nm 19 ?_
   refine pu 5 2 ?_
   refine pu 6 3 ?_
   refine done_ (by kernel_rfl) ?_
   go_wp2
   go_ret2
   exact ⟨by first | rfl | (simp; rfl), HB.out.trans (hHeld.mono HB.out.size)⟩
  ·clear HC
   go_wp2
   clear z0 z1
   refine sT 7 [] (S := fun W' => Below w1.heap.size w1 W') (below_drew1 (Below.refl _ _)) fun hHeld => ?_
   generalize w1.drew = w2 at hHeld ⊢
   refine pu 1 16 ?_
   refine ta 2 17 hHeld (hy := by intro w' hs; obtain ⟨z0, z1⟩ := cz2 (blk_below HK.out hs); go_simp; with_reducible rfl) ?_
   refine on 0 15 fun K hK => ?_
   refine gO Tryd.func19 #[] ?_
   refine (refnames_calls _).mono ?_
   rintro e w3 ⟨rfl, hx, hb⟩
   refine ⟨_, rfl, ?_⟩
   have HX := Aside0.mk hx
   have HB3 := Aside0.mk (below_step hHeld hb : Below w1.heap.size w1 w3)
   clear hx hb
   refine hK.out _ _ HB3.out (fun hH => ?_)
   clear hK K hHeld hH
   have hHeld := HB3.out
   generalize w2.heap.size = gN at HX ⊢
   refine nm 15 ?_
   refine pu 3 18 ?_
   refine on 4 19 fun K hK => ?_
   have x0 := (blk_cell HX.out 3).trans rfl
   refine event_step rfl (w1 := w3) (v := .string ⟨#[82, 66, 50]⟩) (by go_simp; rfl) ?_
   refine hK.out _ _ hHeld (fun hH => ?_)
   clear hK K hH x0
   refine nm 19 ?_
   refine pu 5 2 ?_
   refine pu 6 3 ?_
   refine done_ (by kernel_rfl) ?_
   go_wp2
   go_ret2
   exact ⟨by first | rfl | (simp; rfl), HB.out.trans (hHeld.mono HB.out.size)⟩
  ·clear HC
   go_wp2
   clear z0 z1
   refine sT 7 [] (S := fun W' => Below w1.heap.size w1 W') (below_drew1 (Below.refl _ _)) fun hHeld => ?_
   generalize w1.drew = w2 at hHeld ⊢
   refine pu 1 16 ?_
   refine ta 2 17 hHeld (hy := by intro w' hs; obtain ⟨z0, z1⟩ := cz2 (blk_below HK.out hs); go_simp; with_reducible rfl) ?_
   refine on 0 15 fun K hK => ?_
   refine gO Tryd.func19 #[] ?_
   refine (refnames_calls _).mono ?_
   rintro e w3 ⟨rfl, hx, hb⟩
   refine ⟨_, rfl, ?_⟩
   have HX := Aside0.mk hx
   have HB3 := Aside0.mk (below_step hHeld hb : Below w1.heap.size w1 w3)
   clear hx hb
   refine hK.out _ _ HB3.out (fun hH => ?_)
   clear hK K hHeld hH
   have hHeld := HB3.out
   generalize w2.heap.size = gN at HX ⊢
   refine nm 15 ?_
   refine pu 3 18 ?_
   refine on 4 19 fun K hK => ?_
   have x0 := (blk_cell HX.out 4).trans rfl
   refine event_step rfl (w1 := w3) (v := .string ⟨#[80, 85, 83, 72]⟩) (by go_simp; rfl) ?_
   refine hK.out _ _ hHeld (fun hH => ?_)
   clear hK K hH x0
   refine nm 19 ?_
   refine pu 5 2 ?_
   refine pu 6 3 ?_
   refine done_ (by kernel_rfl) ?_
   go_wp2
   go_ret2
   exact ⟨by first | rfl | (simp; rfl), HB.out.trans (hHeld.mono HB.out.size)⟩
  ·clear HC
   go_wp2
   clear z0 z1
   refine sT 7 [] (S := fun W' => Below w1.heap.size w1 W') (below_drew1 (Below.refl _ _)) fun hHeld => ?_
   generalize w1.drew = w2 at hHeld ⊢
   refine pu 1 16 ?_
   refine ta 2 17 hHeld (hy := by intro w' hs; obtain ⟨z0, z1⟩ := cz2 (blk_below HK.out hs); go_simp; with_reducible rfl) ?_
   refine on 0 15 fun K hK => ?_
   refine gO Tryd.func19 #[] ?_
   refine (refnames_calls _).mono ?_
   rintro e w3 ⟨rfl, hx, hb⟩
   refine ⟨_, rfl, ?_⟩
   have HX := Aside0.mk hx
   have HB3 := Aside0.mk (below_step hHeld hb : Below w1.heap.size w1 w3)
   clear hx hb
   refine hK.out _ _ HB3.out (fun hH => ?_)
   clear hK K hHeld hH
   have hHeld := HB3.out
   generalize w2.heap.size = gN at HX ⊢
   refine nm 15 ?_
   refine pu 3 18 ?_
   refine on 4 19 fun K hK => ?_
   have x0 := (blk_cell HX.out 5).trans rfl
   refine event_step rfl (w1 := w3) (v := .string ⟨#[87, 49]⟩) (by go_simp; rfl) ?_
   refine hK.out _ _ hHeld (fun hH => ?_)
   clear hK K hH x0
   refine nm 19 ?_
   refine pu 5 2 ?_
   refine pu 6 3 ?_
   refine done_ (by kernel_rfl) ?_
   go_wp2
   go_ret2
   exact ⟨by first | rfl | (simp; rfl), HB.out.trans (hHeld.mono HB.out.size)⟩
  ·clear HC
   go_wp2
   clear z0 z1
   refine sT 7 [] (S := fun W' => Below w1.heap.size w1 W') (below_drew1 (Below.refl _ _)) fun hHeld => ?_
   generalize w1.drew = w2 at hHeld ⊢
   refine pu 1 16 ?_
   refine ta 2 17 hHeld (hy := by intro w' hs; obtain ⟨z0, z1⟩ := cz2 (blk_below HK.out hs); go_simp; with_reducible rfl) ?_
   refine on 0 15 fun K hK => ?_
   refine gO Tryd.func19 #[] ?_
   refine (refnames_calls _).mono ?_
   rintro e w3 ⟨rfl, hx, hb⟩
   refine ⟨_, rfl, ?_⟩
   have HX := Aside0.mk hx
   have HB3 := Aside0.mk (below_step hHeld hb : Below w1.heap.size w1 w3)
   clear hx hb
   refine hK.out _ _ HB3.out (fun hH => ?_)
   clear hK K hHeld hH
   have hHeld := HB3.out
   generalize w2.heap.size = gN at HX ⊢
   refine nm 15 ?_
   refine pu 3 18 ?_
   refine on 4 19 fun K hK => ?_
   have x0 := (blk_cell HX.out 6).trans rfl
   refine event_step rfl (w1 := w3) (v := .string ⟨#[87, 50]⟩) (by go_simp; rfl) ?_
   refine hK.out _ _ hHeld (fun hH => ?_)
   clear hK K hH x0
   refine nm 19 ?_
   refine pu 5 2 ?_
   refine pu 6 3 ?_
   refine done_ (by kernel_rfl) ?_
   go_wp2
   go_ret2
   exact ⟨by first | rfl | (simp; rfl), HB.out.trans (hHeld.mono HB.out.size)⟩
  ·clear HC
   go_wp2
   clear z0 z1
   refine sT 7 [] (S := fun W' => Below w1.heap.size w1 W') (below_drew1 (Below.refl _ _)) fun hHeld => ?_
   generalize w1.drew = w2 at hHeld ⊢
   refine pu 1 16 ?_
   refine ta 2 17 hHeld (hy := by intro w' hs; obtain ⟨z0, z1⟩ := cz2 (blk_below HK.out hs); go_simp; with_reducible rfl) ?_
   refine on 0 15 fun K hK => ?_
   refine gO Tryd.func19 #[] ?_
   refine (refnames_calls _).mono ?_
   rintro e w3 ⟨rfl, hx, hb⟩
   refine ⟨_, rfl, ?_⟩
   have HX := Aside0.mk hx
   have HB3 := Aside0.mk (below_step hHeld hb : Below w1.heap.size w1 w3)
   clear hx hb
   refine hK.out _ _ HB3.out (fun hH => ?_)
   clear hK K hHeld hH
   have hHeld := HB3.out
   generalize w2.heap.size = gN at HX ⊢
   refine nm 15 ?_
   refine pu 3 18 ?_
   refine on 4 19 fun K hK => ?_
   have x0 := (blk_cell HX.out 7).trans rfl
   refine event_step rfl (w1 := w3) (v := .string ⟨#[87, 51]⟩) (by go_simp; rfl) ?_
   refine hK.out _ _ hHeld (fun hH => ?_)
   clear hK K hH x0
   refine nm 19 ?_
   refine pu 5 2 ?_
   refine pu 6 3 ?_
   refine done_ (by kernel_rfl) ?_
   go_wp2
   go_ret2
   exact ⟨by first | rfl | (simp; rfl), HB.out.trans (hHeld.mono HB.out.size)⟩
  ·clear HC
   go_wp2
   clear z0 z1
   refine sT 7 [] (S := fun W' => Below w1.heap.size w1 W') (below_drew1 (Below.refl _ _)) fun hHeld => ?_
   generalize w1.drew = w2 at hHeld ⊢
   refine pu 1 16 ?_
   refine ta 2 17 hHeld (hy := by intro w' hs; obtain ⟨z0, z1⟩ := cz2 (blk_below HK.out hs); go_simp; with_reducible rfl) ?_
   refine on 0 15 fun K hK => ?_
   refine gO Tryd.func19 #[] ?_
   refine (refnames_calls _).mono ?_
   rintro e w3 ⟨rfl, hx, hb⟩
   refine ⟨_, rfl, ?_⟩
   have HX := Aside0.mk hx
   have HB3 := Aside0.mk (below_step hHeld hb : Below w1.heap.size w1 w3)
   clear hx hb
   refine hK.out _ _ HB3.out (fun hH => ?_)
   clear hK K hHeld hH
   have hHeld := HB3.out
   generalize w2.heap.size = gN at HX ⊢
   refine nm 15 ?_
   refine pu 3 18 ?_
   refine on 4 19 fun K hK => ?_
   have x0 := (blk_cell HX.out 8).trans rfl
   refine event_step rfl (w1 := w3) (v := .string ⟨#[87, 52]⟩) (by go_simp; rfl) ?_
   refine hK.out _ _ hHeld (fun hH => ?_)
   clear hK K hH x0
   refine nm 19 ?_
   refine pu 5 2 ?_
   refine pu 6 3 ?_
   refine done_ (by kernel_rfl) ?_
   go_wp2
   go_ret2
   exact ⟨by first | rfl | (simp; rfl), HB.out.trans (hHeld.mono HB.out.size)⟩
  ·clear HC
   go_wp2
   clear z0 z1
   refine sT 7 [] (S := fun W' => Below w1.heap.size w1 W') (below_drew1 (Below.refl _ _)) fun hHeld => ?_
   generalize w1.drew = w2 at hHeld ⊢
   refine pu 1 16 ?_
   refine ta 2 17 hHeld (hy := by intro w' hs; obtain ⟨z0, z1⟩ := cz2 (blk_below HK.out hs); go_simp; with_reducible rfl) ?_
   refine on 0 15 fun K hK => ?_
   refine gO Tryd.func19 #[] ?_
   refine (refnames_calls _).mono ?_
   rintro e w3 ⟨rfl, hx, hb⟩
   refine ⟨_, rfl, ?_⟩
   have HX := Aside0.mk hx
   have HB3 := Aside0.mk (below_step hHeld hb : Below w1.heap.size w1 w3)
   clear hx hb
   refine hK.out _ _ HB3.out (fun hH => ?_)
   clear hK K hHeld hH
   have hHeld := HB3.out
   generalize w2.heap.size = gN at HX ⊢
   refine nm 15 ?_
   refine pu 3 18 ?_
   refine on 4 19 fun K hK => ?_
   have x0 := (blk_cell HX.out 9).trans rfl
   refine event_step rfl (w1 := w3) (v := .string ⟨#[87, 53]⟩) (by go_simp; rfl) ?_
   refine hK.out _ _ hHeld (fun hH => ?_)
   clear hK K hH x0
   refine nm 19 ?_
   refine pu 5 2 ?_
   refine pu 6 3 ?_
   refine done_ (by kernel_rfl) ?_
   go_wp2
   go_ret2
   exact ⟨by first | rfl | (simp; rfl), HB.out.trans (hHeld.mono HB.out.size)⟩
  ·clear HC
   go_wp2
   clear z0 z1
   refine sT 7 [] (S := fun W' => Below w1.heap.size w1 W') (below_drew1 (Below.refl _ _)) fun hHeld => ?_
   generalize w1.drew = w2 at hHeld ⊢
   refine pu 1 16 ?_
   refine ta 2 17 hHeld (hy := by intro w' hs; obtain ⟨z0, z1⟩ := cz2 (blk_below HK.out hs); go_simp; with_reducible rfl) ?_
   refine on 0 15 fun K hK => ?_
   refine gO Tryd.func19 #[] ?_
   refine (refnames_calls _).mono ?_
   rintro e w3 ⟨rfl, hx, hb⟩
   refine ⟨_, rfl, ?_⟩
   have HX := Aside0.mk hx
   have HB3 := Aside0.mk (below_step hHeld hb : Below w1.heap.size w1 w3)
   clear hx hb
   refine hK.out _ _ HB3.out (fun hH => ?_)
   clear hK K hHeld hH
   have hHeld := HB3.out
   generalize w2.heap.size = gN at HX ⊢
   refine nm 15 ?_
   refine pu 3 18 ?_
   refine on 4 19 fun K hK => ?_
   have x0 := (blk_cell HX.out 10).trans rfl
   refine event_step rfl (w1 := w3) (v := .string ⟨#[87, 54]⟩) (by go_simp; rfl) ?_
   refine hK.out _ _ hHeld (fun hH => ?_)
   clear hK K hH x0
   refine nm 19 ?_
   refine pu 5 2 ?_
   refine pu 6 3 ?_
   refine done_ (by kernel_rfl) ?_
   go_wp2
   go_ret2
   exact ⟨by first | rfl | (simp; rfl), HB.out.trans (hHeld.mono HB.out.size)⟩
  ·clear HC
   go_wp2
   clear z0 z1
   refine sT 7 [] (S := fun W' => Below w1.heap.size w1 W') (below_drew1 (Below.refl _ _)) fun hHeld => ?_
   generalize w1.drew = w2 at hHeld ⊢
   refine pu 1 16 ?_
   refine ta 2 17 hHeld (hy := by intro w' hs; obtain ⟨z0, z1⟩ := cz2 (blk_below HK.out hs); go_simp; with_reducible rfl) ?_
   refine on 0 15 fun K hK => ?_
   refine gO Tryd.func19 #[] ?_
   refine (refnames_calls _).mono ?_
   rintro e w3 ⟨rfl, hx, hb⟩
   refine ⟨_, rfl, ?_⟩
   have HX := Aside0.mk hx
   have HB3 := Aside0.mk (below_step hHeld hb : Below w1.heap.size w1 w3)
   clear hx hb
   refine hK.out _ _ HB3.out (fun hH => ?_)
   clear hK K hHeld hH
   have hHeld := HB3.out
   generalize w2.heap.size = gN at HX ⊢
   refine nm 15 ?_
   refine pu 3 18 ?_
   refine on 4 19 fun K hK => ?_
   have x0 := (blk_cell HX.out 11).trans rfl
   refine event_step rfl (w1 := w3) (v := .string ⟨#[87, 55]⟩) (by go_simp; rfl) ?_
   refine hK.out _ _ hHeld (fun hH => ?_)
   clear hK K hH x0
   refine nm 19 ?_
   refine pu 5 2 ?_
   refine pu 6 3 ?_
   refine done_ (by kernel_rfl) ?_
   go_wp2
   go_ret2
   exact ⟨by first | rfl | (simp; rfl), HB.out.trans (hHeld.mono HB.out.size)⟩
  ·clear HC
   go_wp2
   clear z0 z1
   refine sT 7 [] (S := fun W' => Below w1.heap.size w1 W') (below_drew1 (Below.refl _ _)) fun hHeld => ?_
   generalize w1.drew = w2 at hHeld ⊢
   refine pu 1 16 ?_
   refine ta 2 17 hHeld (hy := by intro w' hs; obtain ⟨z0, z1⟩ := cz2 (blk_below HK.out hs); go_simp; with_reducible rfl) ?_
   refine on 0 15 fun K hK => ?_
   refine gO Tryd.func19 #[] ?_
   refine (refnames_calls _).mono ?_
   rintro e w3 ⟨rfl, hx, hb⟩
   refine ⟨_, rfl, ?_⟩
   have HX := Aside0.mk hx
   have HB3 := Aside0.mk (below_step hHeld hb : Below w1.heap.size w1 w3)
   clear hx hb
   refine hK.out _ _ HB3.out (fun hH => ?_)
   clear hK K hHeld hH
   have hHeld := HB3.out
   generalize w2.heap.size = gN at HX ⊢
   refine nm 15 ?_
   refine pu 3 18 ?_
   refine on 4 19 fun K hK => ?_
   have x0 := (blk_cell HX.out 12).trans rfl
   refine event_step rfl (w1 := w3) (v := .string ⟨#[82, 79, 79, 84]⟩) (by go_simp; rfl) ?_
   refine hK.out _ _ hHeld (fun hH => ?_)
   clear hK K hH x0
   refine nm 19 ?_
   refine pu 5 2 ?_
   refine pu 6 3 ?_
   refine done_ (by kernel_rfl) ?_
   go_wp2
   go_ret2
   exact ⟨by first | rfl | (simp; rfl), HB.out.trans (hHeld.mono HB.out.size)⟩
 ·rcases HC.out with rfl | rfl | rfl | rfl | rfl | rfl | rfl | rfl | rfl | rfl | rfl | rfl
  ·clear HC
   go_wp2
   clear z0 z1
   refine sT 8 [] (S := fun W' => Below w1.heap.size w1 W') (below_drew1 (Below.refl _ _)) fun hHeld => ?_
   generalize w1.drew = w2 at hHeld ⊢
   refine pu 1 10 ?_
   refine ta 2 11 hHeld (hy := by intro w' hs; obtain ⟨z0, z1⟩ := cz2 (blk_below HK.out hs); go_simp; with_reducible rfl) ?_
   refine on 0 9 fun K hK => ?_
   refine gO Tryd.func19 #[] ?_
   refine (refnames_calls _).mono ?_
   rintro e w3 ⟨rfl, hx, hb⟩
   refine ⟨_, rfl, ?_⟩
   have HX := Aside0.mk hx
   have HB3 := Aside0.mk (below_step hHeld hb : Below w1.heap.size w1 w3)
   clear hx hb
   refine hK.out _ _ HB3.out (fun hH => ?_)
   clear hK K hHeld hH
   have hHeld := HB3.out
   generalize w2.heap.size = gN at HX ⊢
   refine nm 9 ?_
   refine pu 3 12 ?_
   refine on 4 13 fun K hK => ?_
   have x0 := (blk_cell HX.out 1).trans rfl
   refine event_step rfl (w1 := w3) (v := .string ⟨#[66, 76, 75]⟩) (by go_simp; rfl) ?_
   refine hK.out _ _ hHeld (fun hH => ?_)
   clear hK K hH x0
   refine nm 13 ?_
   refine pu 5 14 ?_
   refine pu 6 2 ?_
   refine pu 7 3 ?_
   refine done_ (by kernel_rfl) ?_
   go_wp2
   go_ret2
   exact ⟨by first | rfl | (simp; rfl), HB.out.trans (hHeld.mono HB.out.size)⟩
  ·clear HC
   go_wp2
   clear z0 z1
   refine sT 8 [] (S := fun W' => Below w1.heap.size w1 W') (below_drew1 (Below.refl _ _)) fun hHeld => ?_
   generalize w1.drew = w2 at hHeld ⊢
   refine pu 1 10 ?_
   refine ta 2 11 hHeld (hy := by intro w' hs; obtain ⟨z0, z1⟩ := cz2 (blk_below HK.out hs); go_simp; with_reducible rfl) ?_
   refine on 0 9 fun K hK => ?_
   refine gO Tryd.func19 #[] ?_
   refine (refnames_calls _).mono ?_
   rintro e w3 ⟨rfl, hx, hb⟩
   refine ⟨_, rfl, ?_⟩
   have HX := Aside0.mk hx
   have HB3 := Aside0.mk (below_step hHeld hb : Below w1.heap.size w1 w3)
   clear hx hb
   refine hK.out _ _ HB3.out (fun hH => ?_)
   clear hK K hHeld hH
   have hHeld := HB3.out
   generalize w2.heap.size = gN at HX ⊢
   refine nm 9 ?_
   refine pu 3 12 ?_
   refine on 4 13 fun K hK => ?_
   have x0 := (blk_cell HX.out 2).trans rfl
   refine event_step rfl (w1 := w3) (v := .string ⟨#[82, 66, 49]⟩) (by go_simp; rfl) ?_
   refine hK.out _ _ hHeld (fun hH => ?_)
   clear hK K hH x0
   refine nm 13 ?_
   refine pu 5 14 ?_
   refine pu 6 2 ?_
   refine pu 7 3 ?_
   refine done_ (by kernel_rfl) ?_
   go_wp2
   go_ret2
   exact ⟨by first | rfl | (simp; rfl), HB.out.trans (hHeld.mono HB.out.size)⟩
  ·clear HC
   go_wp2
   clear z0 z1
   refine sT 8 [] (S := fun W' => Below w1.heap.size w1 W') (below_drew1 (Below.refl _ _)) fun hHeld => ?_
   generalize w1.drew = w2 at hHeld ⊢
   refine pu 1 10 ?_
   refine ta 2 11 hHeld (hy := by intro w' hs; obtain ⟨z0, z1⟩ := cz2 (blk_below HK.out hs); go_simp; with_reducible rfl) ?_
   refine on 0 9 fun K hK => ?_
   refine gO Tryd.func19 #[] ?_
   refine (refnames_calls _).mono ?_
   rintro e w3 ⟨rfl, hx, hb⟩
   refine ⟨_, rfl, ?_⟩
   have HX := Aside0.mk hx
   have HB3 := Aside0.mk (below_step hHeld hb : Below w1.heap.size w1 w3)
   clear hx hb
   refine hK.out _ _ HB3.out (fun hH => ?_)
   clear hK K hHeld hH
   have hHeld := HB3.out
   generalize w2.heap.size = gN at HX ⊢
   refine nm 9 ?_
   refine pu 3 12 ?_
   refine on 4 13 fun K hK => ?_
   have x0 := (blk_cell HX.out 3).trans rfl
   refine event_step rfl (w1 := w3) (v := .string ⟨#[82, 66, 50]⟩) (by go_simp; rfl) ?_
   refine hK.out _ _ hHeld (fun hH => ?_)
   clear hK K hH x0
   refine nm 13 ?_
   refine pu 5 14 ?_
   refine pu 6 2 ?_
   refine pu 7 3 ?_
   refine done_ (by kernel_rfl) ?_
   go_wp2
   go_ret2
   exact ⟨by first | rfl | (simp; rfl), HB.out.trans (hHeld.mono HB.out.size)⟩
  ·clear HC
   go_wp2
   clear z0 z1
   refine sT 8 [] (S := fun W' => Below w1.heap.size w1 W') (below_drew1 (Below.refl _ _)) fun hHeld => ?_
   generalize w1.drew = w2 at hHeld ⊢
   refine pu 1 10 ?_
   refine ta 2 11 hHeld (hy := by intro w' hs; obtain ⟨z0, z1⟩ := cz2 (blk_below HK.out hs); go_simp; with_reducible rfl) ?_
   refine on 0 9 fun K hK => ?_
   refine gO Tryd.func19 #[] ?_
   refine (refnames_calls _).mono ?_
   rintro e w3 ⟨rfl, hx, hb⟩
   refine ⟨_, rfl, ?_⟩
   have HX := Aside0.mk hx
   have HB3 := Aside0.mk (below_step hHeld hb : Below w1.heap.size w1 w3)
   clear hx hb
   refine hK.out _ _ HB3.out (fun hH => ?_)
   clear hK K hHeld hH
   have hHeld := HB3.out
   generalize w2.heap.size = gN at HX ⊢
   refine nm 9 ?_
   refine pu 3 12 ?_
   refine on 4 13 fun K hK => ?_
   have x0 := (blk_cell HX.out 4).trans rfl
   refine event_step rfl (w1 := w3) (v := .string ⟨#[80, 85, 83, 72]⟩) (by go_simp; rfl) ?_
   refine hK.out _ _ hHeld (fun hH => ?_)
   clear hK K hH x0
   refine nm 13 ?_
   refine pu 5 14 ?_
   refine pu 6 2 ?_
   refine pu 7 3 ?_
   refine done_ (by kernel_rfl) ?_
   go_wp2
   go_ret2
   exact ⟨by first | rfl | (simp; rfl), HB.out.trans (hHeld.mono HB.out.size)⟩
  ·clear HC
   go_wp2
   clear z0 z1
   refine sT 8 [] (S := fun W' => Below w1.heap.size w1 W') (below_drew1 (Below.refl _ _)) fun hHeld => ?_
   generalize w1.drew = w2 at hHeld ⊢
   refine pu 1 10 ?_
   refine ta 2 11 hHeld (hy := by intro w' hs; obtain ⟨z0, z1⟩ := cz2 (blk_below HK.out hs); go_simp; with_reducible rfl) ?_
   refine on 0 9 fun K hK => ?_
   refine gO Tryd.func19 #[] ?_
   refine (refnames_calls _).mono ?_
   rintro e w3 ⟨rfl, hx, hb⟩
   refine ⟨_, rfl, ?_⟩
   have HX := Aside0.mk hx
   have HB3 := Aside0.mk (below_step hHeld hb : Below w1.heap.size w1 w3)
   clear hx hb
   refine hK.out _ _ HB3.out (fun hH => ?_)
   clear hK K hHeld hH
   have hHeld := HB3.out
   generalize w2.heap.size = gN at HX ⊢
   refine nm 9 ?_
   refine pu 3 12 ?_
   refine on 4 13 fun K hK => ?_
   have x0 := (blk_cell HX.out 5).trans rfl
   refine event_step rfl (w1 := w3) (v := .string ⟨#[87, 49]⟩) (by go_simp; rfl) ?_
   refine hK.out _ _ hHeld (fun hH => ?_)
   clear hK K hH x0
   refine nm 13 ?_
   refine pu 5 14 ?_
   refine pu 6 2 ?_
   refine pu 7 3 ?_
   refine done_ (by kernel_rfl) ?_
   go_wp2
   go_ret2
   exact ⟨by first | rfl | (simp; rfl), HB.out.trans (hHeld.mono HB.out.size)⟩
  ·clear HC
   go_wp2
   clear z0 z1
   refine sT 8 [] (S := fun W' => Below w1.heap.size w1 W') (below_drew1 (Below.refl _ _)) fun hHeld => ?_
   generalize w1.drew = w2 at hHeld ⊢
   refine pu 1 10 ?_
   refine ta 2 11 hHeld (hy := by intro w' hs; obtain ⟨z0, z1⟩ := cz2 (blk_below HK.out hs); go_simp; with_reducible rfl) ?_
   refine on 0 9 fun K hK => ?_
   refine gO Tryd.func19 #[] ?_
   refine (refnames_calls _).mono ?_
   rintro e w3 ⟨rfl, hx, hb⟩
   refine ⟨_, rfl, ?_⟩
   have HX := Aside0.mk hx
   have HB3 := Aside0.mk (below_step hHeld hb : Below w1.heap.size w1 w3)
   clear hx hb
   refine hK.out _ _ HB3.out (fun hH => ?_)
   clear hK K hHeld hH
   have hHeld := HB3.out
   generalize w2.heap.size = gN at HX ⊢
   refine nm 9 ?_
   refine pu 3 12 ?_
   refine on 4 13 fun K hK => ?_
   have x0 := (blk_cell HX.out 6).trans rfl
   refine event_step rfl (w1 := w3) (v := .string ⟨#[87, 50]⟩) (by go_simp; rfl) ?_
   refine hK.out _ _ hHeld (fun hH => ?_)
   clear hK K hH x0
   refine nm 13 ?_
   refine pu 5 14 ?_
   refine pu 6 2 ?_
   refine pu 7 3 ?_
   refine done_ (by kernel_rfl) ?_
   go_wp2
   go_ret2
   exact ⟨by first | rfl | (simp; rfl), HB.out.trans (hHeld.mono HB.out.size)⟩
  ·clear HC
   go_wp2
   clear z0 z1
   refine sT 8 [] (S := fun W' => Below w1.heap.size w1 W') (below_drew1 (Below.refl _ _)) fun hHeld => ?_
   generalize w1.drew = w2 at hHeld ⊢
   refine pu 1 10 ?_
   refine ta 2 11 hHeld (hy := by intro w' hs; obtain ⟨z0, z1⟩ := cz2 (blk_below HK.out hs); go_simp; with_reducible rfl) ?_
   refine on 0 9 fun K hK => ?_
   refine gO Tryd.func19 #[] ?_
   refine (refnames_calls _).mono ?_
   rintro e w3 ⟨rfl, hx, hb⟩
   refine ⟨_, rfl, ?_⟩
   have HX := Aside0.mk hx
   have HB3 := Aside0.mk (below_step hHeld hb : Below w1.heap.size w1 w3)
   clear hx hb
   refine hK.out _ _ HB3.out (fun hH => ?_)
   clear hK K hHeld hH
   have hHeld := HB3.out
   generalize w2.heap.size = gN at HX ⊢
   refine nm 9 ?_
   refine pu 3 12 ?_
   refine on 4 13 fun K hK => ?_
   have x0 := (blk_cell HX.out 7).trans rfl
   refine event_step rfl (w1 := w3) (v := .string ⟨#[87, 51]⟩) (by go_simp; rfl) ?_
   refine hK.out _ _ hHeld (fun hH => ?_)
   clear hK K hH x0
   refine nm 13 ?_
   refine pu 5 14 ?_
   refine pu 6 2 ?_
   refine pu 7 3 ?_
   refine done_ (by kernel_rfl) ?_
   go_wp2
   go_ret2
   exact ⟨by first | rfl | (simp; rfl), HB.out.trans (hHeld.mono HB.out.size)⟩
  ·clear HC
   go_wp2
   clear z0 z1
   refine sT 8 [] (S := fun W' => Below w1.heap.size w1 W') (below_drew1 (Below.refl _ _)) fun hHeld => ?_
   generalize w1.drew = w2 at hHeld ⊢
   refine pu 1 10 ?_
   refine ta 2 11 hHeld (hy := by intro w' hs; obtain ⟨z0, z1⟩ := cz2 (blk_below HK.out hs); go_simp; with_reducible rfl) ?_
   refine on 0 9 fun K hK => ?_
   refine gO Tryd.func19 #[] ?_
   refine (refnames_calls _).mono ?_
   rintro e w3 ⟨rfl, hx, hb⟩
   refine ⟨_, rfl, ?_⟩
   have HX := Aside0.mk hx
   have HB3 := Aside0.mk (below_step hHeld hb : Below w1.heap.size w1 w3)
   clear hx hb
   refine hK.out _ _ HB3.out (fun hH => ?_)
   clear hK K hHeld hH
   have hHeld := HB3.out
   generalize w2.heap.size = gN at HX ⊢
   refine nm 9 ?_
   refine pu 3 12 ?_
   refine on 4 13 fun K hK => ?_
   have x0 := (blk_cell HX.out 8).trans rfl
   refine event_step rfl (w1 := w3) (v := .string ⟨#[87, 52]⟩) (by go_simp; rfl) ?_
   refine hK.out _ _ hHeld (fun hH => ?_)
   clear hK K hH x0
   refine nm 13 ?_
   refine pu 5 14 ?_
   refine pu 6 2 ?_
   refine pu 7 3 ?_
   refine done_ (by kernel_rfl) ?_
   go_wp2
   go_ret2
   exact ⟨by first | rfl | (simp; rfl), HB.out.trans (hHeld.mono HB.out.size)⟩
  ·clear HC
   go_wp2
   clear z0 z1
   refine sT 8 [] (S := fun W' => Below w1.heap.size w1 W') (below_drew1 (Below.refl _ _)) fun hHeld => ?_
   generalize w1.drew = w2 at hHeld ⊢
   refine pu 1 10 ?_
   refine ta 2 11 hHeld (hy := by intro w' hs; obtain ⟨z0, z1⟩ := cz2 (blk_below HK.out hs); go_simp; with_reducible rfl) ?_
   refine on 0 9 fun K hK => ?_
   refine gO Tryd.func19 #[] ?_
   refine (refnames_calls _).mono ?_
   rintro e w3 ⟨rfl, hx, hb⟩
   refine ⟨_, rfl, ?_⟩
   have HX := Aside0.mk hx
   have HB3 := Aside0.mk (below_step hHeld hb : Below w1.heap.size w1 w3)
   clear hx hb
   refine hK.out _ _ HB3.out (fun hH => ?_)
   clear hK K hHeld hH
   have hHeld := HB3.out
   generalize w2.heap.size = gN at HX ⊢
   refine nm 9 ?_
   refine pu 3 12 ?_
   refine on 4 13 fun K hK => ?_
   have x0 := (blk_cell HX.out 9).trans rfl
   refine event_step rfl (w1 := w3) (v := .string ⟨#[87, 53]⟩) (by go_simp; rfl) ?_
   refine hK.out _ _ hHeld (fun hH => ?_)
   clear hK K hH x0
   refine nm 13 ?_
   refine pu 5 14 ?_
   refine pu 6 2 ?_
   refine pu 7 3 ?_
   refine done_ (by kernel_rfl) ?_
   go_wp2
   go_ret2
   exact ⟨by first | rfl | (simp; rfl), HB.out.trans (hHeld.mono HB.out.size)⟩
  ·clear HC
   go_wp2
   clear z0 z1
   refine sT 8 [] (S := fun W' => Below w1.heap.size w1 W') (below_drew1 (Below.refl _ _)) fun hHeld => ?_
   generalize w1.drew = w2 at hHeld ⊢
   refine pu 1 10 ?_
   refine ta 2 11 hHeld (hy := by intro w' hs; obtain ⟨z0, z1⟩ := cz2 (blk_below HK.out hs); go_simp; with_reducible rfl) ?_
   refine on 0 9 fun K hK => ?_
   refine gO Tryd.func19 #[] ?_
   refine (refnames_calls _).mono ?_
   rintro e w3 ⟨rfl, hx, hb⟩
   refine ⟨_, rfl, ?_⟩
   have HX := Aside0.mk hx
   have HB3 := Aside0.mk (below_step hHeld hb : Below w1.heap.size w1 w3)
   clear hx hb
   refine hK.out _ _ HB3.out (fun hH => ?_)
   clear hK K hHeld hH
   have hHeld := HB3.out
   generalize w2.heap.size = gN at HX ⊢
   refine nm 9 ?_
   refine pu 3 12 ?_
   refine on 4 13 fun K hK => ?_
   have x0 := (blk_cell HX.out 10).trans rfl
   refine event_step rfl (w1 := w3) (v := .string ⟨#[87, 54]⟩) (by go_simp; rfl) ?_
   refine hK.out _ _ hHeld (fun hH => ?_)
   clear hK K hH x0
   refine nm 13 ?_
   refine pu 5 14 ?_
   refine pu 6 2 ?_
   refine pu 7 3 ?_
   refine done_ (by kernel_rfl) ?_
   go_wp2
   go_ret2
   exact ⟨by first | rfl | (simp; rfl), HB.out.trans (hHeld.mono HB.out.size)⟩
  ·clear HC
   go_wp2
   clear z0 z1
   refine sT 8 [] (S := fun W' => Below w1.heap.size w1 W') (below_drew1 (Below.refl _ _)) fun hHeld => ?_
   generalize w1.drew = w2 at hHeld ⊢
   refine pu 1 10 ?_
   refine ta 2 11 hHeld (hy := by intro w' hs; obtain ⟨z0, z1⟩ := cz2 (blk_below HK.out hs); go_simp; with_reducible rfl) ?_
   refine on 0 9 fun K hK => ?_
   refine gO Tryd.func19 #[] ?_
   refine (refnames_calls _).mono ?_
   rintro e w3 ⟨rfl, hx, hb⟩
   refine ⟨_, rfl, ?_⟩
   have HX := Aside0.mk hx
   have HB3 := Aside0.mk (below_step hHeld hb : Below w1.heap.size w1 w3)
   clear hx hb
   refine hK.out _ _ HB3.out (fun hH => ?_)
   clear hK K hHeld hH
   have hHeld := HB3.out
   generalize w2.heap.size = gN at HX ⊢
   refine nm 9 ?_
   refine pu 3 12 ?_
   refine on 4 13 fun K hK => ?_
   have x0 := (blk_cell HX.out 11).trans rfl
   refine event_step rfl (w1 := w3) (v := .string ⟨#[87, 55]⟩) (by go_simp; rfl) ?_
   refine hK.out _ _ hHeld (fun hH => ?_)
   clear hK K hH x0
   refine nm 13 ?_
   refine pu 5 14 ?_
   refine pu 6 2 ?_
   refine pu 7 3 ?_
   refine done_ (by kernel_rfl) ?_
   go_wp2
   go_ret2
   exact ⟨by first | rfl | (simp; rfl), HB.out.trans (hHeld.mono HB.out.size)⟩
  ·clear HC
   go_wp2
   clear z0 z1
   refine sT 8 [] (S := fun W' => Below w1.heap.size w1 W') (below_drew1 (Below.refl _ _)) fun hHeld => ?_
   generalize w1.drew = w2 at hHeld ⊢
   refine pu 1 10 ?_
   refine ta 2 11 hHeld (hy := by intro w' hs; obtain ⟨z0, z1⟩ := cz2 (blk_below HK.out hs); go_simp; with_reducible rfl) ?_
   refine on 0 9 fun K hK => ?_
   refine gO Tryd.func19 #[] ?_
   refine (refnames_calls _).mono ?_
   rintro e w3 ⟨rfl, hx, hb⟩
   refine ⟨_, rfl, ?_⟩
   have HX := Aside0.mk hx
   have HB3 := Aside0.mk (below_step hHeld hb : Below w1.heap.size w1 w3)
   clear hx hb
   refine hK.out _ _ HB3.out (fun hH => ?_)
   clear hK K hHeld hH
   have hHeld := HB3.out
   generalize w2.heap.size = gN at HX ⊢
   refine nm 9 ?_
   refine pu 3 12 ?_
   refine on 4 13 fun K hK => ?_
   have x0 := (blk_cell HX.out 12).trans rfl
   refine event_step rfl (w1 := w3) (v := .string ⟨#[82, 79, 79, 84]⟩) (by go_simp; rfl) ?_
   refine hK.out _ _ hHeld (fun hH => ?_)
   clear hK K hH x0
   refine nm 13 ?_
   refine pu 5 14 ?_
   refine pu 6 2 ?_
   refine pu 7 3 ?_
   refine done_ (by kernel_rfl) ?_
   go_wp2
   go_ret2
   exact ⟨by first | rfl | (simp; rfl), HB.out.trans (hHeld.mono HB.out.size)⟩
end Go.Proofs.YtgleaefhflamnaaDoor.U
namespace Go.Proofs.YtgleaefhflamnaaDoor.U
open Go.RowKit Go.Proofs.YtgleaefhflamnaaDoorW.PrintWords Go.Proofs.YtgleaefhflamnaaDoorW.PrintLast Go.Proofs.YtgleaefhflamnaaDoorW.PrintMore
attribute [local go_sem] max2_int min2_int max_two min_two max_three min_three max_four min_four
set_option linter.unusedVariables false
set_option linter.unusedSimpArgs false
def larchref18_All.l0 : Nat → List (S23) → Int → Option ((List (S23)))
 | 0, _, _ => none
 | k + 1, x1, x2 => if x2 ≤ 12 then (if x1.length < 8796093022208 then ((some (x1 ++ [(⟨x2, false⟩ : S23)] : List (S23))).bind fun y102 => ((larchref18_IsMove.f x2 true).bind fun t105 => (if t105 = true then (if y102.length < 8796093022208 then (larchref18_All.l0 k (y102 ++ [(⟨x2, true⟩ : S23)]) (wrap64 (x2 + 1))) else (none)) else (larchref18_All.l0 k y102 (wrap64 (x2 + 1)))))) else (none)) else (some x1)
def larchref18_All.f (k : Nat)  : Option ((List (S23))) := larchref18_All.l0 k ([] : List (S23)) 1
set_option maxHeartbeats 8000000 in
set_option maxRecDepth 100000 in
theorem larchref18_All.calls (k : Nat)  (r : List (S23)) (w : World) (h : larchref18_All.f k  = some r) :
  Calls Tryd.prog 14 #[] w fun e w' => ∃ v0_ : Value, e = .returned (v0_) ∧ Kd.R k23 23 w' w.heap.size (fun _ => True) v0_ r ∧ Below w.heap.size w w' := by
 have hu23 := Tryd.underlying23
 have HB := Aside0.mk (Below.refl w.heap.size w)
 have H : (larchref18_All.l0 k ([] : List (S23)) 1) = some r := h
 clear h
 have H' := Aside0.mk H
 clear H
 go_enter Tryd.func14, Tryd.ntmps14
 go_wp2
 go_loopg [1, 2] k (fun kq v1 v2 w' => ∃ (x1_1 : List (S23)) (x2_1 : Int), v2 = .int .i64 x2_1 ∧ Aside0 (larchref18_All.l0 kq x1_1 x2_1 = some r) ∧ Aside0 (kq ≤ k) ∧ Aside0 (Kd.R k23 23 w' w.heap.size (fun _ => True) v1 x1_1) ∧ Aside0 (Below w.heap.size w w'))
 case atStart => exact ⟨(([] : List (S23))), (1), (by first | rfl | (simp; done) | (simp [*]; done)), H', ⟨Nat.le_refl _⟩, ⟨by first | exact Kd.R_nil _ _ _ _ _ | exact Kd.N_nil _ _ _ _ _ | exact Kd.V_nil _ _ _ _ _ | exact Kd.Q_nil _ _ _ _ _ | exact Kd.S_nil _ _ _ _ _⟩, ⟨by repeat (first | (with_reducible first | exact HB.out | apply below_alloc | apply pw_below_drewN | apply below_drew1) | exact HB.out)⟩⟩
 case round =>
  clear H'
  obtain ⟨x1_1, x2_1, rfl, HA, HK1, HO_1, HB⟩ := hrel
  cases gk with
  | zero => exact absurd HA.out (by simp [larchref18_All.l0])
  | succ k1 =>
   have H := HA.out
   clear HA
   simp only [larchref18_All.l0] at H
   by_cases c1 : x2_1 ≤ 12
   ·rw [if_pos c1] at H
    have c1b0 : decide (x2_1 ≤ 12) = true := decide_eq_true c1
    clear c1
    by_cases c2 : x1_1.length < 8796093022208
    ·rw [if_pos c2] at H
     have LMc2 := Aside0.mk c2
     clear c2
     obtain ⟨y102, hy102⟩ : ∃ y_ : List (S23), y_ = (x1_1 ++ [(⟨x2_1, false⟩ : S23)]) := ⟨_, rfl⟩
     replace H : ((larchref18_IsMove.f x2_1 true).bind fun t105 => (if t105 = true then (if y102.length < 8796093022208 then (larchref18_All.l0 k1 (y102 ++ [(⟨x2_1, true⟩ : S23)]) (wrap64 (x2_1 + 1))) else (none)) else (larchref18_All.l0 k1 y102 (wrap64 (x2_1 + 1))))) = some r := by first | (rw [hy102]; with_reducible exact H) | (have H2_ := (Option.bind_some _ _).symm.trans H; rw [hy102]; with_reducible exact H2_) | (have H2_ := (Option.bind_some _ _).symm.trans H; with_reducible exact H2_) | with_reducible exact H | (rw [hy102]; exact H) | exact H
     have Ny102 := Aside0.mk hy102
     clear hy102
     replace H := Option.bind_eq_some_iff.mp H
     obtain ⟨t105, A30, H⟩ := H
     replace H : (if t105 = true then (if y102.length < 8796093022208 then (larchref18_All.l0 k1 (y102 ++ [(⟨x2_1, true⟩ : S23)]) (wrap64 (x2_1 + 1))) else (none)) else (larchref18_All.l0 k1 y102 (wrap64 (x2_1 + 1)))) = some r := H
     have A3 := Aside0.mk A30
     clear A30
     by_cases c4 : t105 = true
     ·subst c4
      have H1 : (if y102.length < 8796093022208 then (larchref18_All.l0 k1 (y102 ++ [(⟨x2_1, true⟩ : S23)]) (wrap64 (x2_1 + 1))) else (none)) = some r := by rw [if_pos rfl] at H; exact H
      clear H
      have H := H1
      clear H1
      by_cases c5 : y102.length < 8796093022208
      ·rw [if_pos c5] at H
       have LMc5 := Aside0.mk c5
       clear c5
       obtain ⟨y106, hy106⟩ : ∃ y_ : List (S23), y_ = (y102 ++ [(⟨x2_1, true⟩ : S23)]) := ⟨_, rfl⟩
       replace H : (larchref18_All.l0 k1 y106 (wrap64 (x2_1 + 1))) = some r := by first | (rw [hy106]; with_reducible exact H) | (have H2_ := (Option.bind_some _ _).symm.trans H; rw [hy106]; with_reducible exact H2_) | (have H2_ := (Option.bind_some _ _).symm.trans H; with_reducible exact H2_) | with_reducible exact H | (rw [hy106]; exact H) | exact H
       have Ny106 := Aside0.mk hy106
       clear hy106
       have H' := Aside0.mk H
       clear H
       go_wp2_with (first | ((with_reducible refine gate_builtin (b := .append) (xs := #[.tmp 7, .tmp 10]) rfl ?_); at_builtin; refine Kd.R_append k23 (w0 := w) w.heap.size rfl (.tmp 7) (.tmp 10) 40 23 (.agg #[(.int .i64 0), (.bool false)]) 16 rfl Tryd.underlying40 info23 rfl (by decide) (by omega) u1 x1_1 (⟨x2_1, false⟩ : S23) [.int .i64 x2_1, .bool false] (fun _ => True) (fun _ => False) rfl rfl ?aP (fun _ hk => hk.elim) ?aF ?aO ?aB ?aS ?aL ?_; (case aP => exact k23_mkM _ _ _ (⟨x2_1, false⟩ : S23)); (case aB => exact (by repeat (first | (with_reducible first | exact HB.out | apply below_alloc | apply pw_below_drewN | apply below_drew1) | exact HB.out))); (case aF => exact (fun _ _ => trivial)); (case aO => exact (by (with_reducible repeat (first | apply Kd.R_alloc | apply Kd.R_drewN | apply Kd.R_drew)); exact HO_1.out)); (case aS => exact (below_size (by repeat (first | (with_reducible first | exact HB.out | apply below_alloc | apply pw_below_drewN | apply below_drew1) | exact HB.out)))); (case aL => have := LMc2.out; omega); intro v103 w6 ho hb hg hat; rw [← Ny102.out] at ho; have n0_ := Aside0.mk (hb); have n1_ := Aside0.mk (ho); clear HB; clear HO_1; have HB := n0_; have HO104 := n1_; clear n0_ n1_; clear ho hb hg hat) | ((with_reducible refine gate_callee (f := 18) rfl ?_); refine goesL_ (some 14) rfl rfl Tryd.func18 (by kernel_rfl) rfl #[.agg #[.int .i64 x2_1, .bool true]] rfl (by (try simp only [List.map_toArray, List.map_cons, List.map_nil]); first | done | rfl | (simp only [List.length_drop, List.length_take]; rfl)) ?_; (with_reducible refine (larchref18_IsMove.calls x2_1 true true _ A3.out).mono ?_); rintro e w7 ⟨rfl, hb⟩; refine ⟨_, rfl, ?_⟩; have n0_ := Aside0.mk (Kd.R_below (by (with_reducible repeat (first | apply Kd.R_alloc | apply Kd.R_drewN | apply Kd.R_drew)); exact HO104.out) hb); have n1_ := Aside0.mk (below_step (by repeat (first | (with_reducible first | exact HB.out | apply below_alloc | apply pw_below_drewN | apply below_drew1) | exact HB.out)) hb); clear HO104; clear HB; have HO104 := n0_; have HB := n1_; clear n0_ n1_; (try clear hb); (try clear hb2); (try clear hk); (try clear hi)) | ((with_reducible refine gate_builtin (b := .append) (xs := #[.tmp 15, .tmp 18]) rfl ?_); at_builtin; refine Kd.R_append k23 (w0 := w) w.heap.size rfl (.tmp 15) (.tmp 18) 40 23 (.agg #[(.int .i64 0), (.bool false)]) 16 rfl Tryd.underlying40 info23 rfl (by decide) (by omega) v103 y102 (⟨x2_1, true⟩ : S23) [.int .i64 x2_1, .bool true] (fun _ => True) (fun _ => False) rfl rfl ?aP (fun _ hk => hk.elim) ?aF ?aO ?aB ?aS ?aL ?_; (case aP => exact k23_mkM _ _ _ (⟨x2_1, true⟩ : S23)); (case aB => exact (by repeat (first | (with_reducible first | exact HB.out | apply below_alloc | apply pw_below_drewN | apply below_drew1) | exact HB.out))); (case aF => exact (fun _ _ => trivial)); (case aO => exact (by (with_reducible repeat (first | apply Kd.R_alloc | apply Kd.R_drewN | apply Kd.R_drew)); exact HO104.out)); (case aS => exact (below_size (by repeat (first | (with_reducible first | exact HB.out | apply below_alloc | apply pw_below_drewN | apply below_drew1) | exact HB.out)))); (case aL => have := LMc5.out; omega); intro v107 w8 ho hb hg hat; rw [← Ny106.out] at ho; have n0_ := Aside0.mk (hb); have n1_ := Aside0.mk (ho); clear HB; clear HO104; have HB := n0_; have HO108 := n1_; clear n0_ n1_; clear ho hb hg hat))
       go_roundg k1
       case measure => have := HK1.out; omega
       case rel => exact ⟨(y106), (wrap64 (x2_1 + 1)), (by first | rfl | (simp; done) | (simp [*]; done)), H', ⟨by have := HK1.out; omega⟩, ⟨by (with_reducible repeat (first | apply Kd.R_alloc | apply Kd.R_drewN | apply Kd.R_drew)); exact HO108.out⟩, ⟨by repeat (first | (with_reducible first | exact HB.out | apply below_alloc | apply pw_below_drewN | apply below_drew1) | exact HB.out)⟩⟩
      ·rw [if_neg c5] at H
       exact absurd H (by simp)
     ·replace c4 := Bool.eq_false_iff.mpr c4
      subst c4
      have H1 : (larchref18_All.l0 k1 y102 (wrap64 (x2_1 + 1))) = some r := by rw [if_neg (show ¬ (false = true) by decide)] at H; exact H
      clear H
      have H := H1
      clear H1
      have H' := Aside0.mk H
      clear H
      go_wp2_with (first | ((with_reducible refine gate_builtin (b := .append) (xs := #[.tmp 7, .tmp 10]) rfl ?_); at_builtin; refine Kd.R_append k23 (w0 := w) w.heap.size rfl (.tmp 7) (.tmp 10) 40 23 (.agg #[(.int .i64 0), (.bool false)]) 16 rfl Tryd.underlying40 info23 rfl (by decide) (by omega) u1 x1_1 (⟨x2_1, false⟩ : S23) [.int .i64 x2_1, .bool false] (fun _ => True) (fun _ => False) rfl rfl ?aP (fun _ hk => hk.elim) ?aF ?aO ?aB ?aS ?aL ?_; (case aP => exact k23_mkM _ _ _ (⟨x2_1, false⟩ : S23)); (case aB => exact (by repeat (first | (with_reducible first | exact HB.out | apply below_alloc | apply pw_below_drewN | apply below_drew1) | exact HB.out))); (case aF => exact (fun _ _ => trivial)); (case aO => exact (by (with_reducible repeat (first | apply Kd.R_alloc | apply Kd.R_drewN | apply Kd.R_drew)); exact HO_1.out)); (case aS => exact (below_size (by repeat (first | (with_reducible first | exact HB.out | apply below_alloc | apply pw_below_drewN | apply below_drew1) | exact HB.out)))); (case aL => have := LMc2.out; omega); intro v103 w9 ho hb hg hat; rw [← Ny102.out] at ho; have n0_ := Aside0.mk (hb); have n1_ := Aside0.mk (ho); clear HB; clear HO_1; have HB := n0_; have HO104 := n1_; clear n0_ n1_; clear ho hb hg hat) | ((with_reducible refine gate_callee (f := 18) rfl ?_); refine goesL_ (some 14) rfl rfl Tryd.func18 (by kernel_rfl) rfl #[.agg #[.int .i64 x2_1, .bool true]] rfl (by (try simp only [List.map_toArray, List.map_cons, List.map_nil]); first | done | rfl | (simp only [List.length_drop, List.length_take]; rfl)) ?_; (with_reducible refine (larchref18_IsMove.calls x2_1 true false _ A3.out).mono ?_); rintro e w10 ⟨rfl, hb⟩; refine ⟨_, rfl, ?_⟩; have n0_ := Aside0.mk (Kd.R_below (by (with_reducible repeat (first | apply Kd.R_alloc | apply Kd.R_drewN | apply Kd.R_drew)); exact HO104.out) hb); have n1_ := Aside0.mk (below_step (by repeat (first | (with_reducible first | exact HB.out | apply below_alloc | apply pw_below_drewN | apply below_drew1) | exact HB.out)) hb); clear HO104; clear HB; have HO104 := n0_; have HB := n1_; clear n0_ n1_; (try clear hb); (try clear hb2); (try clear hk); (try clear hi)))
      go_roundg k1
      case measure => have := HK1.out; omega
      case rel => exact ⟨(y102), (wrap64 (x2_1 + 1)), (by first | rfl | (simp; done) | (simp [*]; done)), H', ⟨by have := HK1.out; omega⟩, ⟨by (with_reducible repeat (first | apply Kd.R_alloc | apply Kd.R_drewN | apply Kd.R_drew)); exact HO104.out⟩, ⟨by repeat (first | (with_reducible first | exact HB.out | apply below_alloc | apply pw_below_drewN | apply below_drew1) | exact HB.out)⟩⟩
    ·rw [if_neg c2] at H
     exact absurd H (by simp)
   ·rw [if_neg c1] at H
    have c1b0 : decide (x2_1 ≤ 12) = false := decide_eq_false c1
    clear c1
    obtain rfl := Option.some.inj H
    go_wp2
    go_ret
    exact ⟨_, by first | rfl | (simp [errW_none, errW_some] <;> rfl) | (simp [*, errW_none, errW_some] <;> rfl), by (with_reducible repeat (first | apply Kd.R_alloc | apply Kd.R_drewN | apply Kd.R_drew)); exact HO_1.out, by repeat (first | (with_reducible first | exact HB.out | apply below_alloc | apply pw_below_drewN | apply below_drew1) | exact HB.out)⟩
def larchref18_Of.l0 : Nat → ByteArray → List (S23) → Int → Option (Int × Bool × Int)
 | 0, _, _, _ => none
 | k + 1, x0, x4, x5 => if x5 < (x4.length : Int) then (if 0 ≤ x5 then ((larchref18_Name.f ((rd_T23 x4 x5).f0) ((rd_T23 x4 x5).f1)).bind fun bt114 => (if bt114.1.toList = x0.toList then (some ((rd_T23 x4 x5).f0, (rd_T23 x4 x5).f1, 0)) else (larchref18_Of.l0 k x0 x4 (wrap64 (x5 + 1))))) else (none)) else (some (0, false, 7))
def larchref18_Of.f (k : Nat) (a0 : ByteArray) : Option (Int × Bool × Int) := (larchref18_All.f k).bind fun t110 => (larchref18_Of.l0 k a0 t110 0)
set_option maxHeartbeats 8000000 in
set_option maxRecDepth 100000 in
theorem larchref18_Of.calls (k : Nat) (a0 : ByteArray) (r1 : Int) (r2 : Bool) (r3 : Int) (w : World) (h : larchref18_Of.f k a0 = some (r1, r2, r3)) :
  Calls Tryd.prog 6 #[.string a0] w fun e w' => e = .returned (.tuple #[.agg #[.int .i64 r1, .bool r2], .int .i64 r3]) ∧ Below w.heap.size w w' := by
 have hu23 := Tryd.underlying23
 have HB := Aside0.mk (Below.refl w.heap.size w)
 have H : ((larchref18_All.f k).bind fun t110 => (larchref18_Of.l0 k a0 t110 0)) = some (r1, r2, r3) := h
 clear h
 replace H := Option.bind_eq_some_iff.mp H
 obtain ⟨t110, A20, H⟩ := H
 replace H : (larchref18_Of.l0 k a0 t110 0) = some (r1, r2, r3) := H
 have A2 := Aside0.mk A20
 clear A20
 have H' := Aside0.mk H
 clear H
 go_enter Tryd.func6, Tryd.ntmps6
 go_wp2_with (first | ((with_reducible refine gate_dst (N := 2) rfl ?_); refine box_event ?hg (N := 2) ?hd (cs := #[.int .i64 0, .bool false]) (t := 23) ?hr ?_; (case hd => rfl); (case hg => rfl); (case hr => first | (go_simp; done) | (go_simp; rfl)); intro gb109 hg w3 hbox hb; have n0_ := Aside0.mk (below_step (by repeat (first | (with_reducible first | exact HB.out | apply below_alloc | apply pw_below_drewN | apply below_drew1) | exact HB.out)) hb); have n1_ := Aside0.mk (hbox); have n2_ := Aside0.mk ((by rw [hg]; exact (below_size (by repeat (first | (with_reducible first | exact HB.out | apply below_alloc | apply pw_below_drewN | apply below_drew1) | exact HB.out))) : w.heap.size ≤ gb109)); have n3_ := Aside0.mk ((by rw [hg]; exact (below_size (by repeat (first | (with_reducible first | exact HB.out | apply below_alloc | apply pw_below_drewN | apply below_drew1) | exact HB.out))) : w.heap.size ≤ gb109)); clear HB; have HB := n0_; have BK109 := n1_; have GW109 := n2_; have GE109 := n3_; clear n0_ n1_ n2_ n3_; clear hb hbox hg) | ((with_reducible refine gate_callee (f := 14) rfl ?_); refine goesL_ (some 8) rfl rfl Tryd.func14 (by kernel_rfl) rfl #[] rfl (by (try simp only [List.map_toArray, List.map_cons, List.map_nil]); first | done | rfl | (simp only [List.length_drop, List.length_take]; rfl)) ?_; (with_reducible refine (larchref18_All.calls k  t110 _ A2.out).mono ?_); rintro e w4 ⟨v111, rfl, ho0, hb⟩; refine ⟨_, rfl, ?_⟩; have n0_ := Aside0.mk (Kd.R_lower (Kd.R_newB ho0 (g := gb109) (o := .cells #[.int .i64 0, .bool false] 23 (0, 0)) (by (with_reducible repeat (first | refine blk_drewN ?_ _ | refine blk_drew ?_ | refine blk_alloc ?_ _)); exact BK109.out)) (below_size (by repeat (first | (with_reducible first | exact HB.out | apply below_alloc | apply pw_below_drewN | apply below_drew1 | refine below_set ?_ GE109.out) | exact HB.out)))); have n1_ := Aside0.mk (blk_below (g := gb109) (o := .cells #[.int .i64 0, .bool false] 23 (0, 0)) (by (with_reducible repeat (first | refine blk_drewN ?_ _ | refine blk_drew ?_ | refine blk_alloc ?_ _)); exact BK109.out) hb); have n2_ := Aside0.mk (below_step (by repeat (first | (with_reducible first | exact HB.out | apply below_alloc | apply pw_below_drewN | apply below_drew1 | refine below_set ?_ GE109.out) | exact HB.out)) hb); clear BK109; clear HB; have HO112 := n0_; have BK109 := n1_; have HB := n2_; clear n0_ n1_ n2_; (try clear hb); (try clear hb2); (try clear hk); (try clear hi); (try clear ho0)))
 go_loopg [5] k (fun kq v5 w' => ∃ (x5_1 : Int) (x110000_1 : Int) (x110001_1 : Bool), v5 = .int .i64 x5_1 ∧ Aside0 (larchref18_Of.l0 kq a0 t110 x5_1 = some (r1, r2, r3)) ∧ Aside0 (kq ≤ k) ∧ Aside0 (Kd.R k23 23 w' w.heap.size (fun k_ => k_ ≠ gb109) v111 t110) ∧ Aside0 (w'.heap[gb109]? = some (.cells #[.int .i64 x110000_1, .bool x110001_1] 23 (0, 0))) ∧ Aside0 (Below w.heap.size w w'))
 case atStart => exact ⟨(0), (0), (false), (by first | rfl | (simp; done) | (simp [*]; done)), H', ⟨Nat.le_refl _⟩, ⟨by (with_reducible repeat (first | apply Kd.R_alloc | apply Kd.R_drewN | apply Kd.R_drew)); exact Kd.R_mono HO112.out (fun _ hk => hk.2)⟩, ⟨by (with_reducible repeat (first | refine blk_drewN ?_ _ | refine blk_drew ?_ | refine blk_alloc ?_ _)); exact BK109.out⟩, ⟨by repeat (first | (with_reducible first | exact HB.out | apply below_alloc | apply pw_below_drewN | apply below_drew1 | refine below_set ?_ GE109.out) | exact HB.out)⟩⟩
 case round =>
  clear H'
  try clear c1
  try clear p2
  obtain ⟨x5_1, x110000_1, x110001_1, rfl, HA, HK1, HO_4, BK109, HB⟩ := hrel
  cases gk with
  | zero => exact absurd HA.out (by simp [larchref18_Of.l0])
  | succ k1 =>
   have H := HA.out
   clear HA
   simp only [larchref18_Of.l0] at H
   by_cases c5 : x5_1 < (t110.length : Int)
   ·rw [if_pos c5] at H
    have c5b0 : decide (x5_1 < (t110.length : Int)) = true := decide_eq_true c5
    clear c5
    by_cases c6 : 0 ≤ x5_1
    ·rw [if_pos c6] at H
     have c6b0 : decide (0 ≤ x5_1) = true := decide_eq_true c6
     clear c6
     replace H := Option.bind_eq_some_iff.mp H
     obtain ⟨⟨t114, t115⟩, A70, H⟩ := H
     replace H : (if t114.toList = a0.toList then (some ((rd_T23 t110 x5_1).f0, (rd_T23 t110 x5_1).f1, 0)) else (larchref18_Of.l0 k1 a0 t110 (wrap64 (x5_1 + 1)))) = some (r1, r2, r3) := H
     have A7 := Aside0.mk A70
     clear A70
     by_cases c8 : t114.toList = a0.toList
     ·rw [if_pos c8] at H
      have c8b0 : (t114.toList == a0.toList) = true := beq_iff_eq.mpr c8
      have c8b1 : (t114.toList != a0.toList) = false := bne_eq_false_iff_eq.mpr c8
      clear c8
      simp only [Option.some.injEq, Prod.mk.injEq] at H
      obtain ⟨rfl, rfl, rfl⟩ := H
      obtain ⟨Ao9, co9, eo9⟩ := Kd.R_slice HO_4.out
      subst eo9
      have p113 : 0 ≤ (x5_1 : Int) := of_decide_eq_true (by first | (with_reducible assumption) | assumption)
      have q113 : x5_1 < (t110.length : Int) := of_decide_eq_true (by first | (with_reducible assumption) | assumption)
      obtain ⟨ad113, e113, hx113_0, hx113_1⟩ := at_T23 (Kd.R_reads' HO_4.out).2.2 x5_1 p113 q113
      cases e113
      replace p113 := eq_true p113
      replace q113 := eq_true q113
      go_wp2_with (first | ((with_reducible refine gate_callee (f := 5) rfl ?_); refine goesL_ (some 20) rfl rfl Tryd.func5 (by kernel_rfl) rfl #[.agg #[.int .i64 ((rd_T23 t110 x5_1).f0), .bool ((rd_T23 t110 x5_1).f1)]] rfl (by (try simp only [List.map_toArray, List.map_cons, List.map_nil]); first | done | rfl | (simp only [List.length_drop, List.length_take]; rfl)) ?_; (with_reducible refine (larchref18_Name.calls ((rd_T23 t110 x5_1).f0) ((rd_T23 t110 x5_1).f1) t114 t115 _ A7.out).mono ?_); rintro e w10 ⟨rfl, hb⟩; refine ⟨_, rfl, ?_⟩; have n0_ := Aside0.mk (Kd.R_below (by (with_reducible repeat (first | apply Kd.R_alloc | apply Kd.R_drewN | apply Kd.R_drew)); exact HO_4.out) hb); have n1_ := Aside0.mk (blk_below (g := gb109) (o := .cells #[.int .i64 x110000_1, .bool x110001_1] 23 (0, 0)) (by (with_reducible repeat (first | refine blk_drewN ?_ _ | refine blk_drew ?_ | refine blk_alloc ?_ _)); exact BK109.out) hb); have n2_ := Aside0.mk (below_step (by repeat (first | (with_reducible first | exact HB.out | apply below_alloc | apply pw_below_drewN | apply below_drew1 | refine below_set ?_ GE109.out) | exact HB.out)) hb); clear HO_4; clear BK109; clear HB; have HO_4 := n0_; have BK109 := n1_; have HB := n2_; clear n0_ n1_ n2_; (try clear hb); (try clear hb2); (try clear hk); (try clear hi); have p116 : 0 ≤ (x5_1 : Int) := of_decide_eq_true (by first | (with_reducible assumption) | assumption); have q116 : x5_1 < (t110.length : Int) := of_decide_eq_true (by first | (with_reducible assumption) | assumption); obtain ⟨ad116, e116, hx116_0, hx116_1⟩ := at_T23 (Kd.R_reads' HO_4.out).2.2 x5_1 p116 q116; obtain rfl : ad113 = ad116 := (by injection e116); replace p116 := eq_true p116; replace q116 := eq_true q116; have hcz11_0 : w10.cell? ⟨gb109, 0, none⟩ = some (.int .i64 x110000_1) := (blk_cell BK109.out 0).trans rfl; have hcz11_1 : w10.cell? ⟨gb109, 1, none⟩ = some (.bool x110001_1) := (blk_cell BK109.out 1).trans rfl; have hfz11_0 := blk_frozen BK109.out 0; have hfz11_1 := blk_frozen BK109.out 1))
      refine bodyPost_ret (results_ct rfl _ _ gb109 23 #[.int .i64 ((rd_T23 t110 x5_1).f0), .bool ((rd_T23 t110 x5_1).f1)] (0, 0) _ rfl (by (with_reducible repeat (first | refine blk_drewN ?_ _ | refine blk_drew ?_ | refine blk_alloc ?_ _)); refine blk_put (cs := #[.int .i64 ((rd_T23 t110 x5_1).f0), .bool x110001_1]) ?_ 1 _ rfl; (with_reducible repeat (first | refine blk_drewN ?_ _ | refine blk_drew ?_ | refine blk_alloc ?_ _)); refine blk_put (cs := #[.int .i64 x110000_1, .bool x110001_1]) ?_ 0 _ rfl; (with_reducible repeat (first | refine blk_drewN ?_ _ | refine blk_drew ?_ | refine blk_alloc ?_ _)); exact BK109.out) Tryd.underlying23 rfl (by kernel_rfl)) rfl ?_
      exact ⟨by first | rfl | (simp [errW_none, errW_some] <;> rfl) | (simp [*, errW_none, errW_some] <;> rfl), by repeat (first | (with_reducible first | exact HB.out | apply below_alloc | apply pw_below_drewN | apply below_drew1 | refine below_set ?_ GE109.out) | exact HB.out)⟩
     ·rw [if_neg c8] at H
      have c8b0 : (t114.toList == a0.toList) = false := beq_eq_false_iff_ne.mpr c8
      have c8b1 : (t114.toList != a0.toList) = true := bne_iff_ne.mpr c8
      have H' := Aside0.mk H
      clear H
      obtain ⟨Ao12, co12, eo12⟩ := Kd.R_slice HO_4.out
      subst eo12
      have p113 : 0 ≤ (x5_1 : Int) := of_decide_eq_true (by first | (with_reducible assumption) | assumption)
      have q113 : x5_1 < (t110.length : Int) := of_decide_eq_true (by first | (with_reducible assumption) | assumption)
      obtain ⟨ad113, e113, hx113_0, hx113_1⟩ := at_T23 (Kd.R_reads' HO_4.out).2.2 x5_1 p113 q113
      cases e113
      replace p113 := eq_true p113
      replace q113 := eq_true q113
      go_wp2_with (first | ((with_reducible refine gate_callee (f := 5) rfl ?_); refine goesL_ (some 20) rfl rfl Tryd.func5 (by kernel_rfl) rfl #[.agg #[.int .i64 ((rd_T23 t110 x5_1).f0), .bool ((rd_T23 t110 x5_1).f1)]] rfl (by (try simp only [List.map_toArray, List.map_cons, List.map_nil]); first | done | rfl | (simp only [List.length_drop, List.length_take]; rfl)) ?_; (with_reducible refine (larchref18_Name.calls ((rd_T23 t110 x5_1).f0) ((rd_T23 t110 x5_1).f1) t114 t115 _ A7.out).mono ?_); rintro e w13 ⟨rfl, hb⟩; refine ⟨_, rfl, ?_⟩; have n0_ := Aside0.mk (Kd.R_below (by (with_reducible repeat (first | apply Kd.R_alloc | apply Kd.R_drewN | apply Kd.R_drew)); exact HO_4.out) hb); have n1_ := Aside0.mk (blk_below (g := gb109) (o := .cells #[.int .i64 x110000_1, .bool x110001_1] 23 (0, 0)) (by (with_reducible repeat (first | refine blk_drewN ?_ _ | refine blk_drew ?_ | refine blk_alloc ?_ _)); exact BK109.out) hb); have n2_ := Aside0.mk (below_step (by repeat (first | (with_reducible first | exact HB.out | apply below_alloc | apply pw_below_drewN | apply below_drew1 | refine below_set ?_ GE109.out) | exact HB.out)) hb); clear HO_4; clear BK109; clear HB; have HO_4 := n0_; have BK109 := n1_; have HB := n2_; clear n0_ n1_ n2_; (try clear hb); (try clear hb2); (try clear hk); (try clear hi)))
      go_roundg k1
      case measure => have := HK1.out; omega
      case rel => exact ⟨(wrap64 (x5_1 + 1)), (x110000_1), (x110001_1), (by first | rfl | (simp; done) | (simp [*]; done)), H', ⟨by have := HK1.out; omega⟩, ⟨by (with_reducible repeat (first | apply Kd.R_alloc | apply Kd.R_drewN | apply Kd.R_drew)); exact HO_4.out⟩, ⟨by (with_reducible repeat (first | refine blk_drewN ?_ _ | refine blk_drew ?_ | refine blk_alloc ?_ _)); exact BK109.out⟩, ⟨by repeat (first | (with_reducible first | exact HB.out | apply below_alloc | apply pw_below_drewN | apply below_drew1 | refine below_set ?_ GE109.out) | exact HB.out)⟩⟩
    ·rw [if_neg c6] at H
     exact absurd H (by simp)
   ·rw [if_neg c5] at H
    have c5b0 : decide (x5_1 < (t110.length : Int)) = false := decide_eq_false c5
    clear c5
    simp only [Option.some.injEq, Prod.mk.injEq] at H
    obtain ⟨rfl, rfl, rfl⟩ := H
    obtain ⟨Ao14, co14, eo14⟩ := Kd.R_slice HO_4.out
    subst eo14
    have hcz15_0 : wr.cell? ⟨gb109, 0, none⟩ = some (.int .i64 x110000_1) := (blk_cell BK109.out 0).trans rfl
    have hcz15_1 : wr.cell? ⟨gb109, 1, none⟩ = some (.bool x110001_1) := (blk_cell BK109.out 1).trans rfl
    have hfz15_0 := blk_frozen BK109.out 0
    have hfz15_1 := blk_frozen BK109.out 1
    go_wp2
    refine bodyPost_ret (results_ct rfl _ _ gb109 23 #[.int .i64 0, .bool false] (0, 0) _ rfl (by (with_reducible repeat (first | refine blk_drewN ?_ _ | refine blk_drew ?_ | refine blk_alloc ?_ _)); refine blk_put (cs := #[.int .i64 0, .bool x110001_1]) ?_ 1 _ rfl; (with_reducible repeat (first | refine blk_drewN ?_ _ | refine blk_drew ?_ | refine blk_alloc ?_ _)); refine blk_put (cs := #[.int .i64 x110000_1, .bool x110001_1]) ?_ 0 _ rfl; (with_reducible repeat (first | refine blk_drewN ?_ _ | refine blk_drew ?_ | refine blk_alloc ?_ _)); exact BK109.out) Tryd.underlying23 rfl (by kernel_rfl)) rfl ?_
    exact ⟨by first | rfl | (simp [errW_none, errW_some] <;> rfl) | (simp [*, errW_none, errW_some] <;> rfl), by repeat (first | (with_reducible first | exact HB.out | apply below_alloc | apply pw_below_drewN | apply below_drew1 | refine below_set ?_ GE109.out) | exact HB.out)⟩
end Go.Proofs.YtgleaefhflamnaaDoor.U
namespace Go.Proofs.YtgleaefhflamnaaDoor.U
open Go.RowKit Go.Proofs.YtgleaefhflamnaaDoorW.PrintWords Go.Proofs.YtgleaefhflamnaaDoorW.PrintLast Go.Proofs.YtgleaefhflamnaaDoorW.PrintMore
attribute [local go_sem] max2_int min2_int max_two min_two max_three min_three max_four min_four
set_option linter.unusedVariables false
set_option linter.unusedSimpArgs false
theorem eqA23 (d : Nat) (w : World) (x0 y0 : Int) (x1 y1 : Bool) :
  (Op.equalIn (d + 2) 23 (.agg #[.int .i64 x0, .bool x1]) (.agg #[.int .i64 y0, .bool y1])).run Tryd.prog w = .ok (x0 == y0 && (x1 == y1)) w := by
 refine eqA_of Tryd.underlying23 (by kernel_rfl) ?_
 refine eqf_cons (by rfl) (by go_simp; rfl) (by go_simp; rfl) (by go_simp) ?_
 exact eqf_last (by rfl) (by go_simp; rfl) (by go_simp; rfl) (by go_simp)
end Go.Proofs.YtgleaefhflamnaaDoor.U
namespace Go.Proofs.YtgleaefhflamnaaDoor.U
open Go.RowKit Go.Proofs.YtgleaefhflamnaaDoorW.PrintWords Go.Proofs.YtgleaefhflamnaaDoorW.PrintLast Go.Proofs.YtgleaefhflamnaaDoorW.PrintMore
attribute [local go_sem] max2_int min2_int max_two min_two max_three min_three max_four min_four
set_option linter.unusedVariables false
set_option linter.unusedSimpArgs false
def steps_alone.f (a0 : Int) : Option (Bool) := if a0 = 1 then (some true) else (if a0 = 11 then (some true) else (some (a0 == 12)))
set_option maxHeartbeats 8000000 in
set_option maxRecDepth 100000 in
theorem steps_alone.calls (a0 : Int) (r : Bool) (w : World) (h : steps_alone.f a0 = some r) :
  Calls Tryd.prog 22 #[.int .i64 a0] w fun e w' => e = .returned (.bool r) ∧ Drawn0 w w' := by
 have H : (if a0 = 1 then (some true) else (if a0 = 11 then (some true) else (some (a0 == 12)))) = some r := h
 clear h
 by_cases c2 : a0 = 1
 ·rw [if_pos c2] at H
  have c2b0 : (a0 == 1) = true := beq_iff_eq.mpr c2
  have c2b1 : (a0 != 1) = false := bne_eq_false_iff_eq.mpr c2
  clear c2
  obtain rfl := Option.some.inj H
  go_enter Tryd.func22, Tryd.ntmps22
  go_wp2
  go_ret
  exact ⟨by first | rfl | (simp; done) | (simp [*]; done), by repeat (first | exact Drawn0.refl _ | apply Drawn0.step)⟩
 ·rw [if_neg c2] at H
  have c2b0 : (a0 == 1) = false := beq_eq_false_iff_ne.mpr c2
  have c2b1 : (a0 != 1) = true := bne_iff_ne.mpr c2
  by_cases c3 : a0 = 11
  ·rw [if_pos c3] at H
   have c3b0 : (a0 == 11) = true := beq_iff_eq.mpr c3
   have c3b1 : (a0 != 11) = false := bne_eq_false_iff_eq.mpr c3
   clear c3
   obtain rfl := Option.some.inj H
   go_enter Tryd.func22, Tryd.ntmps22
   go_wp2
   go_ret
   exact ⟨by first | rfl | (simp; done) | (simp [*]; done), by repeat (first | exact Drawn0.refl _ | apply Drawn0.step)⟩
  ·rw [if_neg c3] at H
   have c3b0 : (a0 == 11) = false := beq_eq_false_iff_ne.mpr c3
   have c3b1 : (a0 != 11) = true := bne_iff_ne.mpr c3
   obtain rfl := Option.some.inj H
   go_enter Tryd.func22, Tryd.ntmps22
   go_wp2
   go_ret
   exact ⟨by first | rfl | (simp; done) | (simp [*]; done), by repeat (first | exact Drawn0.refl _ | apply Drawn0.step)⟩
end Go.Proofs.YtgleaefhflamnaaDoor.U
namespace Go.Proofs.YtgleaefhflamnaaDoor.U
open Go.RowKit Go.Proofs.YtgleaefhflamnaaDoorW.PrintWords Go.Proofs.YtgleaefhflamnaaDoorW.PrintLast Go.Proofs.YtgleaefhflamnaaDoorW.PrintMore
attribute [local go_sem] max2_int min2_int max_two min_two max_three min_three max_four min_four
set_option linter.unusedVariables false
set_option linter.unusedSimpArgs false
attribute [local go_sem high] eqA23
def larchlaw18_to.f (a0_0 : Int) (a0_1 : Bool) : Option (Int × Bool) := some (a0_0, a0_1)
set_option maxHeartbeats 8000000 in
set_option maxRecDepth 100000 in
theorem larchlaw18_to.calls (a0_0 : Int) (a0_1 : Bool) (r1 : Int) (r2 : Bool) (w : World) (h : larchlaw18_to.f a0_0 a0_1 = some (r1, r2)) :
  Calls Tryd.prog 8 #[.agg #[.int .i64 a0_0, .bool a0_1]] w fun e w' => e = .returned (.agg #[.int .i64 r1, .bool r2]) ∧ Below w.heap.size w w' := by
 have hu23 := Tryd.underlying23
 have hu32 := Tryd.underlying32
 have HB := Aside0.mk (Below.refl w.heap.size w)
 have H : (some (a0_0, a0_1)) = some (r1, r2) := h
 clear h
 simp only [Option.some.injEq, Prod.mk.injEq] at H
 obtain ⟨rfl, rfl⟩ := H
 go_enter Tryd.func8, Tryd.ntmps8
 go_wp2_with (first | ((with_reducible refine gate_dst (N := 1) rfl ?_); refine box_event ?hg (N := 1) ?hd (cs := #[.int .i64 a0_0, .bool a0_1]) (t := 23) ?hr ?_; (case hd => rfl); (case hg => rfl); (case hr => first | (go_simp; done) | (go_simp; rfl)); intro gb117 hg w2 hbox hb; have n0_ := Aside0.mk (below_step (by repeat (first | (with_reducible first | exact HB.out | apply below_alloc | apply pw_below_drewN | apply below_drew1) | exact HB.out)) hb); have n1_ := Aside0.mk (hbox); have n2_ := Aside0.mk ((by rw [hg]; exact (below_size (by repeat (first | (with_reducible first | exact HB.out | apply below_alloc | apply pw_below_drewN | apply below_drew1) | exact HB.out))) : w.heap.size ≤ gb117)); have n3_ := Aside0.mk ((by rw [hg]; exact (below_size (by repeat (first | (with_reducible first | exact HB.out | apply below_alloc | apply pw_below_drewN | apply below_drew1) | exact HB.out))) : w.heap.size ≤ gb117)); clear HB; have HB := n0_; have BK117 := n1_; have GW117 := n2_; have GE117 := n3_; clear n0_ n1_ n2_ n3_; clear hb hbox hg) | ((with_reducible refine gate_dst (N := 2) rfl ?_); refine box_event ?hg (N := 2) ?hd (cs := #[.int .i64 0, .bool false]) (t := 32) ?hr ?_; (case hd => rfl); (case hg => rfl); (case hr => first | (go_simp; done) | (go_simp; rfl)); intro gb118 hg w3 hbox hb; have n0_ := Aside0.mk (blk_below (g := gb117) (o := .cells #[.int .i64 a0_0, .bool a0_1] 23 (0, 0)) (by (with_reducible repeat (first | refine blk_drewN ?_ _ | refine blk_drew ?_ | refine blk_alloc ?_ _)); exact BK117.out) hb); have n1_ := Aside0.mk (below_step (by repeat (first | (with_reducible first | exact HB.out | apply below_alloc | apply pw_below_drewN | apply below_drew1 | refine below_set ?_ GE117.out) | exact HB.out)) hb); have n2_ := Aside0.mk (hbox); have n3_ := Aside0.mk ((by rw [hg]; exact (below_size (by repeat (first | (with_reducible first | exact HB.out | apply below_alloc | apply pw_below_drewN | apply below_drew1 | refine below_set ?_ GE117.out) | exact HB.out))) : w.heap.size ≤ gb118)); have n4_ := Aside0.mk ((by rw [hg]; exact (below_size (by repeat (first | (with_reducible first | exact HB.out | apply below_alloc | apply pw_below_drewN | apply below_drew1 | refine below_set ?_ GE117.out) | exact HB.out))) : w.heap.size ≤ gb118)); have n5_ := Aside0.mk ((by rw [hg]; exact Nat.ne_of_lt (blk_lt (g := gb117) (o := .cells #[.int .i64 a0_0, .bool a0_1] 23 (0, 0)) (by (with_reducible repeat (first | refine blk_drewN ?_ _ | refine blk_drew ?_ | refine blk_alloc ?_ _)); exact BK117.out)) : gb117 ≠ gb118)); have n6_ := Aside0.mk ((by rw [hg]; exact Nat.ne_of_gt (blk_lt (g := gb117) (o := .cells #[.int .i64 a0_0, .bool a0_1] 23 (0, 0)) (by (with_reducible repeat (first | refine blk_drewN ?_ _ | refine blk_drew ?_ | refine blk_alloc ?_ _)); exact BK117.out)) : gb118 ≠ gb117)); clear BK117; clear HB; have BK117 := n0_; have HB := n1_; have BK118 := n2_; have GW118 := n3_; have GE118 := n4_; have NB117_118 := n5_; have NB118_117 := n6_; clear n0_ n1_ n2_ n3_ n4_ n5_ n6_; clear hb hbox hg; have hnb4 := NB117_118.out; have hnc4 := NB118_117.out; have hcz5_0 : w3.cell? ⟨gb117, 0, none⟩ = some (.int .i64 a0_0) := (blk_cell BK117.out 0).trans rfl; have hcz5_1 : w3.cell? ⟨gb117, 1, none⟩ = some (.bool a0_1) := (blk_cell BK117.out 1).trans rfl; have hfz5_0 := blk_frozen BK117.out 0; have hfz5_1 := blk_frozen BK117.out 1; have hcz6_0 : w3.cell? ⟨gb118, 0, none⟩ = some (.int .i64 0) := (blk_cell BK118.out 0).trans rfl; have hcz6_1 : w3.cell? ⟨gb118, 1, none⟩ = some (.bool false) := (blk_cell BK118.out 1).trans rfl; have hfz6_0 := blk_frozen BK118.out 0; have hfz6_1 := blk_frozen BK118.out 1))
 refine bodyPost_ret (results_cell_row rfl _ _ gb118 32 #[.int .i64 a0_0, .bool a0_1] (0, 0) _ rfl (by (with_reducible repeat (first | refine blk_drewN ?_ _ | refine blk_drew ?_ | refine blk_alloc ?_ _)); refine blk_put (cs := #[.int .i64 a0_0, .bool false]) ?_ 1 _ rfl; (with_reducible repeat (first | refine blk_drewN ?_ _ | refine blk_drew ?_ | refine blk_alloc ?_ _)); refine blk_put (cs := #[.int .i64 0, .bool false]) ?_ 0 _ rfl; (with_reducible repeat (first | refine blk_drewN ?_ _ | refine blk_drew ?_ | refine blk_alloc ?_ _)); exact BK118.out) Tryd.underlying32 rfl (by kernel_rfl)) rfl ?_
 exact ⟨by first | rfl | (simp [errW_none, errW_some] <;> rfl) | (simp [*, errW_none, errW_some] <;> rfl), by repeat (first | (with_reducible first | exact HB.out | apply below_alloc | apply pw_below_drewN | apply below_drew1 | refine below_set ?_ GE117.out | refine below_set ?_ GE118.out) | exact HB.out)⟩
def larchlaw18_plain.f (a0 : Int) (a1 : Int) : Option (Bool) := some (a0 == a1)
set_option maxHeartbeats 8000000 in
set_option maxRecDepth 100000 in
theorem larchlaw18_plain.calls (a0 : Int) (a1 : Int) (r : Bool) (w : World) (h : larchlaw18_plain.f a0 a1 = some r) :
  Calls Tryd.prog 9 #[.int .i64 a0, .int .i64 a1] w fun e w' => e = .returned (.bool r) ∧ Drawn0 w w' := by
 have H : (some (a0 == a1)) = some r := h
 clear h
 obtain rfl := Option.some.inj H
 go_enter Tryd.func9, Tryd.ntmps9
 go_wp2
 go_ret
 exact ⟨by first | rfl | (simp; done) | (simp [*]; done), by repeat (first | exact Drawn0.refl _ | apply Drawn0.step)⟩
def steps_All.l0 : Nat → List (S32) → Int → Option ((List (S32)))
 | 0, _, _ => none
 | k + 1, x1, x2 => if x2 ≤ 12 then (if x1.length < 8796093022208 then ((some (x1 ++ [(⟨x2, false⟩ : S32)] : List (S32))).bind fun y119 => ((steps_alone.f x2).bind fun t122 => (if t122 = true then (steps_All.l0 k y119 (wrap64 (x2 + 1))) else (if y119.length < 8796093022208 then (steps_All.l0 k (y119 ++ [(⟨x2, true⟩ : S32)]) (wrap64 (x2 + 1))) else (none))))) else (none)) else (some x1)
def steps_All.f (k : Nat)  : Option ((List (S32))) := steps_All.l0 k ([] : List (S32)) 1
set_option maxHeartbeats 8000000 in
set_option maxRecDepth 100000 in
theorem steps_All.calls (k : Nat)  (r : List (S32)) (w : World) (h : steps_All.f k  = some r) :
  Calls Tryd.prog 11 #[] w fun e w' => ∃ v0_ : Value, e = .returned (v0_) ∧ Kd.R k32 32 w' w.heap.size (fun _ => True) v0_ r ∧ Below w.heap.size w w' := by
 have hu32 := Tryd.underlying32
 have HB := Aside0.mk (Below.refl w.heap.size w)
 have H : (steps_All.l0 k ([] : List (S32)) 1) = some r := h
 clear h
 have H' := Aside0.mk H
 clear H
 go_enter Tryd.func11, Tryd.ntmps11
 go_wp2
 go_loopg [1, 2] k (fun kq v1 v2 w' => ∃ (x1_1 : List (S32)) (x2_1 : Int), v2 = .int .i64 x2_1 ∧ Aside0 (steps_All.l0 kq x1_1 x2_1 = some r) ∧ Aside0 (kq ≤ k) ∧ Aside0 (Kd.R k32 32 w' w.heap.size (fun _ => True) v1 x1_1) ∧ Aside0 (Below w.heap.size w w'))
 case atStart => exact ⟨(([] : List (S32))), (1), (by first | rfl | (simp; done) | (simp [*]; done)), H', ⟨Nat.le_refl _⟩, ⟨by first | exact Kd.R_nil _ _ _ _ _ | exact Kd.N_nil _ _ _ _ _ | exact Kd.V_nil _ _ _ _ _ | exact Kd.Q_nil _ _ _ _ _ | exact Kd.S_nil _ _ _ _ _⟩, ⟨by repeat (first | (with_reducible first | exact HB.out | apply below_alloc | apply pw_below_drewN | apply below_drew1) | exact HB.out)⟩⟩
 case round =>
  clear H'
  obtain ⟨x1_1, x2_1, rfl, HA, HK1, HO_1, HB⟩ := hrel
  cases gk with
  | zero => exact absurd HA.out (by simp [steps_All.l0])
  | succ k1 =>
   have H := HA.out
   clear HA
   simp only [steps_All.l0] at H
   by_cases c1 : x2_1 ≤ 12
   ·rw [if_pos c1] at H
    have c1b0 : decide (x2_1 ≤ 12) = true := decide_eq_true c1
    clear c1
    by_cases c2 : x1_1.length < 8796093022208
    ·rw [if_pos c2] at H
     have LMc2 := Aside0.mk c2
     clear c2
     obtain ⟨y119, hy119⟩ : ∃ y_ : List (S32), y_ = (x1_1 ++ [(⟨x2_1, false⟩ : S32)]) := ⟨_, rfl⟩
     replace H : ((steps_alone.f x2_1).bind fun t122 => (if t122 = true then (steps_All.l0 k1 y119 (wrap64 (x2_1 + 1))) else (if y119.length < 8796093022208 then (steps_All.l0 k1 (y119 ++ [(⟨x2_1, true⟩ : S32)]) (wrap64 (x2_1 + 1))) else (none)))) = some r := by first | (rw [hy119]; with_reducible exact H) | (have H2_ := (Option.bind_some _ _).symm.trans H; rw [hy119]; with_reducible exact H2_) | (have H2_ := (Option.bind_some _ _).symm.trans H; with_reducible exact H2_) | with_reducible exact H | (rw [hy119]; exact H) | exact H
     have Ny119 := Aside0.mk hy119
     clear hy119
     replace H := Option.bind_eq_some_iff.mp H
     obtain ⟨t122, A30, H⟩ := H
     replace H : (if t122 = true then (steps_All.l0 k1 y119 (wrap64 (x2_1 + 1))) else (if y119.length < 8796093022208 then (steps_All.l0 k1 (y119 ++ [(⟨x2_1, true⟩ : S32)]) (wrap64 (x2_1 + 1))) else (none))) = some r := H
     have A3 := Aside0.mk A30
     clear A30
     by_cases c4 : t122 = true
     ·subst c4
      have H1 : (steps_All.l0 k1 y119 (wrap64 (x2_1 + 1))) = some r := by rw [if_pos rfl] at H; exact H
      clear H
      have H := H1
      clear H1
      have H' := Aside0.mk H
      clear H
      go_wp2_with (first | ((with_reducible refine gate_builtin (b := .append) (xs := #[.tmp 7, .tmp 10]) rfl ?_); at_builtin; refine Kd.R_append k32 (w0 := w) w.heap.size rfl (.tmp 7) (.tmp 10) 37 32 (.agg #[(.int .i64 0), (.bool false)]) 16 rfl Tryd.underlying37 info32 rfl (by decide) (by omega) u1 x1_1 (⟨x2_1, false⟩ : S32) [.int .i64 x2_1, .bool false] (fun _ => True) (fun _ => False) rfl rfl ?aP (fun _ hk => hk.elim) ?aF ?aO ?aB ?aS ?aL ?_; (case aP => exact k32_mkM _ _ _ (⟨x2_1, false⟩ : S32)); (case aB => exact (by repeat (first | (with_reducible first | exact HB.out | apply below_alloc | apply pw_below_drewN | apply below_drew1) | exact HB.out))); (case aF => exact (fun _ _ => trivial)); (case aO => exact (by (with_reducible repeat (first | apply Kd.R_alloc | apply Kd.R_drewN | apply Kd.R_drew)); exact HO_1.out)); (case aS => exact (below_size (by repeat (first | (with_reducible first | exact HB.out | apply below_alloc | apply pw_below_drewN | apply below_drew1) | exact HB.out)))); (case aL => have := LMc2.out; omega); intro v120 w5 ho hb hg hat; rw [← Ny119.out] at ho; have n0_ := Aside0.mk (hb); have n1_ := Aside0.mk (ho); clear HB; clear HO_1; have HB := n0_; have HO121 := n1_; clear n0_ n1_; clear ho hb hg hat) | ((with_reducible refine gate_callee (f := 22) rfl ?_); refine goesL_ (some 13) rfl rfl Tryd.func22 (by kernel_rfl) rfl #[.int .i64 x2_1] rfl (by (try simp only [List.map_toArray, List.map_cons, List.map_nil]); first | done | rfl | (simp only [List.length_drop, List.length_take]; rfl)) ?_; (with_reducible refine (steps_alone.calls x2_1 true _ A3.out).mono ?_); rintro e w' ⟨rfl, ⟨nd, rfl⟩⟩; refine ⟨_, rfl, ?_⟩))
      go_roundg k1
      case measure => have := HK1.out; omega
      case rel => exact ⟨(y119), (wrap64 (x2_1 + 1)), (by first | rfl | (simp; done) | (simp [*]; done)), H', ⟨by have := HK1.out; omega⟩, ⟨by (with_reducible repeat (first | apply Kd.R_alloc | apply Kd.R_drewN | apply Kd.R_drew)); exact HO121.out⟩, ⟨by repeat (first | (with_reducible first | exact HB.out | apply below_alloc | apply pw_below_drewN | apply below_drew1) | exact HB.out)⟩⟩
     ·replace c4 := Bool.eq_false_iff.mpr c4
      subst c4
      have H1 : (if y119.length < 8796093022208 then (steps_All.l0 k1 (y119 ++ [(⟨x2_1, true⟩ : S32)]) (wrap64 (x2_1 + 1))) else (none)) = some r := by rw [if_neg (show ¬ (false = true) by decide)] at H; exact H
      clear H
      have H := H1
      clear H1
      by_cases c6 : y119.length < 8796093022208
      ·rw [if_pos c6] at H
       have LMc6 := Aside0.mk c6
       clear c6
       obtain ⟨y123, hy123⟩ : ∃ y_ : List (S32), y_ = (y119 ++ [(⟨x2_1, true⟩ : S32)]) := ⟨_, rfl⟩
       replace H : (steps_All.l0 k1 y123 (wrap64 (x2_1 + 1))) = some r := by first | (rw [hy123]; with_reducible exact H) | (have H2_ := (Option.bind_some _ _).symm.trans H; rw [hy123]; with_reducible exact H2_) | (have H2_ := (Option.bind_some _ _).symm.trans H; with_reducible exact H2_) | with_reducible exact H | (rw [hy123]; exact H) | exact H
       have Ny123 := Aside0.mk hy123
       clear hy123
       have H' := Aside0.mk H
       clear H
       go_wp2_with (first | ((with_reducible refine gate_builtin (b := .append) (xs := #[.tmp 7, .tmp 10]) rfl ?_); at_builtin; refine Kd.R_append k32 (w0 := w) w.heap.size rfl (.tmp 7) (.tmp 10) 37 32 (.agg #[(.int .i64 0), (.bool false)]) 16 rfl Tryd.underlying37 info32 rfl (by decide) (by omega) u1 x1_1 (⟨x2_1, false⟩ : S32) [.int .i64 x2_1, .bool false] (fun _ => True) (fun _ => False) rfl rfl ?aP (fun _ hk => hk.elim) ?aF ?aO ?aB ?aS ?aL ?_; (case aP => exact k32_mkM _ _ _ (⟨x2_1, false⟩ : S32)); (case aB => exact (by repeat (first | (with_reducible first | exact HB.out | apply below_alloc | apply pw_below_drewN | apply below_drew1) | exact HB.out))); (case aF => exact (fun _ _ => trivial)); (case aO => exact (by (with_reducible repeat (first | apply Kd.R_alloc | apply Kd.R_drewN | apply Kd.R_drew)); exact HO_1.out)); (case aS => exact (below_size (by repeat (first | (with_reducible first | exact HB.out | apply below_alloc | apply pw_below_drewN | apply below_drew1) | exact HB.out)))); (case aL => have := LMc2.out; omega); intro v120 w7 ho hb hg hat; rw [← Ny119.out] at ho; have n0_ := Aside0.mk (hb); have n1_ := Aside0.mk (ho); clear HB; clear HO_1; have HB := n0_; have HO121 := n1_; clear n0_ n1_; clear ho hb hg hat) | ((with_reducible refine gate_callee (f := 22) rfl ?_); refine goesL_ (some 13) rfl rfl Tryd.func22 (by kernel_rfl) rfl #[.int .i64 x2_1] rfl (by (try simp only [List.map_toArray, List.map_cons, List.map_nil]); first | done | rfl | (simp only [List.length_drop, List.length_take]; rfl)) ?_; (with_reducible refine (steps_alone.calls x2_1 false _ A3.out).mono ?_); rintro e w' ⟨rfl, ⟨nd, rfl⟩⟩; refine ⟨_, rfl, ?_⟩) | ((with_reducible refine gate_builtin (b := .append) (xs := #[.tmp 15, .tmp 18]) rfl ?_); at_builtin; refine Kd.R_append k32 (w0 := w) w.heap.size rfl (.tmp 15) (.tmp 18) 37 32 (.agg #[(.int .i64 0), (.bool false)]) 16 rfl Tryd.underlying37 info32 rfl (by decide) (by omega) v120 y119 (⟨x2_1, true⟩ : S32) [.int .i64 x2_1, .bool true] (fun _ => True) (fun _ => False) rfl rfl ?aP (fun _ hk => hk.elim) ?aF ?aO ?aB ?aS ?aL ?_; (case aP => exact k32_mkM _ _ _ (⟨x2_1, true⟩ : S32)); (case aB => exact (by repeat (first | (with_reducible first | exact HB.out | apply below_alloc | apply pw_below_drewN | apply below_drew1) | exact HB.out))); (case aF => exact (fun _ _ => trivial)); (case aO => exact (by (with_reducible repeat (first | apply Kd.R_alloc | apply Kd.R_drewN | apply Kd.R_drew)); exact HO121.out)); (case aS => exact (below_size (by repeat (first | (with_reducible first | exact HB.out | apply below_alloc | apply pw_below_drewN | apply below_drew1) | exact HB.out)))); (case aL => have := LMc6.out; omega); intro v124 w8 ho hb hg hat; rw [← Ny123.out] at ho; have n0_ := Aside0.mk (hb); have n1_ := Aside0.mk (ho); clear HB; clear HO121; have HB := n0_; have HO125 := n1_; clear n0_ n1_; clear ho hb hg hat))
       go_roundg k1
       case measure => have := HK1.out; omega
       case rel => exact ⟨(y123), (wrap64 (x2_1 + 1)), (by first | rfl | (simp; done) | (simp [*]; done)), H', ⟨by have := HK1.out; omega⟩, ⟨by (with_reducible repeat (first | apply Kd.R_alloc | apply Kd.R_drewN | apply Kd.R_drew)); exact HO125.out⟩, ⟨by repeat (first | (with_reducible first | exact HB.out | apply below_alloc | apply pw_below_drewN | apply below_drew1) | exact HB.out)⟩⟩
      ·rw [if_neg c6] at H
       exact absurd H (by simp)
    ·rw [if_neg c2] at H
     exact absurd H (by simp)
   ·rw [if_neg c1] at H
    have c1b0 : decide (x2_1 ≤ 12) = false := decide_eq_false c1
    clear c1
    obtain rfl := Option.some.inj H
    go_wp2
    go_ret
    exact ⟨_, by first | rfl | (simp [errW_none, errW_some] <;> rfl) | (simp [*, errW_none, errW_some] <;> rfl), by (with_reducible repeat (first | apply Kd.R_alloc | apply Kd.R_drewN | apply Kd.R_drew)); exact HO_1.out, by repeat (first | (with_reducible first | exact HB.out | apply below_alloc | apply pw_below_drewN | apply below_drew1) | exact HB.out)⟩
def steps_Of.l0 : Nat → ByteArray → List (S32) → Int → Int → Option (Int × Bool × Int)
 | 0, _, _, _, _ => none
 | k + 1, x0, x8, x9, x10 => if x10 < x9 then (if 0 ≤ x10 then (if x10 < (x8.length : Int) then ((steps_Name.f ((rd_T32 x8 x10).f0) ((rd_T32 x8 x10).f1)).bind fun bt132 => (if bt132.1.toList = x0.toList then (some ((rd_T32 x8 x10).f0, (rd_T32 x8 x10).f1, 0)) else (steps_Of.l0 k x0 x8 x9 (wrap64 (x10 + 1))))) else (none)) else (none)) else (some (0, false, 7))
def steps_Of.f (k : Nat) (a0 : ByteArray) : Option (Int × Bool × Int) := (steps_All.f k).bind fun t127 => (steps_Of.l0 k a0 t127 (t127.length : Int) 0)
set_option maxHeartbeats 8000000 in
set_option maxRecDepth 100000 in
theorem steps_Of.calls (k : Nat) (a0 : ByteArray) (r1 : Int) (r2 : Bool) (r3 : Int) (w : World) (h : steps_Of.f k a0 = some (r1, r2, r3)) (TAB0 : Tab w := by exact Tab.below TAB.out (by repeat (first | (with_reducible first | exact HB.out | apply below_alloc | apply pw_below_drewN | apply below_drew1 | refine T.bst ?_ (by assumption)) | exact HB.out))) :
  Calls Tryd.prog 10 #[.string a0] w fun e w' => e = .returned (.tuple #[.agg #[.int .i64 r1, .bool r2], .int .i64 r3]) ∧ Below w.heap.size w w' := by
 have TAB := Aside0.mk TAB0
 clear TAB0
 have hu32 := Tryd.underlying32
 have HB := Aside0.mk (Below.refl w.heap.size w)
 have H : ((steps_All.f k).bind fun t127 => (steps_Of.l0 k a0 t127 (t127.length : Int) 0)) = some (r1, r2, r3) := h
 clear h
 replace H := Option.bind_eq_some_iff.mp H
 obtain ⟨t127, A20, H⟩ := H
 replace H : (steps_Of.l0 k a0 t127 (t127.length : Int) 0) = some (r1, r2, r3) := H
 have A2 := Aside0.mk A20
 clear A20
 have H' := Aside0.mk H
 clear H
 go_enter Tryd.func10, Tryd.ntmps10
 go_wp2_with (first | ((with_reducible refine gate_dst (N := 2) rfl ?_); refine box_event ?hg (N := 2) ?hd (cs := #[.int .i64 0, .bool false]) (t := 32) ?hr ?_; (case hd => rfl); (case hg => rfl); (case hr => first | (go_simp; done) | (go_simp; rfl)); intro gb126 hg w3 hbox hb; have n0_ := Aside0.mk (below_step (by repeat (first | (with_reducible first | exact HB.out | apply below_alloc | apply pw_below_drewN | apply below_drew1) | exact HB.out)) hb); have n1_ := Aside0.mk (hbox); have n2_ := Aside0.mk ((by rw [hg]; exact (below_size (by repeat (first | (with_reducible first | exact HB.out | apply below_alloc | apply pw_below_drewN | apply below_drew1) | exact HB.out))) : w.heap.size ≤ gb126)); have n3_ := Aside0.mk ((by rw [hg]; exact (below_size (by repeat (first | (with_reducible first | exact HB.out | apply below_alloc | apply pw_below_drewN | apply below_drew1) | exact HB.out))) : w.heap.size ≤ gb126)); clear HB; have HB := n0_; have BK126 := n1_; have GW126 := n2_; have GE126 := n3_; clear n0_ n1_ n2_ n3_; clear hb hbox hg) | ((with_reducible refine gate_callee (f := 11) rfl ?_); refine goesL_ (some 8) rfl rfl Tryd.func11 (by kernel_rfl) rfl #[] rfl (by (try simp only [List.map_toArray, List.map_cons, List.map_nil]); first | done | rfl | (simp only [List.length_drop, List.length_take]; rfl)) ?_; (with_reducible refine (steps_All.calls k  t127 _ A2.out).mono ?_); rintro e w4 ⟨v128, rfl, ho0, hb⟩; refine ⟨_, rfl, ?_⟩; have n0_ := Aside0.mk (Kd.R_lower (Kd.R_newB ho0 (g := gb126) (o := .cells #[.int .i64 0, .bool false] 32 (0, 0)) (by (with_reducible repeat (first | refine blk_drewN ?_ _ | refine blk_drew ?_ | refine blk_alloc ?_ _)); exact BK126.out)) (below_size (by repeat (first | (with_reducible first | exact HB.out | apply below_alloc | apply pw_below_drewN | apply below_drew1 | refine below_set ?_ GE126.out) | exact HB.out)))); have n1_ := Aside0.mk (blk_below (g := gb126) (o := .cells #[.int .i64 0, .bool false] 32 (0, 0)) (by (with_reducible repeat (first | refine blk_drewN ?_ _ | refine blk_drew ?_ | refine blk_alloc ?_ _)); exact BK126.out) hb); have n2_ := Aside0.mk (below_step (by repeat (first | (with_reducible first | exact HB.out | apply below_alloc | apply pw_below_drewN | apply below_drew1 | refine below_set ?_ GE126.out) | exact HB.out)) hb); clear BK126; clear HB; have HO129 := n0_; have BK126 := n1_; have HB := n2_; clear n0_ n1_ n2_; (try clear hb); (try clear hb2); (try clear hk); (try clear hi); (try clear ho0); obtain ⟨Ao5, co5, eo5⟩ := Kd.R_slice HO129.out; subst eo5))
 go_loopg [10] k (fun kq v10 w' => ∃ (x10_1 : Int) (x127000_1 : Int) (x127001_1 : Bool), v10 = .int .i64 x10_1 ∧ Aside0 (steps_Of.l0 kq a0 t127 (t127.length : Int) x10_1 = some (r1, r2, r3)) ∧ Aside0 (kq ≤ k) ∧ Aside0 (Kd.R k32 32 w' w.heap.size (fun k_ => k_ ≠ gb126) (.slice Ao5 t127.length co5) t127) ∧ Aside0 (w'.heap[gb126]? = some (.cells #[.int .i64 x127000_1, .bool x127001_1] 32 (0, 0))) ∧ Aside0 (Below w.heap.size w w'))
 case atStart => exact ⟨(0), (0), (false), (by first | rfl | (simp; done) | (simp [*]; done)), H', ⟨Nat.le_refl _⟩, ⟨by (with_reducible repeat (first | apply Kd.R_alloc | apply Kd.R_drewN | apply Kd.R_drew)); exact Kd.R_mono HO129.out (fun _ hk => hk.2)⟩, ⟨by (with_reducible repeat (first | refine blk_drewN ?_ _ | refine blk_drew ?_ | refine blk_alloc ?_ _)); exact BK126.out⟩, ⟨by repeat (first | (with_reducible first | exact HB.out | apply below_alloc | apply pw_below_drewN | apply below_drew1 | refine below_set ?_ GE126.out) | exact HB.out)⟩⟩
 case round =>
  clear H'
  try clear c1
  try clear p2
  obtain ⟨x10_1, x127000_1, x127001_1, rfl, HA, HK1, HO_8, BK126, HB⟩ := hrel
  cases gk with
  | zero => exact absurd HA.out (by simp [steps_Of.l0])
  | succ k1 =>
   have H := HA.out
   clear HA
   simp only [steps_Of.l0] at H
   by_cases c6 : x10_1 < (t127.length : Int)
   ·rw [if_pos c6] at H
    have c6b0 : decide (x10_1 < (t127.length : Int)) = true := decide_eq_true c6
    clear c6
    by_cases c7 : 0 ≤ x10_1
    ·rw [if_pos c7] at H
     have c7b0 : decide (0 ≤ x10_1) = true := decide_eq_true c7
     clear c7
     by_cases c8 : x10_1 < (t127.length : Int)
     ·rw [if_pos c8] at H
      have c8b0 : decide (x10_1 < (t127.length : Int)) = true := decide_eq_true c8
      clear c8
      replace H := Option.bind_eq_some_iff.mp H
      obtain ⟨⟨t132, t133⟩, A90, H⟩ := H
      replace H : (if t132.toList = a0.toList then (some ((rd_T32 t127 x10_1).f0, (rd_T32 t127 x10_1).f1, 0)) else (steps_Of.l0 k1 a0 t127 (t127.length : Int) (wrap64 (x10_1 + 1)))) = some (r1, r2, r3) := H
      have A9 := Aside0.mk A90
      clear A90
      by_cases c10 : t132.toList = a0.toList
      ·rw [if_pos c10] at H
       have c10b0 : (t132.toList == a0.toList) = true := beq_iff_eq.mpr c10
       have c10b1 : (t132.toList != a0.toList) = false := bne_eq_false_iff_eq.mpr c10
       clear c10
       simp only [Option.some.injEq, Prod.mk.injEq] at H
       obtain ⟨rfl, rfl, rfl⟩ := H
       have p130 : 0 ≤ (x10_1 : Int) := of_decide_eq_true (by first | (with_reducible assumption) | assumption)
       have q130 : x10_1 < (t127.length : Int) := of_decide_eq_true (by first | (with_reducible assumption) | assumption)
       obtain ⟨ad130, e130, hx130_0, hx130_1⟩ := at_T32 (Kd.R_reads' HO_8.out).2.2 x10_1 p130 q130
       cases e130
       replace p130 := eq_true p130
       replace q130 := eq_true q130
       go_wp2_with (first | ((with_reducible refine gate_dst (N := 5) rfl ?_); refine box_event ?hg (N := 5) ?hd (cs := #[.int .i64 0, .bool false]) (t := 32) ?hr ?_; (case hd => rfl); (case hg => rfl); (case hr => first | (go_simp; done) | (go_simp; rfl)); intro gb131 hg w11 hbox hb; have n0_ := Aside0.mk (Kd.R_below (Kd.R_elderB (by (with_reducible repeat (first | apply Kd.R_alloc | apply Kd.R_drewN | apply Kd.R_drew)); exact HO_8.out) gb131 (Nat.le_of_eq hg.symm)) hb); have n1_ := Aside0.mk (blk_below (g := gb126) (o := .cells #[.int .i64 x127000_1, .bool x127001_1] 32 (0, 0)) (by (with_reducible repeat (first | refine blk_drewN ?_ _ | refine blk_drew ?_ | refine blk_alloc ?_ _)); exact BK126.out) hb); have n2_ := Aside0.mk (below_step (by repeat (first | (with_reducible first | exact HB.out | apply below_alloc | apply pw_below_drewN | apply below_drew1 | refine below_set ?_ GE126.out) | exact HB.out)) hb); have n3_ := Aside0.mk (hbox); have n4_ := Aside0.mk ((by rw [hg]; exact (below_size (by repeat (first | (with_reducible first | exact HB.out | apply below_alloc | apply pw_below_drewN | apply below_drew1 | refine below_set ?_ GE126.out) | exact HB.out))) : w.heap.size ≤ gb131)); have n5_ := Aside0.mk ((by rw [hg]; exact (below_size (by repeat (first | (with_reducible first | exact HB.out | apply below_alloc | apply pw_below_drewN | apply below_drew1 | refine below_set ?_ GE126.out) | exact HB.out))) : w.heap.size ≤ gb131)); have n6_ := Aside0.mk ((by rw [hg]; exact Nat.ne_of_lt (blk_lt (g := gb126) (o := .cells #[.int .i64 x127000_1, .bool x127001_1] 32 (0, 0)) (by (with_reducible repeat (first | refine blk_drewN ?_ _ | refine blk_drew ?_ | refine blk_alloc ?_ _)); exact BK126.out)) : gb126 ≠ gb131)); have n7_ := Aside0.mk ((by rw [hg]; exact Nat.ne_of_gt (blk_lt (g := gb126) (o := .cells #[.int .i64 x127000_1, .bool x127001_1] 32 (0, 0)) (by (with_reducible repeat (first | refine blk_drewN ?_ _ | refine blk_drew ?_ | refine blk_alloc ?_ _)); exact BK126.out)) : gb131 ≠ gb126)); clear HO_8; clear BK126; clear HB; have HO_8 := n0_; have BK126 := n1_; have HB := n2_; have BK131 := n3_; have GW131 := n4_; have GE131 := n5_; have NB126_131 := n6_; have NB131_126 := n7_; clear n0_ n1_ n2_ n3_ n4_ n5_ n6_ n7_; clear hb hbox hg; have hnb12 := NB131_126.out; have hnc12 := NB126_131.out; have hcz13_0 : w11.cell? ⟨gb131, 0, none⟩ = some (.int .i64 0) := (blk_cell BK131.out 0).trans rfl; have hcz13_1 : w11.cell? ⟨gb131, 1, none⟩ = some (.bool false) := (blk_cell BK131.out 1).trans rfl; have hfz13_0 := blk_frozen BK131.out 0; have hfz13_1 := blk_frozen BK131.out 1) | ((with_reducible refine gate_callee (f := 7) rfl ?_); refine goesL_ (some 16) rfl rfl Tryd.func7 (by kernel_rfl) rfl #[.agg #[.int .i64 ((rd_T32 t127 x10_1).f0), .bool ((rd_T32 t127 x10_1).f1)]] rfl (by (try simp only [List.map_toArray, List.map_cons, List.map_nil]); first | done | rfl | (simp only [List.length_drop, List.length_take]; rfl)) ?_; (with_reducible refine (steps_Name.calls ((rd_T32 t127 x10_1).f0) ((rd_T32 t127 x10_1).f1) t132 t133 _ A9.out).mono ?_); rintro e w14 ⟨rfl, hb⟩; refine ⟨_, rfl, ?_⟩; have n0_ := Aside0.mk (Kd.R_below (by (with_reducible repeat (first | apply Kd.R_alloc | apply Kd.R_drewN | apply Kd.R_drew)); exact (Kd.R_mono (Kd.R_far (p := ⟨gb131, 1, none⟩) (Kd.R_far (p := ⟨gb131, 0, none⟩) (Kd.R_mono HO_8.out (fun k_ hk => (⟨hk, hk.2⟩ : _ ∧ k_ ≠ gb131))) (fun _ hk => hk.2) (.int .i64 ((rd_T32 t127 x10_1).f0))) (fun _ hk => hk.2) (.bool ((rd_T32 t127 x10_1).f1))) (fun _ h_ => h_.1))) hb); have n1_ := Aside0.mk (blk_below (g := gb126) (o := .cells #[.int .i64 x127000_1, .bool x127001_1] 32 (0, 0)) (by (with_reducible repeat (first | refine blk_drewN ?_ _ | refine blk_drew ?_ | refine blk_alloc ?_ _)); refine blk_far ?_ NB126_131.out _; (with_reducible repeat (first | refine blk_drewN ?_ _ | refine blk_drew ?_ | refine blk_alloc ?_ _)); refine blk_far ?_ NB126_131.out _; (with_reducible repeat (first | refine blk_drewN ?_ _ | refine blk_drew ?_ | refine blk_alloc ?_ _)); exact BK126.out) hb); have n2_ := Aside0.mk (blk_below (g := gb131) (o := .cells #[.int .i64 ((rd_T32 t127 x10_1).f0), .bool ((rd_T32 t127 x10_1).f1)] 32 (0, 0)) (by (with_reducible repeat (first | refine blk_drewN ?_ _ | refine blk_drew ?_ | refine blk_alloc ?_ _)); refine blk_put (cs := #[.int .i64 ((rd_T32 t127 x10_1).f0), .bool false]) ?_ 1 _ rfl; (with_reducible repeat (first | refine blk_drewN ?_ _ | refine blk_drew ?_ | refine blk_alloc ?_ _)); refine blk_put (cs := #[.int .i64 0, .bool false]) ?_ 0 _ rfl; (with_reducible repeat (first | refine blk_drewN ?_ _ | refine blk_drew ?_ | refine blk_alloc ?_ _)); exact BK131.out) hb); have n3_ := Aside0.mk (below_step (by repeat (first | (with_reducible first | exact HB.out | apply below_alloc | apply pw_below_drewN | apply below_drew1 | refine below_set ?_ GE126.out | refine below_set ?_ GE131.out) | exact HB.out)) hb); clear HO_8; clear BK126; clear BK131; clear HB; have HO_8 := n0_; have BK126 := n1_; have BK131 := n2_; have HB := n3_; clear n0_ n1_ n2_ n3_; (try clear hb); (try clear hb2); (try clear hk); (try clear hi); have hcz15_0 : w14.cell? ⟨gb131, 0, none⟩ = some (.int .i64 ((rd_T32 t127 x10_1).f0)) := (blk_cell BK131.out 0).trans rfl; have hcz15_1 : w14.cell? ⟨gb131, 1, none⟩ = some (.bool ((rd_T32 t127 x10_1).f1)) := (blk_cell BK131.out 1).trans rfl; have hfz15_0 := blk_frozen BK131.out 0; have hfz15_1 := blk_frozen BK131.out 1; have hcz16_0 : w14.cell? ⟨gb126, 0, none⟩ = some (.int .i64 x127000_1) := (blk_cell BK126.out 0).trans rfl; have hcz16_1 : w14.cell? ⟨gb126, 1, none⟩ = some (.bool x127001_1) := (blk_cell BK126.out 1).trans rfl; have hfz16_0 := blk_frozen BK126.out 0; have hfz16_1 := blk_frozen BK126.out 1))
       refine bodyPost_ret (results_ct rfl _ _ gb126 32 #[.int .i64 ((rd_T32 t127 x10_1).f0), .bool ((rd_T32 t127 x10_1).f1)] (0, 0) _ rfl (by (with_reducible repeat (first | refine blk_drewN ?_ _ | refine blk_drew ?_ | refine blk_alloc ?_ _)); refine blk_put (cs := #[.int .i64 ((rd_T32 t127 x10_1).f0), .bool x127001_1]) ?_ 1 _ rfl; (with_reducible repeat (first | refine blk_drewN ?_ _ | refine blk_drew ?_ | refine blk_alloc ?_ _)); refine blk_put (cs := #[.int .i64 x127000_1, .bool x127001_1]) ?_ 0 _ rfl; (with_reducible repeat (first | refine blk_drewN ?_ _ | refine blk_drew ?_ | refine blk_alloc ?_ _)); exact BK126.out) Tryd.underlying32 rfl (by kernel_rfl)) rfl ?_
       exact ⟨by first | rfl | (simp [errW_none, errW_some] <;> rfl) | (simp [*, errW_none, errW_some] <;> rfl), by repeat (first | (with_reducible first | exact HB.out | apply below_alloc | apply pw_below_drewN | apply below_drew1 | refine below_set ?_ GE126.out | refine below_set ?_ GE131.out) | exact HB.out)⟩
      ·rw [if_neg c10] at H
       have c10b0 : (t132.toList == a0.toList) = false := beq_eq_false_iff_ne.mpr c10
       have c10b1 : (t132.toList != a0.toList) = true := bne_iff_ne.mpr c10
       have H' := Aside0.mk H
       clear H
       have p130 : 0 ≤ (x10_1 : Int) := of_decide_eq_true (by first | (with_reducible assumption) | assumption)
       have q130 : x10_1 < (t127.length : Int) := of_decide_eq_true (by first | (with_reducible assumption) | assumption)
       obtain ⟨ad130, e130, hx130_0, hx130_1⟩ := at_T32 (Kd.R_reads' HO_8.out).2.2 x10_1 p130 q130
       cases e130
       replace p130 := eq_true p130
       replace q130 := eq_true q130
       go_wp2_with (first | ((with_reducible refine gate_dst (N := 5) rfl ?_); refine box_event ?hg (N := 5) ?hd (cs := #[.int .i64 0, .bool false]) (t := 32) ?hr ?_; (case hd => rfl); (case hg => rfl); (case hr => first | (go_simp; done) | (go_simp; rfl)); intro gb131 hg w17 hbox hb; have n0_ := Aside0.mk (Kd.R_below (Kd.R_elderB (by (with_reducible repeat (first | apply Kd.R_alloc | apply Kd.R_drewN | apply Kd.R_drew)); exact HO_8.out) gb131 (Nat.le_of_eq hg.symm)) hb); have n1_ := Aside0.mk (blk_below (g := gb126) (o := .cells #[.int .i64 x127000_1, .bool x127001_1] 32 (0, 0)) (by (with_reducible repeat (first | refine blk_drewN ?_ _ | refine blk_drew ?_ | refine blk_alloc ?_ _)); exact BK126.out) hb); have n2_ := Aside0.mk (below_step (by repeat (first | (with_reducible first | exact HB.out | apply below_alloc | apply pw_below_drewN | apply below_drew1 | refine below_set ?_ GE126.out) | exact HB.out)) hb); have n3_ := Aside0.mk (hbox); have n4_ := Aside0.mk ((by rw [hg]; exact (below_size (by repeat (first | (with_reducible first | exact HB.out | apply below_alloc | apply pw_below_drewN | apply below_drew1 | refine below_set ?_ GE126.out) | exact HB.out))) : w.heap.size ≤ gb131)); have n5_ := Aside0.mk ((by rw [hg]; exact (below_size (by repeat (first | (with_reducible first | exact HB.out | apply below_alloc | apply pw_below_drewN | apply below_drew1 | refine below_set ?_ GE126.out) | exact HB.out))) : w.heap.size ≤ gb131)); have n6_ := Aside0.mk ((by rw [hg]; exact Nat.ne_of_lt (blk_lt (g := gb126) (o := .cells #[.int .i64 x127000_1, .bool x127001_1] 32 (0, 0)) (by (with_reducible repeat (first | refine blk_drewN ?_ _ | refine blk_drew ?_ | refine blk_alloc ?_ _)); exact BK126.out)) : gb126 ≠ gb131)); have n7_ := Aside0.mk ((by rw [hg]; exact Nat.ne_of_gt (blk_lt (g := gb126) (o := .cells #[.int .i64 x127000_1, .bool x127001_1] 32 (0, 0)) (by (with_reducible repeat (first | refine blk_drewN ?_ _ | refine blk_drew ?_ | refine blk_alloc ?_ _)); exact BK126.out)) : gb131 ≠ gb126)); clear HO_8; clear BK126; clear HB; have HO_8 := n0_; have BK126 := n1_; have HB := n2_; have BK131 := n3_; have GW131 := n4_; have GE131 := n5_; have NB126_131 := n6_; have NB131_126 := n7_; clear n0_ n1_ n2_ n3_ n4_ n5_ n6_ n7_; clear hb hbox hg; have hnb18 := NB131_126.out; have hnc18 := NB126_131.out; have hcz19_0 : w17.cell? ⟨gb131, 0, none⟩ = some (.int .i64 0) := (blk_cell BK131.out 0).trans rfl; have hcz19_1 : w17.cell? ⟨gb131, 1, none⟩ = some (.bool false) := (blk_cell BK131.out 1).trans rfl; have hfz19_0 := blk_frozen BK131.out 0; have hfz19_1 := blk_frozen BK131.out 1) | ((with_reducible refine gate_callee (f := 7) rfl ?_); refine goesL_ (some 16) rfl rfl Tryd.func7 (by kernel_rfl) rfl #[.agg #[.int .i64 ((rd_T32 t127 x10_1).f0), .bool ((rd_T32 t127 x10_1).f1)]] rfl (by (try simp only [List.map_toArray, List.map_cons, List.map_nil]); first | done | rfl | (simp only [List.length_drop, List.length_take]; rfl)) ?_; (with_reducible refine (steps_Name.calls ((rd_T32 t127 x10_1).f0) ((rd_T32 t127 x10_1).f1) t132 t133 _ A9.out).mono ?_); rintro e w20 ⟨rfl, hb⟩; refine ⟨_, rfl, ?_⟩; have n0_ := Aside0.mk (Kd.R_below (by (with_reducible repeat (first | apply Kd.R_alloc | apply Kd.R_drewN | apply Kd.R_drew)); exact (Kd.R_mono (Kd.R_far (p := ⟨gb131, 1, none⟩) (Kd.R_far (p := ⟨gb131, 0, none⟩) (Kd.R_mono HO_8.out (fun k_ hk => (⟨hk, hk.2⟩ : _ ∧ k_ ≠ gb131))) (fun _ hk => hk.2) (.int .i64 ((rd_T32 t127 x10_1).f0))) (fun _ hk => hk.2) (.bool ((rd_T32 t127 x10_1).f1))) (fun _ h_ => h_.1))) hb); have n1_ := Aside0.mk (blk_below (g := gb126) (o := .cells #[.int .i64 x127000_1, .bool x127001_1] 32 (0, 0)) (by (with_reducible repeat (first | refine blk_drewN ?_ _ | refine blk_drew ?_ | refine blk_alloc ?_ _)); refine blk_far ?_ NB126_131.out _; (with_reducible repeat (first | refine blk_drewN ?_ _ | refine blk_drew ?_ | refine blk_alloc ?_ _)); refine blk_far ?_ NB126_131.out _; (with_reducible repeat (first | refine blk_drewN ?_ _ | refine blk_drew ?_ | refine blk_alloc ?_ _)); exact BK126.out) hb); have n2_ := Aside0.mk (blk_below (g := gb131) (o := .cells #[.int .i64 ((rd_T32 t127 x10_1).f0), .bool ((rd_T32 t127 x10_1).f1)] 32 (0, 0)) (by (with_reducible repeat (first | refine blk_drewN ?_ _ | refine blk_drew ?_ | refine blk_alloc ?_ _)); refine blk_put (cs := #[.int .i64 ((rd_T32 t127 x10_1).f0), .bool false]) ?_ 1 _ rfl; (with_reducible repeat (first | refine blk_drewN ?_ _ | refine blk_drew ?_ | refine blk_alloc ?_ _)); refine blk_put (cs := #[.int .i64 0, .bool false]) ?_ 0 _ rfl; (with_reducible repeat (first | refine blk_drewN ?_ _ | refine blk_drew ?_ | refine blk_alloc ?_ _)); exact BK131.out) hb); have n3_ := Aside0.mk (below_step (by repeat (first | (with_reducible first | exact HB.out | apply below_alloc | apply pw_below_drewN | apply below_drew1 | refine below_set ?_ GE126.out | refine below_set ?_ GE131.out) | exact HB.out)) hb); clear HO_8; clear BK126; clear BK131; clear HB; have HO_8 := n0_; have BK126 := n1_; have BK131 := n2_; have HB := n3_; clear n0_ n1_ n2_ n3_; (try clear hb); (try clear hb2); (try clear hk); (try clear hi)))
       go_roundg k1
       case measure => have := HK1.out; omega
       case rel => exact ⟨(wrap64 (x10_1 + 1)), (x127000_1), (x127001_1), (by first | rfl | (simp; done) | (simp [*]; done)), H', ⟨by have := HK1.out; omega⟩, ⟨by (with_reducible repeat (first | apply Kd.R_alloc | apply Kd.R_drewN | apply Kd.R_drew)); exact Kd.R_mono HO_8.out (fun _ hk => hk.1)⟩, ⟨by (with_reducible repeat (first | refine blk_drewN ?_ _ | refine blk_drew ?_ | refine blk_alloc ?_ _)); exact BK126.out⟩, ⟨by repeat (first | (with_reducible first | exact HB.out | apply below_alloc | apply pw_below_drewN | apply below_drew1 | refine below_set ?_ GE126.out | refine below_set ?_ GE131.out) | exact HB.out)⟩⟩
     ·rw [if_neg c8] at H
      exact absurd H (by simp)
    ·rw [if_neg c7] at H
     exact absurd H (by simp)
   ·rw [if_neg c6] at H
    have c6b0 : decide (x10_1 < (t127.length : Int)) = false := decide_eq_false c6
    clear c6
    simp only [Option.some.injEq, Prod.mk.injEq] at H
    obtain ⟨rfl, rfl, rfl⟩ := H
    have hcz21_0 : wr.cell? ⟨gb126, 0, none⟩ = some (.int .i64 x127000_1) := (blk_cell BK126.out 0).trans rfl
    have hcz21_1 : wr.cell? ⟨gb126, 1, none⟩ = some (.bool x127001_1) := (blk_cell BK126.out 1).trans rfl
    have hfz21_0 := blk_frozen BK126.out 0
    have hfz21_1 := blk_frozen BK126.out 1
    go_wp2
    refine bodyPost_ret (results_ct rfl _ _ gb126 32 #[.int .i64 0, .bool false] (0, 0) _ rfl (by (with_reducible repeat (first | refine blk_drewN ?_ _ | refine blk_drew ?_ | refine blk_alloc ?_ _)); refine blk_put (cs := #[.int .i64 0, .bool x127001_1]) ?_ 1 _ rfl; (with_reducible repeat (first | refine blk_drewN ?_ _ | refine blk_drew ?_ | refine blk_alloc ?_ _)); refine blk_put (cs := #[.int .i64 x127000_1, .bool x127001_1]) ?_ 0 _ rfl; (with_reducible repeat (first | refine blk_drewN ?_ _ | refine blk_drew ?_ | refine blk_alloc ?_ _)); exact BK126.out) Tryd.underlying32 rfl (by kernel_rfl)) rfl ?_
    exact ⟨by first | rfl | (simp [errW_none, errW_some] <;> rfl) | (simp [*, errW_none, errW_some] <;> rfl), by repeat (first | (with_reducible first | exact HB.out | apply below_alloc | apply pw_below_drewN | apply below_drew1 | refine below_set ?_ GE126.out) | exact HB.out)⟩
def larchref18_SameMoves.l0 : Nat → List (S23) → List (S23) → Int → Option (Bool)
 | 0, _, _, _ => none
 | k + 1, x0, x1, x5 => if x5 < (x0.length : Int) then (if 0 ≤ x5 then (if x5 < (x1.length : Int) then (if (!(((rd_T23 x0 x5).f0) == ((rd_T23 x1 x5).f0)) || (!(((rd_T23 x0 x5).f1) == ((rd_T23 x1 x5).f1)))) = true then (some false) else (larchref18_SameMoves.l0 k x0 x1 (wrap64 (x5 + 1)))) else (none)) else (none)) else (some true)
def larchref18_SameMoves.f (k : Nat) (l0 : List (S23)) (l1 : List (S23)) : Option (Bool) := if (l0.length : Int) = (l1.length : Int) then (larchref18_SameMoves.l0 k l0 l1 0) else (some false)
set_option maxHeartbeats 8000000 in
set_option maxRecDepth 100000 in
theorem larchref18_SameMoves.calls (k : Nat) (A0 : Option Addr) (c0 : Nat) (l0 : List (S23)) (A1 : Option Addr) (c1 : Nat) (l1 : List (S23)) (r : Bool) (w : World) (hr0 : Kd.C k23 w A0 l0.length l0) (hc0 : l0.length ≤ c0) (hr1 : Kd.C k23 w A1 l1.length l1) (hc1 : l1.length ≤ c1) (h : larchref18_SameMoves.f k l0 l1 = some r) :
  Calls Tryd.prog 12 #[.slice A0 l0.length c0, .slice A1 l1.length c1] w fun e w' => e = .returned (.bool r) ∧ Drawn0 w w' := by
 have hu23 := Tryd.underlying23
 have HR0 := Aside0.mk hr0
 have HC0 := Aside0.mk hc0
 clear hr0 hc0
 have HR1 := Aside0.mk hr1
 have HC1 := Aside0.mk hc1
 clear hr1 hc1
 have H : (if (l0.length : Int) = (l1.length : Int) then (larchref18_SameMoves.l0 k l0 l1 0) else (some false)) = some r := h
 clear h
 by_cases c3 : (l0.length : Int) = (l1.length : Int)
 ·rw [if_pos c3] at H
  have c3b0 : ((l0.length : Int) == (l1.length : Int)) = true := beq_iff_eq.mpr c3
  have c3b1 : ((l0.length : Int) != (l1.length : Int)) = false := bne_eq_false_iff_eq.mpr c3
  have c3b2 : (l0.length == l1.length) = true := by first | simpa using c3 | (simp at c3 ⊢; omega)
  clear c3
  have H' := Aside0.mk H
  clear H
  go_enter Tryd.func12, Tryd.ntmps12
  go_wp2
  repeat (go_quiet (fail); try go_wp2)
  go_loopg [5] k (fun kq v5 w' => ∃ (x5_1 : Int), v5 = .int .i64 x5_1 ∧ Aside0 (larchref18_SameMoves.l0 kq l0 l1 x5_1 = some r) ∧ Aside0 (kq ≤ k) ∧ Drawn0 w w')
  case atStart => exact ⟨(0), (by first | rfl | (simp; done) | (simp [*]; done)), H', ⟨Nat.le_refl _⟩, by repeat (first | exact Drawn0.refl _ | apply Drawn0.step)⟩
  case round =>
   clear H'
   try clear c1
   try clear p2
   try clear c3
   try clear c3b0
   try clear c3b1
   try clear c3b2
   obtain ⟨x5_1, rfl, HA, HK1, ⟨m1, rfl⟩⟩ := hrel
   cases gk with
   | zero => exact absurd HA.out (by simp [larchref18_SameMoves.l0])
   | succ k1 =>
    have H := HA.out
    clear HA
    simp only [larchref18_SameMoves.l0] at H
    by_cases c4 : x5_1 < (l0.length : Int)
    ·rw [if_pos c4] at H
     have c4b0 : decide (x5_1 < (l0.length : Int)) = true := decide_eq_true c4
     clear c4
     by_cases c5 : 0 ≤ x5_1
     ·rw [if_pos c5] at H
      have c5b0 : decide (0 ≤ x5_1) = true := decide_eq_true c5
      clear c5
      by_cases c6 : x5_1 < (l1.length : Int)
      ·rw [if_pos c6] at H
       have c6b0 : decide (x5_1 < (l1.length : Int)) = true := decide_eq_true c6
       clear c6
       by_cases c7 : (!(((rd_T23 l0 x5_1).f0) == ((rd_T23 l1 x5_1).f0)) || (!(((rd_T23 l0 x5_1).f1) == ((rd_T23 l1 x5_1).f1)))) = true
       ·rw [if_pos c7] at H
        have c7b0 : (!(((rd_T23 l0 x5_1).f0) == ((rd_T23 l1 x5_1).f0)) || (!(((rd_T23 l0 x5_1).f1) == ((rd_T23 l1 x5_1).f1)))) = true := c7
        clear c7
        obtain rfl := Option.some.inj H
        have p134 : 0 ≤ (x5_1 : Int) := of_decide_eq_true (by first | (with_reducible assumption) | assumption)
        have q134 : x5_1 < (l0.length : Int) := of_decide_eq_true (by first | (with_reducible assumption) | assumption)
        obtain ⟨ad134, e134, hx134_0, hx134_1⟩ := at_T23 HR0.out x5_1 p134 q134
        cases e134
        replace p134 := eq_true p134
        replace q134 := eq_true q134
        have p135 : 0 ≤ (x5_1 : Int) := of_decide_eq_true (by first | (with_reducible assumption) | assumption)
        have q135 : x5_1 < (l1.length : Int) := of_decide_eq_true (by first | (with_reducible assumption) | assumption)
        obtain ⟨ad135, e135, hx135_0, hx135_1⟩ := at_T23 HR1.out x5_1 p135 q135
        cases e135
        replace p135 := eq_true p135
        replace q135 := eq_true q135
        go_wp2
        repeat (go_quiet (fail); try go_wp2)
        go_ret
        exact ⟨by first | rfl | (simp; done) | (simp [*]; done), by repeat (first | exact Drawn0.refl _ | apply Drawn0.step)⟩
       ·rw [if_neg c7] at H
        have c7b0 : (!(((rd_T23 l0 x5_1).f0) == ((rd_T23 l1 x5_1).f0)) || (!(((rd_T23 l0 x5_1).f1) == ((rd_T23 l1 x5_1).f1)))) = false := by simpa using c7
        clear c7
        have H' := Aside0.mk H
        clear H
        have p134 : 0 ≤ (x5_1 : Int) := of_decide_eq_true (by first | (with_reducible assumption) | assumption)
        have q134 : x5_1 < (l0.length : Int) := of_decide_eq_true (by first | (with_reducible assumption) | assumption)
        obtain ⟨ad134, e134, hx134_0, hx134_1⟩ := at_T23 HR0.out x5_1 p134 q134
        cases e134
        replace p134 := eq_true p134
        replace q134 := eq_true q134
        have p135 : 0 ≤ (x5_1 : Int) := of_decide_eq_true (by first | (with_reducible assumption) | assumption)
        have q135 : x5_1 < (l1.length : Int) := of_decide_eq_true (by first | (with_reducible assumption) | assumption)
        obtain ⟨ad135, e135, hx135_0, hx135_1⟩ := at_T23 HR1.out x5_1 p135 q135
        cases e135
        replace p135 := eq_true p135
        replace q135 := eq_true q135
        go_wp2
        repeat (go_quiet (fail); try go_wp2)
        go_roundg k1
        case measure => have := HK1.out; omega
        case rel => exact ⟨(wrap64 (x5_1 + 1)), (by first | rfl | (simp; done) | (simp [*]; done)), H', ⟨by have := HK1.out; omega⟩, by repeat (first | exact Drawn0.refl _ | apply Drawn0.step)⟩
      ·rw [if_neg c6] at H
       exact absurd H (by simp)
     ·rw [if_neg c5] at H
      exact absurd H (by simp)
    ·rw [if_neg c4] at H
     have c4b0 : decide (x5_1 < (l0.length : Int)) = false := decide_eq_false c4
     clear c4
     obtain rfl := Option.some.inj H
     go_wp2
     repeat (go_quiet (fail); try go_wp2)
     go_ret
     exact ⟨by first | rfl | (simp; done) | (simp [*]; done), by repeat (first | exact Drawn0.refl _ | apply Drawn0.step)⟩
 ·rw [if_neg c3] at H
  have c3b0 : ((l0.length : Int) == (l1.length : Int)) = false := beq_eq_false_iff_ne.mpr c3
  have c3b1 : ((l0.length : Int) != (l1.length : Int)) = true := bne_iff_ne.mpr c3
  have c3b2 : (l0.length == l1.length) = false := by first | simpa using c3 | (simp at c3 ⊢; omega)
  obtain rfl := Option.some.inj H
  go_enter Tryd.func12, Tryd.ntmps12
  go_wp2
  repeat (go_quiet (fail); try go_wp2)
  go_ret
  exact ⟨by first | rfl | (simp; done) | (simp [*]; done), by repeat (first | exact Drawn0.refl _ | apply Drawn0.step)⟩
def larchlaw18_from.l0 : Nat → List (S23) → List (S32) → Int → Int → Option ((List (S23)))
 | 0, _, _, _, _ => none
 | k + 1, x3, x6, x7, x8 => if x8 < x7 then (if 0 ≤ x8 then (if x8 < (x6.length : Int) then (if x3.length < 8796093022208 then (larchlaw18_from.l0 k (x3 ++ [(⟨(rd_T32 x6 x8).f0, (rd_T32 x6 x8).f1⟩ : S23)]) x6 x7 (wrap64 (x8 + 1))) else (none)) else (none)) else (none)) else (some x3)
def larchlaw18_from.f (k : Nat) (l0 : List (S32)) : Option ((List (S23))) := larchlaw18_from.l0 k ([] : List (S23)) l0 (l0.length : Int) 0
set_option maxHeartbeats 8000000 in
set_option maxRecDepth 100000 in
theorem larchlaw18_from.calls (k : Nat) (A0 : Option Addr) (c0 : Nat) (l0 : List (S32)) (r : List (S23)) (w : World) (hr0 : Kd.C k32 w A0 l0.length l0) (hc0 : l0.length ≤ c0) (h : larchlaw18_from.f k l0 = some r) :
  Calls Tryd.prog 13 #[.slice A0 l0.length c0] w fun e w' => ∃ v0_ : Value, e = .returned (v0_) ∧ Kd.R k23 23 w' w.heap.size (fun _ => True) v0_ r ∧ Below w.heap.size w w' := by
 have hu32 := Tryd.underlying32
 have hu23 := Tryd.underlying23
 have HR0 := Aside0.mk hr0
 have HC0 := Aside0.mk hc0
 clear hr0 hc0
 have HB := Aside0.mk (Below.refl w.heap.size w)
 have H : (larchlaw18_from.l0 k ([] : List (S23)) l0 (l0.length : Int) 0) = some r := h
 clear h
 have H' := Aside0.mk H
 clear H
 go_enter Tryd.func13, Tryd.ntmps13
 go_wp2
 go_loopg [3, 8] k (fun kq v3 v8 w' => ∃ (x3_1 : List (S23)) (x8_1 : Int), v8 = .int .i64 x8_1 ∧ Aside0 (larchlaw18_from.l0 kq x3_1 l0 (l0.length : Int) x8_1 = some r) ∧ Aside0 (kq ≤ k) ∧ Aside0 (Kd.R k23 23 w' w.heap.size (fun _ => True) v3 x3_1) ∧ Aside0 (Below w.heap.size w w'))
 case atStart => exact ⟨(([] : List (S23))), (0), (by first | rfl | (simp; done) | (simp [*]; done)), H', ⟨Nat.le_refl _⟩, ⟨by first | exact Kd.R_nil _ _ _ _ _ | exact Kd.N_nil _ _ _ _ _ | exact Kd.V_nil _ _ _ _ _ | exact Kd.Q_nil _ _ _ _ _ | exact Kd.S_nil _ _ _ _ _⟩, ⟨by repeat (first | (with_reducible first | exact HB.out | apply below_alloc | apply pw_below_drewN | apply below_drew1) | exact HB.out)⟩⟩
 case round =>
  clear H'
  try clear c1
  obtain ⟨x3_1, x8_1, rfl, HA, HK1, HO_3, HB⟩ := hrel
  cases gk with
  | zero => exact absurd HA.out (by simp [larchlaw18_from.l0])
  | succ k1 =>
   have H := HA.out
   clear HA
   simp only [larchlaw18_from.l0] at H
   by_cases c2 : x8_1 < (l0.length : Int)
   ·rw [if_pos c2] at H
    have c2b0 : decide (x8_1 < (l0.length : Int)) = true := decide_eq_true c2
    clear c2
    by_cases c3 : 0 ≤ x8_1
    ·rw [if_pos c3] at H
     have c3b0 : decide (0 ≤ x8_1) = true := decide_eq_true c3
     clear c3
     by_cases c4 : x8_1 < (l0.length : Int)
     ·rw [if_pos c4] at H
      have c4b0 : decide (x8_1 < (l0.length : Int)) = true := decide_eq_true c4
      clear c4
      by_cases c5 : x3_1.length < 8796093022208
      ·rw [if_pos c5] at H
       have LMc5 := Aside0.mk c5
       clear c5
       obtain ⟨y138, hy138⟩ : ∃ y_ : List (S23), y_ = (x3_1 ++ [(⟨(rd_T32 l0 x8_1).f0, (rd_T32 l0 x8_1).f1⟩ : S23)]) := ⟨_, rfl⟩
       replace H : (larchlaw18_from.l0 k1 y138 l0 (l0.length : Int) (wrap64 (x8_1 + 1))) = some r := by first | (rw [hy138]; with_reducible exact H) | (have H2_ := (Option.bind_some _ _).symm.trans H; rw [hy138]; with_reducible exact H2_) | (have H2_ := (Option.bind_some _ _).symm.trans H; with_reducible exact H2_) | with_reducible exact H | (rw [hy138]; exact H) | exact H
       have Ny138 := Aside0.mk hy138
       clear hy138
       have H' := Aside0.mk H
       clear H
       have p136 : 0 ≤ (x8_1 : Int) := of_decide_eq_true (by first | (with_reducible assumption) | assumption)
       have q136 : x8_1 < (l0.length : Int) := of_decide_eq_true (by first | (with_reducible assumption) | assumption)
       obtain ⟨ad136, e136, hx136_0, hx136_1⟩ := at_T32 HR0.out x8_1 p136 q136
       cases e136
       replace hx136_0 := (HB.out.cell (World.block_lt_of_cell? w _ hx136_0)).trans hx136_0
       replace hx136_1 := (HB.out.cell (World.block_lt_of_cell? w _ hx136_1)).trans hx136_1
       replace p136 := eq_true p136
       replace q136 := eq_true q136
       go_wp2_with (first | ((with_reducible refine gate_dst (N := 5) rfl ?_); refine box_event ?hg (N := 5) ?hd (cs := #[.int .i64 0, .bool false]) (t := 32) ?hr ?_; (case hd => rfl); (case hg => rfl); (case hr => first | (go_simp; done) | (go_simp; rfl)); intro gb137 hg w6 hbox hb; have n0_ := Aside0.mk (Kd.R_below (by (with_reducible repeat (first | apply Kd.R_alloc | apply Kd.R_drewN | apply Kd.R_drew)); exact HO_3.out) hb); have n1_ := Aside0.mk (below_step (by repeat (first | (with_reducible first | exact HB.out | apply below_alloc | apply pw_below_drewN | apply below_drew1) | exact HB.out)) hb); have n2_ := Aside0.mk (hbox); have n3_ := Aside0.mk ((by rw [hg]; exact (below_size (by repeat (first | (with_reducible first | exact HB.out | apply below_alloc | apply pw_below_drewN | apply below_drew1) | exact HB.out))) : w.heap.size ≤ gb137)); have n4_ := Aside0.mk ((by rw [hg]; exact (below_size (by repeat (first | (with_reducible first | exact HB.out | apply below_alloc | apply pw_below_drewN | apply below_drew1) | exact HB.out))) : w.heap.size ≤ gb137)); clear HO_3; clear HB; have HO_3 := n0_; have HB := n1_; have BK137 := n2_; have GW137 := n3_; have GE137 := n4_; clear n0_ n1_ n2_ n3_ n4_; clear hb hbox hg; have hcz7_0 : w6.cell? ⟨gb137, 0, none⟩ = some (.int .i64 0) := (blk_cell BK137.out 0).trans rfl; have hcz7_1 : w6.cell? ⟨gb137, 1, none⟩ = some (.bool false) := (blk_cell BK137.out 1).trans rfl; have hfz7_0 := blk_frozen BK137.out 0; have hfz7_1 := blk_frozen BK137.out 1) | ((with_reducible refine gate_builtin (b := .append) (xs := #[.tmp 12, .tmp 18]) rfl ?_); at_builtin; refine Kd.R_append k23 (w0 := w) w.heap.size rfl (.tmp 12) (.tmp 18) 40 23 (.agg #[(.int .i64 0), (.bool false)]) 16 rfl Tryd.underlying40 info23 rfl (by decide) (by omega) u3 x3_1 (⟨(rd_T32 l0 x8_1).f0, (rd_T32 l0 x8_1).f1⟩ : S23) [.int .i64 ((rd_T32 l0 x8_1).f0), .bool ((rd_T32 l0 x8_1).f1)] (fun _ => True) (fun _ => False) rfl (by first | (go_simp; done) | (go_simp; rfl)) ?aP (fun _ hk => hk.elim) ?aF ?aO ?aB ?aS ?aL ?_; (case aP => exact k23_mkM _ _ _ (⟨(rd_T32 l0 x8_1).f0, (rd_T32 l0 x8_1).f1⟩ : S23)); (case aB => exact (by repeat (first | (with_reducible first | exact HB.out | apply below_alloc | apply pw_below_drewN | apply below_drew1 | refine below_set ?_ GE137.out) | exact HB.out))); (case aF => exact (fun _ _ => trivial)); (case aO => exact (by (with_reducible repeat (first | apply Kd.R_alloc | apply Kd.R_drewN | apply Kd.R_drew)); exact Kd.R_mono (Kd.R_far (p := ⟨gb137, 1, none⟩) (Kd.R_far (p := ⟨gb137, 0, none⟩) (Kd.R_types HO_3.out BK137.out (by decide)) (fun _ hk => hk.2) (.int .i64 ((rd_T32 l0 x8_1).f0))) (fun _ hk => hk.2) (.bool ((rd_T32 l0 x8_1).f1))) (fun _ hk => trivial))); (case aS => exact (below_size (by repeat (first | (with_reducible first | exact HB.out | apply below_alloc | apply pw_below_drewN | apply below_drew1 | refine below_set ?_ GE137.out) | exact HB.out)))); (case aL => have := LMc5.out; omega); intro v139 w8 ho hb hg hat; rw [← Ny138.out] at ho; have n0_ := Aside0.mk (blk_grown (g := gb137) (o := .cells #[.int .i64 ((rd_T32 l0 x8_1).f0), .bool ((rd_T32 l0 x8_1).f1)] 32 (0, 0)) (by (with_reducible repeat (first | refine blk_drewN ?_ _ | refine blk_drew ?_ | refine blk_alloc ?_ _)); refine blk_put (cs := #[.int .i64 ((rd_T32 l0 x8_1).f0), .bool false]) ?_ 1 _ rfl; (with_reducible repeat (first | refine blk_drewN ?_ _ | refine blk_drew ?_ | refine blk_alloc ?_ _)); refine blk_put (cs := #[.int .i64 0, .bool false]) ?_ 0 _ rfl; (with_reducible repeat (first | refine blk_drewN ?_ _ | refine blk_drew ?_ | refine blk_alloc ?_ _)); exact BK137.out) hg (Kd.R_ne HO_3.out BK137.out (by decide))); have n1_ := Aside0.mk (hb); have n2_ := Aside0.mk (ho); clear BK137; clear HB; clear HO_3; have BK137 := n0_; have HB := n1_; have HO140 := n2_; clear n0_ n1_ n2_; clear ho hb hg hat))
       go_roundg k1
       case measure => have := HK1.out; omega
       case rel => exact ⟨(y138), (wrap64 (x8_1 + 1)), (by first | rfl | (simp; done) | (simp [*]; done)), H', ⟨by have := HK1.out; omega⟩, ⟨by (with_reducible repeat (first | apply Kd.R_alloc | apply Kd.R_drewN | apply Kd.R_drew)); exact HO140.out⟩, ⟨by repeat (first | (with_reducible first | exact HB.out | apply below_alloc | apply pw_below_drewN | apply below_drew1 | refine below_set ?_ GE137.out) | exact HB.out)⟩⟩
      ·rw [if_neg c5] at H
       exact absurd H (by simp)
     ·rw [if_neg c4] at H
      exact absurd H (by simp)
    ·rw [if_neg c3] at H
     exact absurd H (by simp)
   ·rw [if_neg c2] at H
    have c2b0 : decide (x8_1 < (l0.length : Int)) = false := decide_eq_false c2
    clear c2
    obtain rfl := Option.some.inj H
    go_wp2
    go_ret
    exact ⟨_, by first | rfl | (simp [errW_none, errW_some] <;> rfl) | (simp [*, errW_none, errW_some] <;> rfl), by (with_reducible repeat (first | apply Kd.R_alloc | apply Kd.R_drewN | apply Kd.R_drew)); exact HO_3.out, by repeat (first | (with_reducible first | exact HB.out | apply below_alloc | apply pw_below_drewN | apply below_drew1) | exact HB.out)⟩
end Go.Proofs.YtgleaefhflamnaaDoor.U
