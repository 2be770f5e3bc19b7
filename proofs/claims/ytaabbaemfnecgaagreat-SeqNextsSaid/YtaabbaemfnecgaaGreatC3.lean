/- A part of the proof: see YtaabbaemfnecgaaGreatLawSeqNexts. -/
import Derived.Test.YtaabbaemfnecgaaGreatC2
set_option linter.unusedVariables false
set_option linter.unusedSimpArgs false
set_option maxHeartbeats 32000000
set_option maxRecDepth 100000
namespace Go.Proofs.YtaabbaemfnecgaaGreat.T
open Go.RowKit Go.Proofs.YtaabbaemfnecgaaGreatW.PrintWords Go.Proofs.YtaabbaemfnecgaaGreatW.PrintLast Go.Proofs.YtaabbaemfnecgaaGreatW.PrintMore
attribute [local go_sem] Tryz.underlying69
section
open Go.Proofs.YtaabbaemfnecgaaGreat.V
theorem underlying197 : Tryz.prog.underlying 197 = some (.map 3 3) := by kernel_rfl
theorem zero3 : (Tryz.prog.info? 3).map (fun i => i.zero) = some (some (.int .i64 0)) := by kernel_rfl
def updI (M : Int → Int) (k v : Int) : Int → Int := fun x => if x = k then v else M x
theorem updM_I {f : Int → Option Value} {M : Int → Int} (h : ∀ x, (f x).getD (.int .i64 0) = .int .i64 (M x)) (k v : Int) : ∀ x, (updM f k (.int .i64 v) x).getD (.int .i64 0) = .int .i64 (updI M k v x) := fun x => by
 unfold updM updI
 by_cases hx : x = k
 ·rw [if_pos hx, if_pos hx]; rfl
 ·rw [if_neg hx, if_neg hx]; exact h x
def sumsL (t : List S69) (par : List Int) : List Int → Nat → (Int → Int) → List Int → Option (List Int)
 | [], _, _, out => some out
 | p :: ps, i, M, out => if 0 ≤ p ∧ p < t.length ∧ p < par.length then
   sumsL t par ps (i + 1) (if i = 0 then updI M p (t.getD p.toNat z69).f2 else updI (updI M p (t.getD p.toNat z69).f2) p (wrap64 (updI M p (t.getD p.toNat z69).f2 p + updI M p (t.getD p.toNat z69).f2 (par.getD p.toNat 0))))
    (if (t.getD p.toNat z69).f4 < 0 then out ++ [(if i = 0 then updI M p (t.getD p.toNat z69).f2 else updI (updI M p (t.getD p.toNat z69).f2) p (wrap64 (updI M p (t.getD p.toNat z69).f2 p + updI M p (t.getD p.toNat z69).f2 (par.getD p.toNat 0)))) p] else out)
  else none
def weigh_Sums.f (k : Nat) (l0 : List S69) : Option (List Int × Int) := (weigh_keys.f k l0).bind fun r => if r.2.2 = 0 then (if r.1.length ≤ 1000000 then (sumsL l0 r.2.1 r.1 0 (fun _ => 0) []).bind fun o => some (o, 0) else none) else some ([], r.2.2)
theorem weigh_Sums.mono : ∀ a0 k, LeO (weigh_Sums.f k a0) (weigh_Sums.f (k + 1) a0) := by
 intro a0 k
 unfold weigh_Sums.f
 exact LeO.bind (weigh_keys.mono _ _) (fun _ => LeO.refl _)
theorem weigh_Sums.calls (k : Nat) (A0 : Option Addr) (c0 : Nat) (l0 : List (S69)) (r1 : List Int) (r2 : Int) (w : World) (hr0 : Kd.C k69 w A0 l0.length l0) (hc0 : l0.length ≤ c0) (h : weigh_Sums.f k l0 = some (r1, r2)) :
  Calls Tryz.prog 85 #[.slice A0 l0.length c0] w fun e w' => ∃ v0_ : Value, e = .returned (.tuple #[v0_, .int .i64 r2]) ∧ Kd.R (Kd.int .i64) 3 w' w.heap.size (fun _ => True) v0_ r1 ∧ Below w.heap.size w w' := by
 have HR0 := Am hr0
 have HC0 := Am hc0
 clear hr0 hc0
 unfold weigh_Sums.f at h
 obtain ⟨⟨ord, par, ec⟩, hc, h⟩ := Option.bind_eq_some_iff.mp h
 have HK := Am hc
 clear hc
 dsimp only at h
 by_cases q0 : ec = 0
 ·subst q0
  rw [if_pos rfl] at h
  by_cases q1 : ord.length ≤ 1000000
  rotate_left
  ·rw [if_neg q1] at h; cases h
  rw [if_pos q1] at h
  obtain ⟨res, hE, h⟩ := Option.bind_eq_some_iff.mp h
  obtain ⟨rfl, rfl⟩ : res = r1 ∧ 0 = r2 := by injection h with h; injection h with h1 h2; exact ⟨h1, h2⟩
  have HLO := Am q1
  have HE := Am hE
  clear h q1 hE
  go_enter Tryz.func85, Tryz.ntmps85
  go_wp2_with (fail)
  refine (weigh_keys.calls k A0 c0 l0 ord par 0 _ HR0.out HC0.out HK.out).mono ?_
  rintro _ w1 ⟨v0, v1, rfl, h0, h1, hb⟩
  obtain ⟨A1, c1, rfl⟩ := Kd.R_slice h0
  obtain ⟨A2, c2, rfl⟩ := Kd.R_slice h1
  have HO := Am (Kd.R_reads' h0).2.2
  have HP := Am (Kd.R_reads' h1).2.2
  have HB := Am hb
  clear hb h0 h1 HK
  go_wp2_with (first | ((with_reducible refine gate_ (.makeMap 197 none) rfl ?_); refine wp_makeM 197 rfl rfl ?_; intro bm w2 hbm hm2 hb2; have HM2 := Am hm2; have HB2 := Am hb2; have HBM := Am (show w1.heap.size ≤ bm from by omega); clear hbm hm2 hb2))
  go_loopg [8, 23] (ord.length + 1) (fun kq v8 v23 w' => ∃ (i : Nat) (M : Int → Int) (f : Int → Option Value) (out : List Int), v23 = .int .i64 i ∧ Aside0 (i ≤ ord.length ∧ kq + i = ord.length + 1 ∧ out.length ≤ i) ∧ Aside0 (MapI w' bm f ∧ ∀ x, (f x).getD (.int .i64 0) = .int .i64 (M x)) ∧ Aside0 (Kd.R (Kd.int .i64) 3 w' w1.heap.size (fun _ => True) v8 out) ∧ Aside0 (Below w1.heap.size w1 w') ∧ Aside0 (sumsL l0 par (ord.drop i) i M out = some res))
  case atStart => exact ⟨0, fun _ => 0, fun _ => none, [], rfl, ⟨Nat.zero_le _, rfl, Nat.le_refl _⟩, ⟨HM2.out, fun _ => rfl⟩, ⟨Kd.R_nil _ _ _ _ _⟩, HB2, HE⟩
  case round =>
   clear HM2 HB2 HE
   obtain ⟨i, M, f, out, rfl, HI, HM, HR, HW, HE⟩ := hrel
   obtain ⟨kq1, rfl⟩ : ∃ x, gk = x + 1 := ⟨gk - 1, by have := HI.out; omega⟩
   by_cases q1 : i < ord.length
   ·obtain ⟨p, hp⟩ : ∃ p, ord.getD i 0 = p := ⟨_, rfl⟩
    have hd : ord.drop i = p :: ord.drop (i + 1) := by rw [← hp, List.getD, List.getElem?_eq_getElem q1, Option.getD_some]; exact List.drop_eq_getElem_cons q1
    have hE := HE.out
    rw [hd, sumsL] at hE
    by_cases qp : 0 ≤ p ∧ p < l0.length ∧ p < par.length
    rotate_left
    ·rw [if_neg qp] at hE; cases hE
    rw [if_pos qp] at hE
    obtain ⟨j, rfl⟩ : ∃ j : Nat, p = j := ⟨p.toNat, by omega⟩
    have hj : j < l0.length ∧ j < par.length := by omega
    rw [Int.toNat_natCast] at hE
    obtain ⟨ad, ead, hz⟩ := rd_cells HR0.out hj.1
    cases ead
    obtain ⟨ap, eap, hp0⟩ := Kd.at_int (Kd.C_below HO.out HW.out) (i : Int) (by omega) (by omega)
    cases eap
    rw [show rd ord (i : Int) = j from by rw [← hp]; rfl, Int.toNat_natCast] at hp0
    obtain ⟨n, hn⟩ : ∃ n, l0.getD j z69 = n := ⟨_, rfl⟩
    rw [hn] at hz hE
    have HZ := Am hz
    have HJ := Am hj
    have HQ := Am q1
    have HE2 := Am hE
    obtain ⟨z0, z1, z2, z3, z4, z5⟩ := hz _ (bel_t HB.out HW.out)
    have p1 : decide ((i : Int) < (ord.length : Int)) = true := decide_eq_true (by omega)
    have p2 : decide (i < ord.length) = true := decide_eq_true q1
    have p3 : (0 ≤ (i : Int)) = True := eq_true (by omega)
    have p4 : ((i : Int) < (ord.length : Int)) = True := eq_true (by omega)
    have p5 : (0 ≤ (j : Int)) = True := eq_true (by omega)
    have p6 : ((j : Int) < (l0.length : Int)) = True := eq_true (by omega)
    have p7 : ((j : Int) < (par.length : Int)) = True := eq_true (by omega)
    clear hd hE HE hz hj hp hn q1 qp
    by_cases q2 : i = 0
    ·have hE := HE2.out
     rw [if_pos q2] at hE
     have p9 : decide ((0 : Int) < (i : Int)) = false := decide_eq_false (by omega)
     have p10 : decide (0 < i) = false := decide_eq_false (by omega)
     clear q2 HE2
     by_cases q3 : n.f4 < 0
     ·have p8 : decide (n.f4 < 0) = true := decide_eq_true q3
      rw [if_pos q3] at hE
      clear q3
      go_wp2_with (first | ((with_reducible refine gate_ (.mapUpdate 197 (.tmp 28) (.tmp 29) (.tmp 34)) rfl ?_); refine wp_put 197 underlying197 rfl rfl (.tmp 28) (.tmp 29) (.tmp 34) rfl bm rfl (j : Int) rfl (.int .i64 n.f2) rfl HM.out.1 ?_; intro w3 hm3 hg3; have HM3 := Am (And.intro hm3 (updM_I HM.out.2 (j : Int) n.f2)); have HR3 := Am (R_mapg HR.out HM.out.1 hg3); have HW3 := Am (HW.out.trans (below_from hg3 (by have := HBM.out; omega) HW.out.size)); clear hm3 hg3 hp0 z0 z1 z2 z3 z4 z5 HM HR HW; obtain ⟨z0, z1, z2, z3, z4, z5⟩ := HZ.out _ (bel_t HB.out HW3.out)) | ((with_reducible refine gate_ (.lookup 197 (.tmp 54) (.tmp 55) false) rfl ?_); refine wp_get 197 underlying197 zero3 rfl (.tmp 54) (.tmp 55) rfl bm rfl (j : Int) rfl HM3.out.1 ?_; rw [HM3.out.2]) | ((with_reducible refine gate_builtin (b := .append) (xs := #[.tmp 53, .tmp 57]) rfl ?_); at_builtin; refine Kd.R_append (Kd.int .i64) (w0 := w1) w1.heap.size rfl (.tmp 53) (.tmp 57) 60 3 (.int .i64 0) 8 rfl Tryz.underlying60 info3 rfl (by decide) (by omega) u8 (out) ((updI M (j : Int) n.f2) (j : Int)) [.int .i64 ((updI M (j : Int) n.f2) (j : Int))] (fun _ => True) (fun _ => False) rfl rfl ?aP (fun _ hk => hk.elim) ?aF ?aO ?aB ?aS ?aL ?_; (case aP => exact rfl); (case aB => exact HW3.out); (case aF => exact (fun _ _ => trivial)); (case aO => exact HR3.out); (case aS => exact (below_size HW3.out)); (case aL => have := HI.out; have := HLO.out; omega); intro vN wN hoN hbN hgN hatN; have G8 := Am hoN; have GW := Am hbN; have GM := Am (And.intro (MapI.kept HM3.out.1 HR3.out hgN) HM3.out.2); clear hoN hbN hgN hatN))
      exact dd43
     ·have p8 : decide (n.f4 < 0) = false := decide_eq_false q3
      rw [if_neg q3] at hE
      clear q3
      go_wp2_with (first | ((with_reducible refine gate_ (.mapUpdate 197 (.tmp 28) (.tmp 29) (.tmp 34)) rfl ?_); refine wp_put 197 underlying197 rfl rfl (.tmp 28) (.tmp 29) (.tmp 34) rfl bm rfl (j : Int) rfl (.int .i64 n.f2) rfl HM.out.1 ?_; intro w3 hm3 hg3; have HM3 := Am (And.intro hm3 (updM_I HM.out.2 (j : Int) n.f2)); have HR3 := Am (R_mapg HR.out HM.out.1 hg3); have HW3 := Am (HW.out.trans (below_from hg3 (by have := HBM.out; omega) HW.out.size)); clear hm3 hg3 hp0 z0 z1 z2 z3 z4 z5 HM HR HW; obtain ⟨z0, z1, z2, z3, z4, z5⟩ := HZ.out _ (bel_t HB.out HW3.out)) | fail)
      go_roundg kq1
      case measure => omega
      case rel => exact ⟨i + 1, _, _, _, by have := HQ.out; have := HLO.out; first | rfl | (rw [Go.IntWalk.wrap64_in _ (by omega)]; rfl), ⟨by have := HQ.out; omega, by have := HI.out.2.1; omega, by have := HI.out.2.2; omega⟩, HM3, HR3, HW3, ⟨hE⟩⟩
    ·have hE := HE2.out
     rw [if_neg q2] at hE
     have p9 : decide ((0 : Int) < (i : Int)) = true := decide_eq_true (by omega)
     have p10 : decide (0 < i) = true := decide_eq_true (by omega)
     clear q2 HE2
     go_wp2_with (first | ((with_reducible refine gate_ (.mapUpdate 197 (.tmp 28) (.tmp 29) (.tmp 34)) rfl ?_); refine wp_put 197 underlying197 rfl rfl (.tmp 28) (.tmp 29) (.tmp 34) rfl bm rfl (j : Int) rfl (.int .i64 n.f2) rfl HM.out.1 ?_; intro w3 hm3 hg3; have HM3 := Am (And.intro hm3 (updM_I HM.out.2 (j : Int) n.f2)); have HR3 := Am (R_mapg HR.out HM.out.1 hg3); have HW3 := Am (HW.out.trans (below_from hg3 (by have := HBM.out; omega) HW.out.size)); clear hm3 hg3 hp0 z0 z1 z2 z3 z4 z5 HM HR HW; obtain ⟨z0, z1, z2, z3, z4, z5⟩ := HZ.out _ (bel_t HB.out HW3.out)))
     clear z0 z1 z2 z3 z4 z5
     refine sT 11 [10] (S := fun W' => MapI W' bm (updM f (j : Int) (.int .i64 n.f2)) ∧ Below w1.heap.size w1 W') ⟨HM3.out.1.below ((Below.refl _ _).drew), below_drew HW3.out⟩ fun hHeld => ?_
     refine gen_any (fun W => (MapI W bm (updM f (j : Int) (.int .i64 n.f2)) ∧ Below w1.heap.size w1 W) ∧ Kd.R (Kd.int .i64) 3 W w1.heap.size (fun _ => True) u8 out) ⟨hHeld, Kd.R_drew HR3.out⟩ (fun w4 hh => ?_)
     clear hHeld HR3 HW3
     have hHeld := hh.1
     have HR4 := Am hh.2
     have HF := Am HM3.out.2
     clear hh HM3
     refine pu 0 37 ?_
     refine pu 1 38 ?_
     refine ta 2 39 hHeld (hy := by intro w' hs; exact ex_get 197 underlying197 zero3 (.tmp 37) (.tmp 38) rfl bm rfl (j : Int) rfl hs.1 (HF.out _)) ?_
     refine pu 3 40 ?_
     refine pu 4 41 ?_
     refine pu 5 42 ?_
     obtain ⟨aq, eaq, -⟩ := Kd.at_int HP.out (j : Int) (by omega) (by have := HJ.out; omega)
     cases eaq
     refine pu 6 43 ?_
     refine ta 7 44 hHeld (v := .int .i64 (par.getD j 0)) (hy := by intro w' hs; obtain ⟨aq, eaq, hq⟩ := Kd.at_int (Kd.C_below HP.out hs.2) (j : Int) (by omega) (by have := HJ.out; omega); cases eaq; rw [show rd par (j : Int) = par.getD j 0 from rfl, Int.toNat_natCast] at hq; exact gz) ?_
     refine ta 8 45 hHeld (hy := by intro w' hs; exact ex_get 197 underlying197 zero3 (.tmp 40) (.tmp 44) rfl bm rfl (par.getD j 0) rfl hs.1 (HF.out _)) ?_
     refine pu 9 46 ?_
     refine la0 10 (fun K hK => ?_)
     refine put_step 197 underlying197 (by rfl) rfl (.tmp 37) (.tmp 38) (.tmp 46) rfl bm rfl (j : Int) rfl (.int .i64 (wrap64 (updI M (j : Int) n.f2 j + updI M (j : Int) n.f2 (par.getD j 0)))) rfl hHeld.1 ?_
     intro w5 hm5 hg5
     have HM5 := Am (And.intro hm5 (updM_I HF.out (j : Int) (wrap64 (updI M (j : Int) n.f2 j + updI M (j : Int) n.f2 (par.getD j 0)))))
     have HR5 := Am (R_mapg HR4.out hHeld.1 hg5)
     have HW5 := Am (hHeld.2.trans (below_from hg5 (by have := HBM.out; omega) hHeld.2.size))
     refine hK.out _ _ ?_
     clear hK K hm5 hg5 hHeld HR4 HF
     refine done_ (by kernel_rfl) ?_
     obtain ⟨z0, z1, z2, z3, z4, z5⟩ := HZ.out _ (bel_t HB.out HW5.out)
     by_cases q3 : n.f4 < 0
     ·have p8 : decide (n.f4 < 0) = true := decide_eq_true q3
      rw [if_pos q3] at hE
      clear q3
      go_wp2_with (first | ((with_reducible refine gate_ (.lookup 197 (.tmp 54) (.tmp 55) false) rfl ?_); refine wp_get 197 underlying197 zero3 rfl (.tmp 54) (.tmp 55) rfl bm rfl (j : Int) rfl HM5.out.1 ?_; rw [HM5.out.2]) | ((with_reducible refine gate_builtin (b := .append) (xs := #[.tmp 53, .tmp 57]) rfl ?_); at_builtin; refine Kd.R_append (Kd.int .i64) (w0 := w1) w1.heap.size rfl (.tmp 53) (.tmp 57) 60 3 (.int .i64 0) 8 rfl Tryz.underlying60 info3 rfl (by decide) (by omega) u8 (out) ((updI (updI M (j : Int) n.f2) (j : Int) (wrap64 (updI M (j : Int) n.f2 j + updI M (j : Int) n.f2 (par.getD j 0)))) (j : Int)) [.int .i64 ((updI (updI M (j : Int) n.f2) (j : Int) (wrap64 (updI M (j : Int) n.f2 j + updI M (j : Int) n.f2 (par.getD j 0)))) (j : Int))] (fun _ => True) (fun _ => False) rfl rfl ?aP (fun _ hk => hk.elim) ?aF ?aO ?aB ?aS ?aL ?_; (case aP => exact rfl); (case aB => exact HW5.out); (case aF => exact (fun _ _ => trivial)); (case aO => exact HR5.out); (case aS => exact (below_size HW5.out)); (case aL => have := HI.out; have := HLO.out; omega); intro vN wN hoN hbN hgN hatN; have G8 := Am hoN; have GW := Am hbN; have GM := Am (And.intro (MapI.kept HM5.out.1 HR5.out hgN) HM5.out.2); clear hoN hbN hgN hatN))
      exact dd43
     ·have p8 : decide (n.f4 < 0) = false := decide_eq_false q3
      rw [if_neg q3] at hE
      clear q3
      go_wp2_with (first | fail)
      go_roundg kq1
      case measure => omega
      case rel => exact ⟨i + 1, _, _, _, by have := HQ.out; have := HLO.out; first | rfl | (rw [Go.IntWalk.wrap64_in _ (by omega)]; rfl), ⟨by have := HQ.out; omega, by have := HI.out.2.1; omega, by have := HI.out.2.2; omega⟩, HM5, HR5, HW5, ⟨hE⟩⟩
   ·have p1 : decide ((i : Int) < (ord.length : Int)) = false := decide_eq_false (by omega)
    have p2 : decide (i < ord.length) = false := decide_eq_false q1
    have hE := HE.out
    rw [List.drop_eq_nil_of_le (by omega), sumsL] at hE
    exact dd61
 ·rw [if_neg q0] at h
  obtain ⟨rfl, rfl⟩ : [] = r1 ∧ ec = r2 := by injection h with h; injection h with h1 h2; exact ⟨h1, h2⟩
  have q1 : (ec == 0) = false := by simpa using q0
  have q2 : (ec != 0) = true := by simpa using q0
  clear h q0
  go_enter Tryz.func85, Tryz.ntmps85
  exact dd48
end
end Go.Proofs.YtaabbaemfnecgaaGreat.T
