/- A part of the proof: see YtgleaefhflamnaaDoorLawStepsNames. -/
import Derived.LaidEqlPtr
import Derived.Test.YtgleaefhflamnaaDoorZn2
set_option linter.unusedVariables false
set_option linter.unusedSimpArgs false
set_option maxHeartbeats 32000000
set_option maxRecDepth 100000
namespace Go.Proofs.YtgleaefhflamnaaDoor.T
open Go.RowKit Go.Proofs.YtgleaefhflamnaaDoorW.PrintWords Go.Proofs.YtgleaefhflamnaaDoorW.PrintLast Go.Proofs.YtgleaefhflamnaaDoorW.PrintMore
section
attribute [local go_sem] max2_int min2_int max_two min_two max_three min_three max_four min_four
def steps_keys.l0 : Nat → List (S34) → Int → List Bool → List Int → Option (Int × List Bool × Int)
 | 0, _, _, _, _ => none
 | k + 1, x0, x5, x7, x8 => if (x8.length : Int) > 0 then (if 0 ≤ (wrap64 ((x8.length : Int) - 1)) then (if (wrap64 ((x8.length : Int) - 1)) < (x8.length : Int) then (if (wrap64 ((x8.length : Int) - 1)) ≤ (x8.length : Int) then ((some (x8.take ((wrap64 ((x8.length : Int) - 1)) : Int).toNat : List Int)).bind fun y172 => (if 0 ≤ (rd x8 (wrap64 ((x8.length : Int) - 1))) then (if (rd x8 (wrap64 ((x8.length : Int) - 1))) < (x7.length : Int) then ((some (x7.set ((rd x8 (wrap64 ((x8.length : Int) - 1))) : Int).toNat true : List Bool)).bind fun y175 => (if (rd x8 (wrap64 ((x8.length : Int) - 1))) < (x0.length : Int) then (if ((rd_T34 x0 (rd x8 (wrap64 ((x8.length : Int) - 1)))).f4) ≥ 0 then ((some (([(rd_T34 x0 (rd x8 (wrap64 ((x8.length : Int) - 1)))).f4, (rd_T34 x0 (rd x8 (wrap64 ((x8.length : Int) - 1)))).f5] : List Int) : List Int)).bind fun y179 => (if y172.length + y179.length < 17592186044416 then (steps_keys.l0 k x0 x5 y175 (y172 ++ y179)) else (none))) else (steps_keys.l0 k x0 x5 y175 y172)) else (none))) else (none)) else (none))) else (none)) else (none)) else (none)) else (some (x5, x7, 0))
def steps_keys.f (k : Nat) (l0 : List (S34)) : Option (Int × List Bool × Int) := (table_Root.f k l0).bind fun bt163 => (if bt163.2 = 0 then (if 0 ≤ (l0.length : Int) then (if ((l0.length : Int) : Int).toNat ≤ 281474976710656 then (steps_keys.l0 k l0 bt163.1 (List.replicate ((l0.length : Int) : Int).toNat false) (([bt163.1] : List Int))) else (none)) else (none)) else (some (0, ([] : List Bool), bt163.2)))
def steps_keys.T11 : Bool × List (List Nat × List Nat) := (true, [([], []), ([], []), ([], []), ([1, 2], [1, 2]), ([3], [3]), ([4], [4]), ([], []), ([], []), ([6, 7], [6, 7]), ([8], [8]), ([9], [9]), ([5, 10], [5, 10]), ([0, 11], [0, 11]), ([12, 12, 0, 1, 2, 3, 4, 5, 6, 7, 8, 9, 10, 11, 12], [0, 12])])
def steps_keys.B11 : List Nat := [0, 0, 0, 6, 14, 30, 0, 0, 192, 448, 960, 2046, 4095, 8191]
theorem steps_keys.tab11 : rtab .any (opsOf Tryd.f30 11) = steps_keys.T11 := by kernel_rfl
theorem steps_keys.bits11 : waitsOk steps_keys.T11.2 steps_keys.B11 = true := by kernel_rfl
theorem steps_keys.calls (k : Nat) (A0 : Option Addr) (c0 : Nat) (l0 : List (S34)) (r1 : Int) (r2 : List Bool) (r3 : Int) (w : World) (hr0 : Kd.C k34 w A0 l0.length l0) (hc0 : l0.length ≤ c0) (h : steps_keys.f k l0 = some (r1, r2, r3)) :
  Calls Tryd.prog 30 #[.slice A0 l0.length c0] w fun e w' => ∃ v1_ : Value, e = .returned (.tuple #[.int .i64 r1, v1_, .int .i64 r3]) ∧ Kd.R Kd.bool 4 w' w.heap.size (fun _ => True) v1_ r2 ∧ Below w.heap.size w w' := by
 have HR0 := Am hr0
 have HC0 := Am hc0
 clear hr0 hc0
 have HB := Am (Below.refl w.heap.size w)
 have H : ((table_Root.f k l0).bind fun bt163 => (if bt163.2 = 0 then (if 0 ≤ (l0.length : Int) then (if ((l0.length : Int) : Int).toNat ≤ 281474976710656 then (steps_keys.l0 k l0 bt163.1 (List.replicate ((l0.length : Int) : Int).toNat false) (([bt163.1] : List Int))) else (none)) else (none)) else (some (0, ([] : List Bool), bt163.2)))) = some (r1, r2, r3) := h
 clear h
 obtain ⟨⟨t163, t164⟩, A2, H⟩ := bo H
 dsimp only at H
 by_cases c3 : t164 = 0
 ·rw [if_pos c3] at H
  obtain ⟨c3b0, c3b1⟩ := eq2 c3
  clear c3
  obtain ⟨c4, H⟩ := gd H
  have c4b0 := eq_true c4
  have c4b1 := decide_eq_true c4
  clear c4
  obtain ⟨c5, H⟩ := gd H
  have c5b0 := eq_true c5
  have c5b1 := decide_eq_true c5
  clear c5
  obtain ⟨y165, hy165⟩ : ∃ y_ : List Bool, y_ = (List.replicate ((l0.length : Int) : Int).toNat false) := ⟨_, rfl⟩
  replace H : (steps_keys.l0 k l0 t163 y165 (([t163] : List Int))) = some (r1, r2, r3) := by first | (rw [hy165]; with_reducible exact H) | (have H2_ := (Option.bind_some _ _).symm.trans H; rw [hy165]; with_reducible exact H2_) | (have H2_ := (Option.bind_some _ _).symm.trans H; with_reducible exact H2_) | with_reducible exact H | (rw [hy165]; exact H) | exact H
  have Ny165 := Am hy165
  clear hy165
  obtain ⟨y168, hy168⟩ : ∃ y_ : List Int, y_ = (([t163] : List Int)) := ⟨_, rfl⟩
  replace H : (steps_keys.l0 k l0 t163 y165 y168) = some (r1, r2, r3) := by first | (rw [hy168]; with_reducible exact H) | (have H2_ := (Option.bind_some _ _).symm.trans H; rw [hy168]; with_reducible exact H2_) | (have H2_ := (Option.bind_some _ _).symm.trans H; with_reducible exact H2_) | with_reducible exact H | (rw [hy168]; exact H) | exact H
  have Ny168 := Am hy168
  clear hy168
  have H' := Am H
  clear H
  go_enter Tryd.func30, Tryd.ntmps30
  go_wp2_with (first | ((with_reducible refine gc 44 rfl ?_); refine goesL_ (some 12) rfl rfl Tryd.func44 (by kernel_rfl) rfl #[.slice A0 l0.length c0] rfl ar ?_; (with_reducible refine (table_Root.calls k _ _ l0 t163 t164 _ ?side1 ?side2 A2.out).mono ?_); (case side1 => exact kc HR0.out); (case side2 => exact HC0.out); rintro e w6 ⟨rfl, hb⟩; refine ⟨_, rfl, ?_⟩; replace HB := Am (below_step bq hb); (try clear hb)) | ((with_reducible refine gs 20 rfl ?_); refine Kd.R_make Kd.bool _ 4 rfl (N := 20) rfl 71 _ _ rfl (l0.length : Int) rfl rfl Tryd.underlying71 (.bool false) 1 info4 rfl (by decide) (by omega) false (ok := fun _ => True) (okp := fun _ => True) rfl (fun _ hk => hk) trivial (da) (Nat.le_trans (Nat.mul_le_mul_right _ (da : (l0.length : Int).toNat ≤ 281474976710656)) (by omega)) (Below.refl _ _) (Nat.le_refl _) ?_; intro v166 w7 ho8 hb hg_ hnew_; clear hg_ hnew_; (first | rw [← Ny165.out] at ho8 | (simp only [Int.reduceToNat] at ho8; rw [← Ny165.out] at ho8)); replace HO167 := Am (Kd.R_lower ho8 (below_size bq)); replace HB := Am (below_step bq hb); clear hb ho8) | ((with_reducible refine gs 22 rfl ?_); refine Kd.R_lit (Kd.int .i64) _ 3 ?hg (N := 22) ?hd (xs := ([t163] : List Int)) (inner := [.int .i64 t163]) (ok := fun _ => True) (okp := fun _ => True) ?hr ?hp (fun _ hk => hk) trivial (Below.refl _ _) (Nat.le_refl _) (by simp) ?_; (case hd => rfl); (case hg => rfl); (case hr => first | (go_simp; done) | (go_simp; rfl)); (case hp => exact (Reps.one (show Kd.M (Kd.int .i64) _ _ _ t163 [.int .i64 t163] from rfl) (Reps.none _ _))); intro v169 w9 ho10 hb hg_ hnew_; clear hg_ hnew_; (first | rw [← Ny168.out] at ho10 | (simp only [Int.reduceToNat] at ho10; rw [← Ny168.out] at ho10)); replace HO167 := Am (Kd.R_below (kr HO167.out) hb); replace HO170 := Am (Kd.R_lower ho10 (below_size bq)); replace HB := Am (below_step bq hb); clear hb ho10))
  go_loopg [8] k (fun kq v8 w' => ∃ (x7_1 : List Bool) (x8_1 : List Int), Aside0 (steps_keys.l0 kq l0 t163 x7_1 x8_1 = some (r1, r2, r3)) ∧ Aside0 (kq ≤ k) ∧ Aside0 (Kd.R Kd.bool 4 w' w.heap.size (fun _ => True) v166 x7_1) ∧ Aside0 (Kd.R (Kd.int .i64) 3 w' w.heap.size (fun _ => True) v8 x8_1) ∧ Aside0 (Below w.heap.size w w'))
  case atStart => exact ⟨(y165), (y168), H', ⟨Nat.le_refl _⟩, ⟨kr HO167.out⟩, ⟨kr HO170.out⟩, ⟨bq⟩⟩
  case round =>
   clear H'
   clear c3b0 c3b1 c4b0 c4b1 c5b0 c5b1
   try clear c1
   try clear p2
   obtain ⟨x7_1, x8_1, HA, HK1, HO_7, HO_8, HB⟩ := hrel
   cases gk with
   | zero => exact absurd HA.out (by simp [steps_keys.l0])
   | succ k1 =>
    have H := HA.out
    clear HA
    simp only [steps_keys.l0] at H
    by_cases c11 : (x8_1.length : Int) > 0
    ·rw [if_pos c11] at H
     have c11b0 : decide (0 < (x8_1.length : Int)) = true := decide_eq_true c11
     have c11b1 : decide (0 < x8_1.length) = true := decide_eq_true (by omega)
     clear c11
     obtain ⟨ji12, hji12⟩ : ∃ j_ : Int, (wrap64 ((x8_1.length : Int) - 1)) = j_ := ⟨_, rfl⟩
     replace H : (if 0 ≤ (ji12) then (if (ji12) < (x8_1.length : Int) then (if (ji12) ≤ (x8_1.length : Int) then ((some (x8_1.take ((ji12) : Int).toNat : List Int)).bind fun y172 => (if 0 ≤ (rd x8_1 (ji12)) then (if (rd x8_1 (ji12)) < (x7_1.length : Int) then ((some (x7_1.set ((rd x8_1 (ji12)) : Int).toNat true : List Bool)).bind fun y175 => (if (rd x8_1 (ji12)) < (l0.length : Int) then (if ((rd_T34 l0 (rd x8_1 (ji12))).f4) ≥ 0 then ((some (([(rd_T34 l0 (rd x8_1 (ji12))).f4, (rd_T34 l0 (rd x8_1 (ji12))).f5] : List Int) : List Int)).bind fun y179 => (if y172.length + y179.length < 17592186044416 then (steps_keys.l0 k1 l0 t163 y175 (y172 ++ y179)) else (none))) else (steps_keys.l0 k1 l0 t163 y175 y172)) else (none))) else (none)) else (none))) else (none)) else (none)) else (none)) = some (r1, r2, r3) := by first | (rw [hji12] at H; exact H) | (simp only [hji12] at H ⊢; exact H)
     have hji12w : (IntKind.i64.wrap ((x8_1.length : Int) - 1)) = ji12 := (i64_w _).trans hji12
     obtain ⟨c13, H⟩ := gd H
     have c13b0 := decide_eq_true c13
     clear c13
     obtain ⟨c14, H⟩ := gd H
     have c14b0 := decide_eq_true c14
     clear c14
     obtain ⟨c15, H⟩ := gd H
     have c15b0 := eq_true c15
     have c15b1 := decide_eq_true c15
     clear c15
     obtain ⟨y172, hy172⟩ : ∃ y_ : List Int, y_ = (x8_1.take ((ji12) : Int).toNat) := ⟨_, rfl⟩
     replace H : (if 0 ≤ (rd x8_1 (ji12)) then (if (rd x8_1 (ji12)) < (x7_1.length : Int) then ((some (x7_1.set ((rd x8_1 (ji12)) : Int).toNat true : List Bool)).bind fun y175 => (if (rd x8_1 (ji12)) < (l0.length : Int) then (if ((rd_T34 l0 (rd x8_1 (ji12))).f4) ≥ 0 then ((some (([(rd_T34 l0 (rd x8_1 (ji12))).f4, (rd_T34 l0 (rd x8_1 (ji12))).f5] : List Int) : List Int)).bind fun y179 => (if y172.length + y179.length < 17592186044416 then (steps_keys.l0 k1 l0 t163 y175 (y172 ++ y179)) else (none))) else (steps_keys.l0 k1 l0 t163 y175 y172)) else (none))) else (none)) else (none)) = some (r1, r2, r3) := by first | (rw [hy172]; with_reducible exact H) | (have H2_ := (Option.bind_some _ _).symm.trans H; rw [hy172]; with_reducible exact H2_) | (have H2_ := (Option.bind_some _ _).symm.trans H; with_reducible exact H2_) | with_reducible exact H | (rw [hy172]; exact H) | exact H
     have Ny172 := Am hy172
     clear hy172
     obtain ⟨c16, H⟩ := gd H
     have c16b0 := decide_eq_true c16
     clear c16
     obtain ⟨c17, H⟩ := gd H
     have c17b0 := decide_eq_true c17
     clear c17
     obtain ⟨y175, hy175⟩ : ∃ y_ : List Bool, y_ = (x7_1.set ((rd x8_1 (ji12)) : Int).toNat true) := ⟨_, rfl⟩
     replace H : (if (rd x8_1 (ji12)) < (l0.length : Int) then (if ((rd_T34 l0 (rd x8_1 (ji12))).f4) ≥ 0 then ((some (([(rd_T34 l0 (rd x8_1 (ji12))).f4, (rd_T34 l0 (rd x8_1 (ji12))).f5] : List Int) : List Int)).bind fun y179 => (if y172.length + y179.length < 17592186044416 then (steps_keys.l0 k1 l0 t163 y175 (y172 ++ y179)) else (none))) else (steps_keys.l0 k1 l0 t163 y175 y172)) else (none)) = some (r1, r2, r3) := by first | (rw [hy175]; with_reducible exact H) | (have H2_ := (Option.bind_some _ _).symm.trans H; rw [hy175]; with_reducible exact H2_) | (have H2_ := (Option.bind_some _ _).symm.trans H; with_reducible exact H2_) | with_reducible exact H | (rw [hy175]; exact H) | exact H
     have Ny175 := Am hy175
     clear hy175
     obtain ⟨c19, H⟩ := gd H
     have c19b0 := decide_eq_true c19
     clear c19
     by_cases c20 : ((rd_T34 l0 (rd x8_1 (ji12))).f4) ≥ 0
     ·rw [if_pos c20] at H
      have c20b0 : decide (0 ≤ ((rd_T34 l0 (rd x8_1 (ji12))).f4)) = true := decide_eq_true c20
      clear c20
      obtain ⟨y179, hy179⟩ : ∃ y_ : List Int, y_ = (([(rd_T34 l0 (rd x8_1 (ji12))).f4, (rd_T34 l0 (rd x8_1 (ji12))).f5] : List Int)) := ⟨_, rfl⟩
      replace H : (if y172.length + y179.length < 17592186044416 then (steps_keys.l0 k1 l0 t163 y175 (y172 ++ y179)) else (none)) = some (r1, r2, r3) := by first | (rw [hy179]; with_reducible exact H) | (have H2_ := (Option.bind_some _ _).symm.trans H; rw [hy179]; with_reducible exact H2_) | (have H2_ := (Option.bind_some _ _).symm.trans H; with_reducible exact H2_) | with_reducible exact H | (rw [hy179]; exact H) | exact H
      have Ny179 := Am hy179
      clear hy179
      obtain ⟨c21, H⟩ := gd H
      have LMc21 := Am c21
      clear c21
      obtain ⟨y182, hy182⟩ : ∃ y_ : List Int, y_ = (y172 ++ y179) := ⟨_, rfl⟩
      replace H : (steps_keys.l0 k1 l0 t163 y175 y182) = some (r1, r2, r3) := by first | (rw [hy182]; with_reducible exact H) | (have H2_ := (Option.bind_some _ _).symm.trans H; rw [hy182]; with_reducible exact H2_) | (have H2_ := (Option.bind_some _ _).symm.trans H; with_reducible exact H2_) | with_reducible exact H | (rw [hy182]; exact H) | exact H
      have Ny182 := Am hy182
      clear hy182
      have H' := Am H
      clear H
      obtain ⟨Ao22, co22, eo22⟩ := Kd.R_slice HO_8.out
      subst eo22
      have p171 : 0 ≤ ((ji12) : Int) := da
      have q171 : (ji12) < (x8_1.length : Int) := da
      obtain ⟨ad171, e171, hx171_0⟩ := Kd.at_int (Kd.R_reads' HO_8.out).2.2 (ji12) p171 q171
      cases e171
      replace p171 := eq_true p171
      replace q171 := eq_true q171
      have q23 : ((ji12) : Int) ≤ ((x8_1.length : Int) : Int) := da
      obtain ⟨i023, hi023, _, hsz23, _⟩ := info_parts info3
      have hcut23 := cut_to (P := Tryd.prog) 91 3 .i64 Tryd.underlying91 hi023 (some ad171) x8_1.length co22 (ji12) (da) q23 (Kd.R_reads' HO_8.out).2.1
      have hr23 := Kd.R_take (m := ((ji12) : Int).toNat) HO_8.out (by omega)
      have hy23 : y172.length = ((ji12) : Int).toNat := (by rw [Ny172.out, List.length_take]; omega)
      rw [← Ny172.out] at hr23
      rw [← hy23] at hr23 hcut23
      clear hy23 hi023 hsz23 HO_8
      have HO174 := Am hr23
      clear hr23
      replace q23 := eq_true q23
      have p18 : 0 ≤ ((rd x8_1 (ji12)) : Int) := da
      have q18 : ((rd x8_1 (ji12)) : Int) < ((x7_1.length : Int) : Int) := da
      obtain ⟨go18, co18, eo18, gb18, gl18, cl18, HG18⟩ := Kd.R_form HO_7.out (by omega)
      (first | cases eo18 | (injection eo18 with ea_ en_ ec_; (first | subst ea_ | (injection ea_ with ea_; subst ea_)); subst ec_; clear en_))
      have GB18 := Am gb18
      have GG18 := Am HG18
      clear gb18 gl18 HG18
      obtain ⟨hx18_0, hf18_0⟩ := Kd.R_celln false HO_7.out ((rd x8_1 (ji12)) : Int) p18 q18
      replace p18 := eq_true p18
      replace q18 := eq_true q18
      have HP24 := Kd.R_putg HO_7.out ((rd x8_1 (ji12)) : Int) true
      try go_wp2_with (first | ((with_reducible refine gate_store (t := 4) (p := 39) rfl ?_); refine store_event (t := 4) (p := 39) (v := ?vo_w25) (w1 := (wr.setCell ⟨go18, ((rd x8_1 (ji12)) : Int).toNat, none⟩ (.bool true))) ?hg ?ho ?hn ?hr ?_; (case ho => rfl); (case hg => rfl); (case hn => rfl); (case hr => first | (go_simp; done) | (go_simp; rfl)); intro w25 hw; have hg : wr.grownBy w25 (some go18) := (by rw [hw]; exact HP24.2); have hp_ : Kd.R Kd.bool 4 w25 w.heap.size (fun _ => True) (.slice (some ⟨go18, 0, none⟩) x7_1.length co18) y175 := (by rw [hw, Ny175.out]; exact HP24.1); clear HP24; have n0_ := Am (hp_); have n1_ := Am (Kd.R_over' (v := (.slice (some ⟨go18, 0, none⟩) x7_1.length co18)) (kr HO174.out) (Kd.R_typed HO_7.out) (by decide) hg); have n2_ := Am ((by rw [hw]; exact below_set (HB.out) GB18.out : Below w.heap.size w w25)); clear HO_7; clear HO174; clear HB; have HO_7 := n0_; have HO174 := n1_; have HB := n2_; clear n0_ n1_ n2_; clear hg hw hp_; obtain ⟨ad176, e176, hx176_0, hx176_1, hx176_2, hx176_3, hx176_4, hx176_5, p176, q176⟩ := t6d HB.out HR0.out (rd x8_1 (ji12)); cases e176))
      replace HO_7 := Am (Kd.R_drew HO_7.out)
      replace HO174 := Am (Kd.R_drew HO174.out)
      replace HB := Am (bd HB.out)
      have p177 : 0 ≤ ((rd x8_1 (ji12)) : Int) := da
      have q177 : (rd x8_1 (ji12)) < (l0.length : Int) := da
      obtain ⟨ad177, e177, hx177_0, hx177_1, hx177_2, hx177_3, hx177_4, hx177_5⟩ := at_T34 HR0.out (rd x8_1 (ji12)) p177 q177
      have hw177_5 := hx177_5
      have hw177_4 := hx177_4
      have hw177_3 := hx177_3
      have hw177_2 := hx177_2
      have hw177_1 := hx177_1
      have hw177_0 := hx177_0
      obtain rfl : ad176 = ad177 := (by injection e177)
      replace hx177_0 := (HB.out.cell (blt w _ hx177_0)).trans hx177_0
      replace hx177_1 := (HB.out.cell (blt w _ hx177_1)).trans hx177_1
      replace hx177_2 := (HB.out.cell (blt w _ hx177_2)).trans hx177_2
      replace hx177_3 := (HB.out.cell (blt w _ hx177_3)).trans hx177_3
      replace hx177_4 := (HB.out.cell (blt w _ hx177_4)).trans hx177_4
      replace hx177_5 := (HB.out.cell (blt w _ hx177_5)).trans hx177_5
      replace p177 := eq_true p177
      replace q177 := eq_true q177
      have p178 : 0 ≤ ((rd x8_1 (ji12)) : Int) := da
      have q178 : (rd x8_1 (ji12)) < (l0.length : Int) := da
      obtain ⟨ad178, e178, hx178_0, hx178_1, hx178_2, hx178_3, hx178_4, hx178_5⟩ := at_T34 HR0.out (rd x8_1 (ji12)) p178 q178
      have hw178_5 := hx178_5
      have hw178_4 := hx178_4
      have hw178_3 := hx178_3
      have hw178_2 := hx178_2
      have hw178_1 := hx178_1
      have hw178_0 := hx178_0
      obtain rfl : ad176 = ad178 := (by injection e178)
      replace hx178_0 := (HB.out.cell (blt w _ hx178_0)).trans hx178_0
      replace hx178_1 := (HB.out.cell (blt w _ hx178_1)).trans hx178_1
      replace hx178_2 := (HB.out.cell (blt w _ hx178_2)).trans hx178_2
      replace hx178_3 := (HB.out.cell (blt w _ hx178_3)).trans hx178_3
      replace hx178_4 := (HB.out.cell (blt w _ hx178_4)).trans hx178_4
      replace hx178_5 := (HB.out.cell (blt w _ hx178_5)).trans hx178_5
      replace p178 := eq_true p178
      replace q178 := eq_true q178
      refine sT 14 [] (S := fun w' => w'.cell? (ad176.add (((rd x8_1 (ji12))).toNat * 6)) = some (.int .i64 ((rd_T34 l0 (rd x8_1 (ji12))).f0)) ∧ w'.cell? ⟨(ad176.add (((rd x8_1 (ji12))).toNat * 6)).block, (ad176.add (((rd x8_1 (ji12))).toNat * 6)).off + 1, none⟩ = some (.int .i64 ((rd_T34 l0 (rd x8_1 (ji12))).f1)) ∧ w'.cell? ⟨(ad176.add (((rd x8_1 (ji12))).toNat * 6)).block, (ad176.add (((rd x8_1 (ji12))).toNat * 6)).off + 2, none⟩ = some (.int .i64 ((rd_T34 l0 (rd x8_1 (ji12))).f2)) ∧ w'.cell? ⟨(ad176.add (((rd x8_1 (ji12))).toNat * 6)).block, (ad176.add (((rd x8_1 (ji12))).toNat * 6)).off + 3, none⟩ = some (.int .i64 ((rd_T34 l0 (rd x8_1 (ji12))).f3)) ∧ w'.cell? ⟨(ad176.add (((rd x8_1 (ji12))).toNat * 6)).block, (ad176.add (((rd x8_1 (ji12))).toNat * 6)).off + 4, none⟩ = some (.int .i64 ((rd_T34 l0 (rd x8_1 (ji12))).f4)) ∧ w'.cell? ⟨(ad176.add (((rd x8_1 (ji12))).toNat * 6)).block, (ad176.add (((rd x8_1 (ji12))).toNat * 6)).off + 5, none⟩ = some (.int .i64 ((rd_T34 l0 (rd x8_1 (ji12))).f5)) ∧ w'.cell? (ad176.add (((rd x8_1 (ji12))).toNat * 6)) = some (.int .i64 ((rd_T34 l0 (rd x8_1 (ji12))).f0)) ∧ w'.cell? ⟨(ad176.add (((rd x8_1 (ji12))).toNat * 6)).block, (ad176.add (((rd x8_1 (ji12))).toNat * 6)).off + 1, none⟩ = some (.int .i64 ((rd_T34 l0 (rd x8_1 (ji12))).f1)) ∧ w'.cell? ⟨(ad176.add (((rd x8_1 (ji12))).toNat * 6)).block, (ad176.add (((rd x8_1 (ji12))).toNat * 6)).off + 2, none⟩ = some (.int .i64 ((rd_T34 l0 (rd x8_1 (ji12))).f2)) ∧ w'.cell? ⟨(ad176.add (((rd x8_1 (ji12))).toNat * 6)).block, (ad176.add (((rd x8_1 (ji12))).toNat * 6)).off + 3, none⟩ = some (.int .i64 ((rd_T34 l0 (rd x8_1 (ji12))).f3)) ∧ w'.cell? ⟨(ad176.add (((rd x8_1 (ji12))).toNat * 6)).block, (ad176.add (((rd x8_1 (ji12))).toNat * 6)).off + 4, none⟩ = some (.int .i64 ((rd_T34 l0 (rd x8_1 (ji12))).f4)) ∧ w'.cell? ⟨(ad176.add (((rd x8_1 (ji12))).toNat * 6)).block, (ad176.add (((rd x8_1 (ji12))).toNat * 6)).off + 5, none⟩ = some (.int .i64 ((rd_T34 l0 (rd x8_1 (ji12))).f5))) ⟨((HB.out.cell (blt w _ hw177_0)).trans hw177_0), ((HB.out.cell (blt w _ hw177_1)).trans hw177_1), ((HB.out.cell (blt w _ hw177_2)).trans hw177_2), ((HB.out.cell (blt w _ hw177_3)).trans hw177_3), ((HB.out.cell (blt w _ hw177_4)).trans hw177_4), ((HB.out.cell (blt w _ hw177_5)).trans hw177_5), ((HB.out.cell (blt w _ hw178_0)).trans hw178_0), ((HB.out.cell (blt w _ hw178_1)).trans hw178_1), ((HB.out.cell (blt w _ hw178_2)).trans hw178_2), ((HB.out.cell (blt w _ hw178_3)).trans hw178_3), ((HB.out.cell (blt w _ hw178_4)).trans hw178_4), ((HB.out.cell (blt w _ hw178_5)).trans hw178_5)⟩ fun hHeld => ?_; refine with_tabW steps_keys.tab11 steps_keys.bits11 (fun HT_ HW_ => ?_)
      generalize w25.drew = w26 at HO_7 HO174 HB hx177_0 hx177_1 hx177_2 hx177_3 hx177_4 hx177_5 hx178_0 hx178_1 hx178_2 hx178_3 hx178_4 hx178_5 hHeld ⊢
      refine puT HT_.out 0 46 ?_
      refine puT HT_.out 1 47 ?_
      refine puT HT_.out 2 48 ?_
      refine puT HT_.out 3 49 ?_
      refine puT HT_.out 4 50 ?_
      refine puT HT_.out 6 52 ?_
      refine puT HT_.out 7 53 ?_
      refine puT HT_.out 8 54 ?_
      refine puT HT_.out 9 55 ?_
      refine taT HT_.out HW_.out 5 51 hHeld ?_
      refine taT HT_.out HW_.out 10 56 hHeld ?_
      refine onT HT_.out 11 57 fun K hK => ?_
      refine Kd.R_lit_step (Kd.int .i64) _ 3 ?hg (N := 57) ?hd (xs := ([(rd_T34 l0 (rd x8_1 (ji12))).f4, (rd_T34 l0 (rd x8_1 (ji12))).f5] : List Int)) (inner := [.int .i64 ((rd_T34 l0 (rd x8_1 (ji12))).f4), .int .i64 ((rd_T34 l0 (rd x8_1 (ji12))).f5)]) (ok := fun _ => True) (okp := fun _ => True) ?hr ?hp (fun _ hk => hk) trivial (Below.refl _ _) (Nat.le_refl _) (by simp) ?_; (case hd => rfl); (case hg => rfl); (case hr => first | (go_simp; done) | (go_simp; rfl)); (case hp => exact (Reps.one (show Kd.M (Kd.int .i64) _ _ _ ((rd_T34 l0 (rd x8_1 (ji12))).f4) [.int .i64 ((rd_T34 l0 (rd x8_1 (ji12))).f4)] from rfl) (Reps.one (show Kd.M (Kd.int .i64) _ _ _ ((rd_T34 l0 (rd x8_1 (ji12))).f5) [.int .i64 ((rd_T34 l0 (rd x8_1 (ji12))).f5)] from rfl) (Reps.none _ _))))
      intro v180 w27 ho28 hb hg_ hnew_
      clear hg_ hnew_
      (first | rw [← Ny179.out] at ho28 | (simp only [Int.reduceToNat] at ho28; rw [← Ny179.out] at ho28))
      have n0_ := Am (Kd.R_below (kr HO_7.out) hb)
      have n1_ := Am (Kd.R_elder' (kr HO174.out) (Kd.R_base ho28) hb)
      have n2_ := Am (Kd.R_lower (Kd.R_new' ho28 (Kd.R_lt (kr HO174.out))) (below_size bq))
      have n3_ := Am (below_step bq hb)
      clear HO_7
      clear HO174
      clear HB
      have HO_7 := n0_
      have HO174 := n1_
      have HO181 := n2_
      have HB := n3_
      clear n0_ n1_ n2_ n3_
      clear hb ho28
      obtain ⟨Ao30, co30, eo30⟩ := Kd.R_slice HO181.out
      (first | subst eo30 | (injection eo30 with f1_ f2_ f3_; have f4_ := f1_.symm; have f5_ := f3_.symm; clear f1_ f2_ f3_; subst f4_; subst f5_))
      refine hK.out _ _ ⟨((HB.out.cell (blt w _ hw177_0)).trans hw177_0), ((HB.out.cell (blt w _ hw177_1)).trans hw177_1), ((HB.out.cell (blt w _ hw177_2)).trans hw177_2), ((HB.out.cell (blt w _ hw177_3)).trans hw177_3), ((HB.out.cell (blt w _ hw177_4)).trans hw177_4), ((HB.out.cell (blt w _ hw177_5)).trans hw177_5), ((HB.out.cell (blt w _ hw178_0)).trans hw178_0), ((HB.out.cell (blt w _ hw178_1)).trans hw178_1), ((HB.out.cell (blt w _ hw178_2)).trans hw178_2), ((HB.out.cell (blt w _ hw178_3)).trans hw178_3), ((HB.out.cell (blt w _ hw178_4)).trans hw178_4), ((HB.out.cell (blt w _ hw178_5)).trans hw178_5)⟩ (fun hHeld => ?_)
      clear hK K
      refine nm 57 ?_
      refine onT HT_.out 12 58 fun K hK => ?_
      refine Kd.R_append_rows_step (Kd.int .i64) (w0 := w) w.heap.size (by rfl) (.tmp 46) (.tmp 57) 91 3 (.int .i64 0) 8 rfl Tryd.underlying91 info3 rfl (by decide) (by omega) (.slice (some ad171) y172.length co22) y172 y179 _ _ _ (fun k_ => some k_ ≠ (.slice Ao30 y179.length co30 : Value).ownBlock) (fun _ => False) rfl rfl ?aO ?aR (fun _ _ h => h) (fun _ h => h.elim) ?aF ?aB ?aS ?aL ?_
      (case aR => repeat (first | exact (Kd.R_reads' HO181.out).2.2 | (with_reducible refine Kd.C_alloc ?_ _) | (with_reducible refine Kd.C_drewN ?_ _) | (with_reducible refine Kd.C_drew ?_)))
      (case aB => exact bq)
      (case aF => exact (fun k_ hk => Kd.fresh' (Kd.R_lt (kr HO181.out)) k_ hk))
      (case aO => exact (by (with_reducible repeat (first | apply Kd.R_alloc | apply Kd.R_drewN | apply Kd.R_drew)); exact Kd.R_mono HO174.out (fun _ hk => hk.2)))
      (case aS => exact (below_size bq))
      (case aL => have := LMc21.out; omega)
      intro v183 w29 ho hb hg hat
      rw [← Ny182.out] at ho
      have n0_ := Am (Kd.R_over' (kr HO_7.out) (Kd.R_typed (kr HO174.out)) (by decide) hg)
      have n1_ := Am (Kd.R_after (ok := (fun _ => True)) (kr HO181.out) hg hat)
      have n2_ := Am (hb)
      have n3_ := Am (ho)
      clear HO_7
      clear HO181
      clear HB
      clear HO174
      have HO_7 := n0_
      have HO181 := n1_
      have HB := n2_
      have HO184 := n3_
      clear n0_ n1_ n2_ n3_
      clear ho hb hg hat
      refine hK.out _ _ ⟨((HB.out.cell (blt w _ hw177_0)).trans hw177_0), ((HB.out.cell (blt w _ hw177_1)).trans hw177_1), ((HB.out.cell (blt w _ hw177_2)).trans hw177_2), ((HB.out.cell (blt w _ hw177_3)).trans hw177_3), ((HB.out.cell (blt w _ hw177_4)).trans hw177_4), ((HB.out.cell (blt w _ hw177_5)).trans hw177_5), ((HB.out.cell (blt w _ hw178_0)).trans hw178_0), ((HB.out.cell (blt w _ hw178_1)).trans hw178_1), ((HB.out.cell (blt w _ hw178_2)).trans hw178_2), ((HB.out.cell (blt w _ hw178_3)).trans hw178_3), ((HB.out.cell (blt w _ hw178_4)).trans hw178_4), ((HB.out.cell (blt w _ hw178_5)).trans hw178_5)⟩ (fun hHeld => ?_)
      clear hK K
      refine nm 58 ?_
      refine puT HT_.out 13 8 ?_
      refine done_ (done_of HT_.out (by kernel_rfl)) ?_
      try go_wp2
      go_roundg k1
      case measure => have := HK1.out; omega
      case rel => exact ⟨(y175), (y182), H', ⟨by have := HK1.out; omega⟩, ⟨kr HO_7.out⟩, ⟨by (with_reducible repeat (first | apply Kd.R_alloc | apply Kd.R_drewN | apply Kd.R_drew)); exact Kd.R_mono HO184.out (fun _ hk => trivial)⟩, ⟨bq⟩⟩
     ·rw [if_neg c20] at H
      have c20b0 : decide (0 ≤ ((rd_T34 l0 (rd x8_1 (ji12))).f4)) = false := decide_eq_false c20
      clear c20
      have H' := Am H
      clear H
      obtain ⟨Ao31, co31, eo31⟩ := Kd.R_slice HO_8.out
      subst eo31
      have p171 : 0 ≤ ((ji12) : Int) := da
      have q171 : (ji12) < (x8_1.length : Int) := da
      obtain ⟨ad171, e171, hx171_0⟩ := Kd.at_int (Kd.R_reads' HO_8.out).2.2 (ji12) p171 q171
      cases e171
      replace p171 := eq_true p171
      replace q171 := eq_true q171
      have q32 : ((ji12) : Int) ≤ ((x8_1.length : Int) : Int) := da
      obtain ⟨i032, hi032, _, hsz32, _⟩ := info_parts info3
      have hcut32 := cut_to (P := Tryd.prog) 91 3 .i64 Tryd.underlying91 hi032 (some ad171) x8_1.length co31 (ji12) (da) q32 (Kd.R_reads' HO_8.out).2.1
      have hr32 := Kd.R_take (m := ((ji12) : Int).toNat) HO_8.out (by omega)
      have hy32 : y172.length = ((ji12) : Int).toNat := (by rw [Ny172.out, List.length_take]; omega)
      rw [← Ny172.out] at hr32
      rw [← hy32] at hr32 hcut32
      clear hy32 hi032 hsz32 HO_8
      have HO174 := Am hr32
      clear hr32
      replace q32 := eq_true q32
      have p18 : 0 ≤ ((rd x8_1 (ji12)) : Int) := da
      have q18 : ((rd x8_1 (ji12)) : Int) < ((x7_1.length : Int) : Int) := da
      obtain ⟨go18, co18, eo18, gb18, gl18, cl18, HG18⟩ := Kd.R_form HO_7.out (by omega)
      (first | cases eo18 | (injection eo18 with ea_ en_ ec_; (first | subst ea_ | (injection ea_ with ea_; subst ea_)); subst ec_; clear en_))
      have GB18 := Am gb18
      have GG18 := Am HG18
      clear gb18 gl18 HG18
      obtain ⟨hx18_0, hf18_0⟩ := Kd.R_celln false HO_7.out ((rd x8_1 (ji12)) : Int) p18 q18
      replace p18 := eq_true p18
      replace q18 := eq_true q18
      have HP33 := Kd.R_putg HO_7.out ((rd x8_1 (ji12)) : Int) true
      go_wp2_with (first | ((with_reducible refine gate_store (t := 4) (p := 39) rfl ?_); refine store_event (t := 4) (p := 39) (v := ?vo_w34) (w1 := (wr.setCell ⟨go18, ((rd x8_1 (ji12)) : Int).toNat, none⟩ (.bool true))) ?hg ?ho ?hn ?hr ?_; (case ho => rfl); (case hg => rfl); (case hn => rfl); (case hr => first | (go_simp; done) | (go_simp; rfl)); intro w34 hw; have hg : wr.grownBy w34 (some go18) := (by rw [hw]; exact HP33.2); have hp_ : Kd.R Kd.bool 4 w34 w.heap.size (fun _ => True) (.slice (some ⟨go18, 0, none⟩) x7_1.length co18) y175 := (by rw [hw, Ny175.out]; exact HP33.1); clear HP33; have n0_ := Am (hp_); have n1_ := Am (Kd.R_over' (v := (.slice (some ⟨go18, 0, none⟩) x7_1.length co18)) (kr HO174.out) (Kd.R_typed HO_7.out) (by decide) hg); have n2_ := Am ((by rw [hw]; exact below_set (HB.out) GB18.out : Below w.heap.size w w34)); clear HO_7; clear HO174; clear HB; have HO_7 := n0_; have HO174 := n1_; have HB := n2_; clear n0_ n1_ n2_; clear hg hw hp_; obtain ⟨ad176, e176, hx176_0, hx176_1, hx176_2, hx176_3, hx176_4, hx176_5, p176, q176⟩ := t6d HB.out HR0.out (rd x8_1 (ji12)); cases e176))
      go_roundg k1
      case measure => have := HK1.out; omega
      case rel => exact ⟨(y175), (y172), H', ⟨by have := HK1.out; omega⟩, ⟨kr HO_7.out⟩, ⟨kr HO174.out⟩, ⟨bq⟩⟩
    ·rw [if_neg c11] at H
     have c11b0 : decide (0 < (x8_1.length : Int)) = false := decide_eq_false c11
     have c11b1 : decide (0 < x8_1.length) = false := decide_eq_false (by omega)
     clear c11
     simp only [Option.some.injEq, Prod.mk.injEq] at H
     obtain ⟨rfl, rfl, rfl⟩ := H
     obtain ⟨Ao35, co35, eo35⟩ := Kd.R_slice HO_8.out
     subst eo35
     go_wp2
     go_ret3
     exact ⟨_, er, kr HO_7.out, bq⟩
 ·rw [if_neg c3] at H
  obtain ⟨c3b0, c3b1⟩ := ne2 c3
  simp only [Option.some.injEq, Prod.mk.injEq] at H
  obtain ⟨rfl, rfl, rfl⟩ := H
  go_enter Tryd.func30, Tryd.ntmps30
  go_wp2_with (first | ((with_reducible refine gc 44 rfl ?_); refine goesL_ (some 12) rfl rfl Tryd.func44 (by kernel_rfl) rfl #[.slice A0 l0.length c0] rfl ar ?_; (with_reducible refine (table_Root.calls k _ _ l0 t163 t164 _ ?side1 ?side2 A2.out).mono ?_); (case side1 => exact kc HR0.out); (case side2 => exact HC0.out); rintro e w36 ⟨rfl, hb⟩; refine ⟨_, rfl, ?_⟩; replace HB := Am (below_step bq hb); (try clear hb)))
  go_ret3
  exact ⟨_, er, by first | exact Kd.R_nil _ _ _ _ _ | exact Kd.N_nil _ _ _ _ _ | exact Kd.V_nil _ _ _ _ _ | exact Kd.Q_nil _ _ _ _ _ | exact Kd.S_nil _ _ _ _ _, bq⟩
def steps_alone.f (a0 : Int) : Option (Bool) := if a0 = 1 then (some true) else (if a0 = 11 then (some true) else (some (a0 == 12)))
theorem steps_alone.calls (a0 : Int) (r : Bool) (w : World) (h : steps_alone.f a0 = some r) :
  Calls Tryd.prog 22 #[.int .i64 a0] w fun e w' => e = .returned (.bool r) ∧ Drawn0 w w' := by
 have H : (if a0 = 1 then (some true) else (if a0 = 11 then (some true) else (some (a0 == 12)))) = some r := h
 clear h
 by_cases c2 : a0 = 1
 ·rw [if_pos c2] at H
  obtain ⟨c2b0, c2b1⟩ := eq2 c2
  clear c2
  obtain rfl := Option.some.inj H
  go_enter Tryd.func22, Tryd.ntmps22
  go_wp2
  go_ret
  exact ⟨by first | rfl | (simp; done) | (simp [*]; done), by repeat (first | exact Drawn0.refl _ | apply Drawn0.step)⟩
 ·rw [if_neg c2] at H
  obtain ⟨c2b0, c2b1⟩ := ne2 c2
  by_cases c3 : a0 = 11
  ·rw [if_pos c3] at H
   obtain ⟨c3b0, c3b1⟩ := eq2 c3
   clear c3
   obtain rfl := Option.some.inj H
   go_enter Tryd.func22, Tryd.ntmps22
   go_wp2
   go_ret
   exact ⟨by first | rfl | (simp; done) | (simp [*]; done), by repeat (first | exact Drawn0.refl _ | apply Drawn0.step)⟩
  ·rw [if_neg c3] at H
   obtain ⟨c3b0, c3b1⟩ := ne2 c3
   obtain rfl := Option.some.inj H
   go_enter Tryd.func22, Tryd.ntmps22
   go_wp2
   go_ret
   exact ⟨by first | rfl | (simp; done) | (simp [*]; done), by repeat (first | exact Drawn0.refl _ | apply Drawn0.step)⟩
def steps_Move_is.f (a0_0 : Int) (a0_1 : Bool) : Option (Bool) := if a0_0 ≥ 1 then (if a0_0 ≤ 12 then (if a0_1 = true then ((steps_alone.f a0_0).bind fun t186 => (some (!t186))) else (some (!false))) else (some false)) else (some false)
theorem steps_Move_is.calls (a0_0 : Int) (a0_1 : Bool) (r : Bool) (w : World) (h : steps_Move_is.f a0_0 a0_1 = some r) :
  Calls Tryd.prog 20 #[.agg #[.int .i64 a0_0, .bool a0_1]] w (RB w (.bool r)) := by
 have hu62 := Tryd.underlying32
 have HB := Am (Below.refl w.heap.size w)
 have H : (if a0_0 ≥ 1 then (if a0_0 ≤ 12 then (if a0_1 = true then ((steps_alone.f a0_0).bind fun t186 => (some (!t186))) else (some (!false))) else (some false)) else (some false)) = some r := h
 clear h
 by_cases c2 : a0_0 ≥ 1
 ·rw [if_pos c2] at H
  have c2b0 : decide (1 ≤ a0_0) = true := decide_eq_true c2
  clear c2
  by_cases c3 : a0_0 ≤ 12
  ·rw [if_pos c3] at H
   have c3b0 := decide_eq_true c3
   clear c3
   by_cases c4 : a0_1 = true
   ·subst c4
    rw [if_pos rfl] at H
    obtain ⟨t186, A5, H⟩ := bo H
    obtain rfl := Option.some.inj H
    go_enter Tryd.func20, Tryd.ntmps20
    go_wp2_with (first | ((with_reducible refine gs 1 rfl ?_); refine bE 1 (cs := #[.int .i64 a0_0, .bool true]) (t := 32) ?_; intro gb185 hg w6 hbox hb; obtain ⟨n0_, BK185, GW185, GE185⟩ := bx hg hbox hb; clear HB; have HB := n0_; clear n0_ hb hbox hg; obtain ⟨z7_0, z7_1, f7_0, f7_1⟩ := cf2 BK185.out) | (go_at_call 22; (with_reducible refine (steps_alone.calls a0_0 t186 _ A5.out).mono ?_); rintro e w' ⟨rfl, ⟨nd, rfl⟩⟩))
    go_ret
    exact ⟨er, bs⟩
   ·replace c4 := Bool.eq_false_iff.mpr c4
    subst c4
    rw [if_neg nf] at H
    obtain rfl := Option.some.inj H
    go_enter Tryd.func20, Tryd.ntmps20
    go_wp2_with (first | ((with_reducible refine gs 1 rfl ?_); refine bE 1 (cs := #[.int .i64 a0_0, .bool false]) (t := 32) ?_; intro gb185 hg w8 hbox hb; obtain ⟨n0_, BK185, GW185, GE185⟩ := bx hg hbox hb; clear HB; have HB := n0_; clear n0_ hb hbox hg; obtain ⟨z9_0, z9_1, f9_0, f9_1⟩ := cf2 BK185.out))
    go_ret
    exact ⟨er, bs⟩
  ·rw [if_neg c3] at H
   have c3b0 := decide_eq_false c3
   clear c3
   obtain rfl := Option.some.inj H
   go_enter Tryd.func20, Tryd.ntmps20
   go_wp2_with (first | ((with_reducible refine gs 1 rfl ?_); refine bE 1 (cs := #[.int .i64 a0_0, .bool a0_1]) (t := 32) ?_; intro gb185 hg w10 hbox hb; obtain ⟨n0_, BK185, GW185, GE185⟩ := bx hg hbox hb; clear HB; have HB := n0_; clear n0_ hb hbox hg; obtain ⟨z11_0, z11_1, f11_0, f11_1⟩ := cf2 BK185.out))
   go_ret
   exact ⟨er, bs⟩
 ·rw [if_neg c2] at H
  have c2b0 : decide (1 ≤ a0_0) = false := decide_eq_false c2
  clear c2
  obtain rfl := Option.some.inj H
  go_enter Tryd.func20, Tryd.ntmps20
  go_wp2_with (first | ((with_reducible refine gs 1 rfl ?_); refine bE 1 (cs := #[.int .i64 a0_0, .bool a0_1]) (t := 32) ?_; intro gb185 hg w12 hbox hb; obtain ⟨n0_, BK185, GW185, GE185⟩ := bx hg hbox hb; clear HB; have HB := n0_; clear n0_ hb hbox hg; obtain ⟨z13_0, z13_1, f13_0, f13_1⟩ := cf2 BK185.out))
  go_ret
  exact ⟨er, bs⟩
end
def AtPost (w : World) (t : List S34) (root : Int) (e : Ending) (w' : World) : Prop :=
 ∃ wg : World, e = .returned (.tuple #[.slice (some ⟨wg.heap.size, 0, none⟩) t.length t.length, .int .i64 root, .int .i64 0]) ∧ Below w.heap.size w wg ∧ Forest wg w' t t.length t.length
theorem at_fin (w : World) (t : List S34) (root : Int) : ∀ wg w', Below w.heap.size w wg → Forest wg w' t t.length t.length → AtPost w t root (.returned (.tuple #[.slice (some ⟨wg.heap.size, 0, none⟩) t.length t.length, .int .i64 root, .int .i64 0])) w' := fun wg _ h1 h2 => ⟨wg, rfl, h1, h2⟩
theorem at_err1 (k : Nat) (A0 : Option Addr) (c0 : Nat) (l0 : List S34) (a1 kind : Int) (mir asked : Bool) (r1 : Int) (r2 : List Bool) (r3 : Int) (w : World) (hr0 : Kd.C k34 w A0 l0.length l0) (hc0 : l0.length ≤ c0)
  (h : steps_keys.f k l0 = some (r1, r2, r3)) (h3 : r3 ≠ 0) :
  Calls Tryd.prog 23 #[.slice A0 l0.length c0, .int .i64 a1, .agg #[.int .i64 kind, .bool mir], .bool asked] w (RB w (.tuple #[.slice none 0 0, .int .i64 0, .int .i64 r3])) := by
 have hu62 := Tryd.underlying32
 have HR := Am hr0
 have HC := Am hc0
 have H := Am h
 have d3 : (r3 != 0) = true := bne_iff_ne.mpr h3
 clear hr0 hc0 h h3
 go_enter Tryd.func23, Tryd.ntmps23
 go_wp2_with (fail)
 refine (steps_keys.calls k A0 c0 l0 r1 r2 r3 _ (Kd.C_below HR.out ((Below.refl _ _).alloc (Nat.le_refl _) _)) HC.out H.out).mono ?_
 rintro e w' ⟨v1, rfl, h1, h2⟩
 obtain ⟨Av, cv, rfl⟩ := Kd.R_slice h1
 have hb : Below w.heap.size w w' := ((Below.refl _ _).alloc (Nat.le_refl _) _).trans (h2.mono (by simp))
 have HB := Am hb
 clear h1 h2 hb
 go_wp2
 go_ret3
 exact ⟨rfl, HB.out⟩
theorem at_err2 (k : Nat) (A0 : Option Addr) (c0 : Nat) (l0 : List S34) (a1 kind : Int) (mir : Bool) (r1 : Int) (r2 : List Bool) (w : World) (hr0 : Kd.C k34 w A0 l0.length l0) (hc0 : l0.length ≤ c0)
  (h : steps_keys.f k l0 = some (r1, r2, 0)) (hm : steps_Move_is.f kind mir = some false) :
  Calls Tryd.prog 23 #[.slice A0 l0.length c0, .int .i64 a1, .agg #[.int .i64 kind, .bool mir], .bool true] w (RB w (.tuple #[.slice none 0 0, .int .i64 0, .int .i64 5])) := by
 have hu62 := Tryd.underlying32
 have HR := Am hr0
 have HC := Am hc0
 have H := Am h
 have HM := Am hm
 clear hr0 hc0 h hm
 go_enter Tryd.func23, Tryd.ntmps23
 go_wp2_with (fail)
 refine (steps_keys.calls k A0 c0 l0 r1 r2 0 _ (Kd.C_below HR.out ((Below.refl _ _).alloc (Nat.le_refl _) _)) HC.out H.out).mono ?_
 rintro e w' ⟨v1, rfl, h1, h2⟩
 obtain ⟨Av, cv, rfl⟩ := Kd.R_slice h1
 have hc6 : w'.cell? ⟨w.heap.size, 0, none⟩ = some (.int .i64 kind) := (h2.cell (p := ⟨w.heap.size, 0, none⟩) (by simp)).trans (World.cell?_alloc_at _ _ _ _ rfl)
 have hc7 : w'.cell? ⟨w.heap.size, 1, none⟩ = some (.bool mir) := (h2.cell (p := ⟨w.heap.size, 1, none⟩) (by simp)).trans (World.cell?_alloc_at _ _ _ _ rfl)
 have hb : Below w.heap.size w w' := ((Below.refl _ _).alloc (Nat.le_refl _) _).trans (h2.mono (by simp))
 have HB := Am hb
 clear h1 h2 hb
 go_wp2_with (fail)
 refine (steps_Move_is.calls kind mir false _ HM.out).mono ?_
 rintro e w2 ⟨rfl, h2⟩
 have HB2 := Am (HB.out.trans (h2.mono HB.out.size))
 clear h2
 go_wp2
 go_ret3
 exact ⟨rfl, HB2.out⟩
theorem at_err3t (k : Nat) (A0 : Option Addr) (c0 : Nat) (l0 : List S34) (a1 kind : Int) (mir : Bool) (r1 : Int) (r2 : List Bool) (w : World) (hr0 : Kd.C k34 w A0 l0.length l0) (hc0 : l0.length ≤ c0)
  (h : steps_keys.f k l0 = some (r1, r2, 0)) (hm : true = true → steps_Move_is.f kind mir = some true) (hp : a1 < 0 ∨ (l0.length : Int) ≤ a1) :
  Calls Tryd.prog 23 #[.slice A0 l0.length c0, .int .i64 a1, .agg #[.int .i64 kind, .bool mir], .bool true] w (RB w (.tuple #[.slice none 0 0, .int .i64 0, .int .i64 1])) := by
 have hu62 := Tryd.underlying32
 have HR := Am hr0
 have HC := Am hc0
 have H := Am h
 have HM := Am hm
 clear hr0 hc0 h hm
 by_cases hneg : a1 < 0
 ·have d0 : decide (a1 < 0) = true := decide_eq_true hneg
  clear hp hneg
  go_enter Tryd.func23, Tryd.ntmps23
  go_wp2_with (fail)
  refine (steps_keys.calls k A0 c0 l0 r1 r2 0 _ (Kd.C_below HR.out ((Below.refl _ _).alloc (Nat.le_refl _) _)) HC.out H.out).mono ?_
  rintro e w1 ⟨v1, rfl, h1, h2⟩
  obtain ⟨Av, cv, rfl⟩ := Kd.R_slice h1
  have hb : Below w.heap.size w w1 := ((Below.refl _ _).alloc (Nat.le_refl _) _).trans (h2.mono (by simp))
  have HB := Am hb
  have HV := Am h1
  have hc6 : w1.cell? ⟨w.heap.size, 0, none⟩ = some (.int .i64 kind) := (h2.cell (p := ⟨w.heap.size, 0, none⟩) (by simp)).trans (World.cell?_alloc_at _ _ _ _ rfl)
  have hc7 : w1.cell? ⟨w.heap.size, 1, none⟩ = some (.bool mir) := (h2.cell (p := ⟨w.heap.size, 1, none⟩) (by simp)).trans (World.cell?_alloc_at _ _ _ _ rfl)
  clear h1 h2 hb
  go_wp2_with (fail)
  refine (steps_Move_is.calls kind mir true _ (HM.out (by first | trivial | rfl))).mono ?_
  rintro e w2 ⟨rfl, h2⟩
  have HV2 := Am (Kd.R_below HV.out h2)
  have HB2 := Am (HB.out.trans (h2.mono HB.out.size))
  clear h2 HV HB
  go_wp2
  go_ret3
  exact ⟨rfl, HB2.out⟩
 ·have d0 : decide (a1 < 0) = false := decide_eq_false hneg
  have d1 : decide ((l0.length : Int) ≤ a1) = true := decide_eq_true (by omega)
  clear hp hneg
  go_enter Tryd.func23, Tryd.ntmps23
  go_wp2_with (fail)
  refine (steps_keys.calls k A0 c0 l0 r1 r2 0 _ (Kd.C_below HR.out ((Below.refl _ _).alloc (Nat.le_refl _) _)) HC.out H.out).mono ?_
  rintro e w1 ⟨v1, rfl, h1, h2⟩
  obtain ⟨Av, cv, rfl⟩ := Kd.R_slice h1
  have hb : Below w.heap.size w w1 := ((Below.refl _ _).alloc (Nat.le_refl _) _).trans (h2.mono (by simp))
  have HB := Am hb
  have HV := Am h1
  have hc6 : w1.cell? ⟨w.heap.size, 0, none⟩ = some (.int .i64 kind) := (h2.cell (p := ⟨w.heap.size, 0, none⟩) (by simp)).trans (World.cell?_alloc_at _ _ _ _ rfl)
  have hc7 : w1.cell? ⟨w.heap.size, 1, none⟩ = some (.bool mir) := (h2.cell (p := ⟨w.heap.size, 1, none⟩) (by simp)).trans (World.cell?_alloc_at _ _ _ _ rfl)
  clear h1 h2 hb
  go_wp2_with (fail)
  refine (steps_Move_is.calls kind mir true _ (HM.out (by first | trivial | rfl))).mono ?_
  rintro e w2 ⟨rfl, h2⟩
  have HV2 := Am (Kd.R_below HV.out h2)
  have HB2 := Am (HB.out.trans (h2.mono HB.out.size))
  clear h2 HV HB
  go_wp2
  go_ret3
  exact ⟨rfl, HB2.out⟩
theorem at_err4t (k : Nat) (A0 : Option Addr) (c0 : Nat) (l0 : List S34) (a1 kind : Int) (mir : Bool) (r1 : Int) (r2 : List Bool) (w : World) (hr0 : Kd.C k34 w A0 l0.length l0) (hc0 : l0.length ≤ c0)
  (h : steps_keys.f k l0 = some (r1, r2, 0)) (hm : true = true → steps_Move_is.f kind mir = some true) (hp0 : 0 ≤ a1) (hp1 : a1 < l0.length) (hp2 : a1 < r2.length) (hbel : rdOf false r2 a1 = false) :
  Calls Tryd.prog 23 #[.slice A0 l0.length c0, .int .i64 a1, .agg #[.int .i64 kind, .bool mir], .bool true] w (RB w (.tuple #[.slice none 0 0, .int .i64 0, .int .i64 1])) := by
 have hu62 := Tryd.underlying32
 have HR := Am hr0
 have HC := Am hc0
 have H := Am h
 have HM := Am hm
 clear hr0 hc0 h hm
 have d0 : decide (a1 < 0) = false := decide_eq_false (by omega)
 have d1 : decide ((l0.length : Int) ≤ a1) = false := decide_eq_false (by omega)
 go_enter Tryd.func23, Tryd.ntmps23
 go_wp2_with (fail)
 refine (steps_keys.calls k A0 c0 l0 r1 r2 0 _ (Kd.C_below HR.out ((Below.refl _ _).alloc (Nat.le_refl _) _)) HC.out H.out).mono ?_
 rintro e w1 ⟨v1, rfl, h1, h2⟩
 obtain ⟨Av, cv, rfl⟩ := Kd.R_slice h1
 have hb : Below w.heap.size w w1 := ((Below.refl _ _).alloc (Nat.le_refl _) _).trans (h2.mono (by simp))
 have HB := Am hb
 have HV := Am h1
 have hc6 : w1.cell? ⟨w.heap.size, 0, none⟩ = some (.int .i64 kind) := (h2.cell (p := ⟨w.heap.size, 0, none⟩) (by simp)).trans (World.cell?_alloc_at _ _ _ _ rfl)
 have hc7 : w1.cell? ⟨w.heap.size, 1, none⟩ = some (.bool mir) := (h2.cell (p := ⟨w.heap.size, 1, none⟩) (by simp)).trans (World.cell?_alloc_at _ _ _ _ rfl)
 clear h1 h2 hb
 go_wp2_with (fail)
 refine (steps_Move_is.calls kind mir true _ (HM.out (by first | trivial | rfl))).mono ?_
 rintro e w2 ⟨rfl, h2⟩
 have HV2 := Am (Kd.R_below HV.out h2)
 have HB2 := Am (HB.out.trans (h2.mono HB.out.size))
 clear h2 HV HB
 obtain ⟨adB, eB, hxB⟩ := Kd.at_bool (Kd.R_reads' HV2.out).2.2 a1 hp0 hp2
 cases eB
 rw [hbel] at hxB
 go_wp2
 go_ret3
 exact ⟨rfl, HB2.out⟩
theorem at_okt (k : Nat) (A0 : Option Addr) (c0 : Nat) (l0 : List S34) (a1 kind : Int) (mir : Bool) (r1 : Int) (r2 : List Bool) (w : World) (hr0 : Kd.C k34 w A0 l0.length l0) (hc0 : l0.length ≤ c0)
  (h : steps_keys.f k l0 = some (r1, r2, 0)) (hm : true = true → steps_Move_is.f kind mir = some true) (hp0 : 0 ≤ a1) (hp1 : a1 < l0.length) (hp2 : a1 < r2.length) (hbel : rdOf false r2 a1 = true) (hn : l0.length ≤ 1000000)
  (hc : ∀ i, i < l0.length → 0 ≤ (l0.getD i z34).f4 → (l0.getD i z34).f4 < l0.length ∧ 0 ≤ (l0.getD i z34).f5 ∧ (l0.getD i z34).f5 < l0.length) :
  Calls Tryd.prog 23 #[.slice A0 l0.length c0, .int .i64 a1, .agg #[.int .i64 kind, .bool mir], .bool true] w fun e w' => AtPost w l0 r1 e w' := by
 have hu62 := Tryd.underlying32
 have HR := Am hr0
 have HC := Am hc0
 have H := Am h
 have HM := Am hm
 clear hr0 hc0 h hm
 have HG := Am hc
 clear hc
 have d0 : decide (a1 < 0) = false := decide_eq_false (by omega)
 have d1 : decide ((l0.length : Int) ≤ a1) = false := decide_eq_false (by omega)
 have hfin := at_fin w l0 r1
 have HF := Am hfin
 clear hfin
 go_enter Tryd.func23, Tryd.ntmps23
 go_wp2_with (fail)
 refine (steps_keys.calls k A0 c0 l0 r1 r2 0 _ (Kd.C_below HR.out ((Below.refl _ _).alloc (Nat.le_refl _) _)) HC.out H.out).mono ?_
 rintro e w1 ⟨v1, rfl, h1, h2⟩
 obtain ⟨Av, cv, rfl⟩ := Kd.R_slice h1
 have hb : Below w.heap.size w w1 := ((Below.refl _ _).alloc (Nat.le_refl _) _).trans (h2.mono (by simp))
 have HB := Am hb
 have HV := Am h1
 have hc6 : w1.cell? ⟨w.heap.size, 0, none⟩ = some (.int .i64 kind) := (h2.cell (p := ⟨w.heap.size, 0, none⟩) (by simp)).trans (World.cell?_alloc_at _ _ _ _ rfl)
 have hc7 : w1.cell? ⟨w.heap.size, 1, none⟩ = some (.bool mir) := (h2.cell (p := ⟨w.heap.size, 1, none⟩) (by simp)).trans (World.cell?_alloc_at _ _ _ _ rfl)
 clear h1 h2 hb
 go_wp2_with (fail)
 refine (steps_Move_is.calls kind mir true _ (HM.out (by first | trivial | rfl))).mono ?_
 rintro e w2 ⟨rfl, h2⟩
 have HV2 := Am (Kd.R_below HV.out h2)
 have HB2 := Am (HB.out.trans (h2.mono HB.out.size))
 clear h2 HV HB
 obtain ⟨adB, eB, hxB⟩ := Kd.at_bool (Kd.R_reads' HV2.out).2.2 a1 hp0 hp2
 cases eB
 rw [hbel] at hxB
 go_wp2_with (fail)
 refine (grow_any A0 c0 l0 _ (Kd.C_below (Kd.C_below HR.out (Below.refl _ _)) HB2.out) hn HG.out).mono ?_
 rintro e w3 ⟨rfl, hfo⟩
 have HFO := Am hfo
 clear hfo
 go_wp2
 go_ret3
 exact HF.out _ _ HB2.out HFO.out
section
variable {S : Nat → Prop}
def can1 (m : Bool) (T : Tr) : Bool := (wt (lT m T) == 0) && (wt (rT m T) == 0) && (decide (0 < wt T)) && ((wt (lT m (lT m T)) == 0) || (wt (rT m (lT m T)) == 0) || (wt (lT m (rT m T)) == 0) || (wt (rT m (rT m T)) == 0))
theorem can1_0 (m rt : Bool) (p pl pr pll plr prl prr pa pb : Option Addr) (T : Tr) (w : World) (Hl : Aside0 (Rep S w (.pointer pl) (lT m T))) (Hll : Aside0 (Rep S w (.pointer pll) (lT m (lT m T)))) (Hlr : Aside0 (Rep S w (.pointer plr) (rT m (lT m T)))) (Hr : Aside0 (Rep S w (.pointer pr) (rT m T))) (Hrl : Aside0 (Rep S w (.pointer prl) (lT m (rT m T)))) (Hrr : Aside0 (Rep S w (.pointer prr) (rT m (rT m T)))) (Hx : Aside0 (Rep S w (.pointer p) T)) (h0 : (wt (lT m T) == 0) = false) :
  Calls Tryd.prog 25 #[.agg #[.bool m, .pointer p, .pointer pl, .pointer pr, .pointer pll, .pointer plr, .pointer prl, .pointer prr, .pointer pa, .pointer pb, .bool rt], .int .i64 1] w (RB w (.bool false)) := by
 have hu111 := Tryd.underlying62
 have A0 := Am h0
 clear h0
 go_enter Tryd.func25, Tryd.ntmps25
 go_wp2_with (fail)
 refine (red_any _ _ _ (Hl.out.below ((Below.refl _ _).alloc (Nat.le_refl _) _))).mono ?_
 rw [A0.out]
 rintro e w' ⟨rfl, rfl⟩
 go_wp2
 go_ret
 exact ⟨rfl, (Below.refl _ _).alloc (Nat.le_refl _) _⟩
theorem can1_1 (m rt : Bool) (p pl pr pll plr prl prr pa pb : Option Addr) (T : Tr) (w : World) (Hl : Aside0 (Rep S w (.pointer pl) (lT m T))) (Hll : Aside0 (Rep S w (.pointer pll) (lT m (lT m T)))) (Hlr : Aside0 (Rep S w (.pointer plr) (rT m (lT m T)))) (Hr : Aside0 (Rep S w (.pointer pr) (rT m T))) (Hrl : Aside0 (Rep S w (.pointer prl) (lT m (rT m T)))) (Hrr : Aside0 (Rep S w (.pointer prr) (rT m (rT m T)))) (Hx : Aside0 (Rep S w (.pointer p) T)) (h0 : (wt (lT m T) == 0) = true) (h1 : (wt (rT m T) == 0) = false) :
  Calls Tryd.prog 25 #[.agg #[.bool m, .pointer p, .pointer pl, .pointer pr, .pointer pll, .pointer plr, .pointer prl, .pointer prr, .pointer pa, .pointer pb, .bool rt], .int .i64 1] w (RB w (.bool false)) := by
 have hu111 := Tryd.underlying62
 have A0 := Am h0
 have A1 := Am h1
 clear h0 h1
 go_enter Tryd.func25, Tryd.ntmps25
 go_wp2_with (fail)
 refine (red_any _ _ _ (Hl.out.below ((Below.refl _ _).alloc (Nat.le_refl _) _))).mono ?_
 rw [A0.out]
 rintro e w' ⟨rfl, rfl⟩
 go_wp2_with (fail)
 refine (red_any _ _ _ (Hr.out.below ((Below.refl _ _).alloc (Nat.le_refl _) _))).mono ?_
 rw [A1.out]
 rintro e w' ⟨rfl, rfl⟩
 go_wp2
 go_ret
 exact ⟨rfl, (Below.refl _ _).alloc (Nat.le_refl _) _⟩
theorem can1_2 (m rt : Bool) (p pl pr pll plr prl prr pa pb : Option Addr) (T : Tr) (w : World) (Hl : Aside0 (Rep S w (.pointer pl) (lT m T))) (Hll : Aside0 (Rep S w (.pointer pll) (lT m (lT m T)))) (Hlr : Aside0 (Rep S w (.pointer plr) (rT m (lT m T)))) (Hr : Aside0 (Rep S w (.pointer pr) (rT m T))) (Hrl : Aside0 (Rep S w (.pointer prl) (lT m (rT m T)))) (Hrr : Aside0 (Rep S w (.pointer prr) (rT m (rT m T)))) (Hx : Aside0 (Rep S w (.pointer p) T)) (h0 : (wt (lT m T) == 0) = true) (h1 : (wt (rT m T) == 0) = true) (h2 : (decide (0 < wt T)) = false) :
  Calls Tryd.prog 25 #[.agg #[.bool m, .pointer p, .pointer pl, .pointer pr, .pointer pll, .pointer plr, .pointer prl, .pointer prr, .pointer pa, .pointer pb, .bool rt], .int .i64 1] w (RB w (.bool false)) := by
 have hu111 := Tryd.underlying62
 have A0 := Am h0
 have A1 := Am h1
 have A2 := Am h2
 clear h0 h1 h2
 go_enter Tryd.func25, Tryd.ntmps25
 go_wp2_with (fail)
 refine (red_any _ _ _ (Hl.out.below ((Below.refl _ _).alloc (Nat.le_refl _) _))).mono ?_
 rw [A0.out]
 rintro e w' ⟨rfl, rfl⟩
 go_wp2_with (fail)
 refine (red_any _ _ _ (Hr.out.below ((Below.refl _ _).alloc (Nat.le_refl _) _))).mono ?_
 rw [A1.out]
 rintro e w' ⟨rfl, rfl⟩
 go_wp2_with (fail)
 refine (black_any _ _ _ (Hx.out.below ((Below.refl _ _).alloc (Nat.le_refl _) _))).mono ?_
 rw [A2.out]
 rintro e w' ⟨rfl, rfl⟩
 go_wp2
 go_ret
 exact ⟨rfl, (Below.refl _ _).alloc (Nat.le_refl _) _⟩
theorem can1_3 (m rt : Bool) (p pl pr pll plr prl prr pa pb : Option Addr) (T : Tr) (w : World) (Hl : Aside0 (Rep S w (.pointer pl) (lT m T))) (Hll : Aside0 (Rep S w (.pointer pll) (lT m (lT m T)))) (Hlr : Aside0 (Rep S w (.pointer plr) (rT m (lT m T)))) (Hr : Aside0 (Rep S w (.pointer pr) (rT m T))) (Hrl : Aside0 (Rep S w (.pointer prl) (lT m (rT m T)))) (Hrr : Aside0 (Rep S w (.pointer prr) (rT m (rT m T)))) (Hx : Aside0 (Rep S w (.pointer p) T)) (h0 : (wt (lT m T) == 0) = true) (h1 : (wt (rT m T) == 0) = true) (h2 : (decide (0 < wt T)) = true) (h3 : (wt (lT m (lT m T)) == 0) = true) :
  Calls Tryd.prog 25 #[.agg #[.bool m, .pointer p, .pointer pl, .pointer pr, .pointer pll, .pointer plr, .pointer prl, .pointer prr, .pointer pa, .pointer pb, .bool rt], .int .i64 1] w (RB w (.bool true)) := by
 have hu111 := Tryd.underlying62
 have A0 := Am h0
 have A1 := Am h1
 have A2 := Am h2
 have A3 := Am h3
 clear h0 h1 h2 h3
 go_enter Tryd.func25, Tryd.ntmps25
 go_wp2_with (fail)
 refine (red_any _ _ _ (Hl.out.below ((Below.refl _ _).alloc (Nat.le_refl _) _))).mono ?_
 rw [A0.out]
 rintro e w' ⟨rfl, rfl⟩
 go_wp2_with (fail)
 refine (red_any _ _ _ (Hr.out.below ((Below.refl _ _).alloc (Nat.le_refl _) _))).mono ?_
 rw [A1.out]
 rintro e w' ⟨rfl, rfl⟩
 go_wp2_with (fail)
 refine (black_any _ _ _ (Hx.out.below ((Below.refl _ _).alloc (Nat.le_refl _) _))).mono ?_
 rw [A2.out]
 rintro e w' ⟨rfl, rfl⟩
 go_wp2_with (fail)
 refine (red_any _ _ _ (Hll.out.below ((Below.refl _ _).alloc (Nat.le_refl _) _))).mono ?_
 rw [A3.out]
 rintro e w' ⟨rfl, rfl⟩
 go_wp2
 go_ret
 exact ⟨rfl, (Below.refl _ _).alloc (Nat.le_refl _) _⟩
theorem can1_4 (m rt : Bool) (p pl pr pll plr prl prr pa pb : Option Addr) (T : Tr) (w : World) (Hl : Aside0 (Rep S w (.pointer pl) (lT m T))) (Hll : Aside0 (Rep S w (.pointer pll) (lT m (lT m T)))) (Hlr : Aside0 (Rep S w (.pointer plr) (rT m (lT m T)))) (Hr : Aside0 (Rep S w (.pointer pr) (rT m T))) (Hrl : Aside0 (Rep S w (.pointer prl) (lT m (rT m T)))) (Hrr : Aside0 (Rep S w (.pointer prr) (rT m (rT m T)))) (Hx : Aside0 (Rep S w (.pointer p) T)) (h0 : (wt (lT m T) == 0) = true) (h1 : (wt (rT m T) == 0) = true) (h2 : (decide (0 < wt T)) = true) (h3 : (wt (lT m (lT m T)) == 0) = false) (h4 : (wt (rT m (lT m T)) == 0) = true) :
  Calls Tryd.prog 25 #[.agg #[.bool m, .pointer p, .pointer pl, .pointer pr, .pointer pll, .pointer plr, .pointer prl, .pointer prr, .pointer pa, .pointer pb, .bool rt], .int .i64 1] w (RB w (.bool true)) := by
 have hu111 := Tryd.underlying62
 have A0 := Am h0
 have A1 := Am h1
 have A2 := Am h2
 have A3 := Am h3
 have A4 := Am h4
 clear h0 h1 h2 h3 h4
 go_enter Tryd.func25, Tryd.ntmps25
 go_wp2_with (fail)
 refine (red_any _ _ _ (Hl.out.below ((Below.refl _ _).alloc (Nat.le_refl _) _))).mono ?_
 rw [A0.out]
 rintro e w' ⟨rfl, rfl⟩
 go_wp2_with (fail)
 refine (red_any _ _ _ (Hr.out.below ((Below.refl _ _).alloc (Nat.le_refl _) _))).mono ?_
 rw [A1.out]
 rintro e w' ⟨rfl, rfl⟩
 go_wp2_with (fail)
 refine (black_any _ _ _ (Hx.out.below ((Below.refl _ _).alloc (Nat.le_refl _) _))).mono ?_
 rw [A2.out]
 rintro e w' ⟨rfl, rfl⟩
 go_wp2_with (fail)
 refine (red_any _ _ _ (Hll.out.below ((Below.refl _ _).alloc (Nat.le_refl _) _))).mono ?_
 rw [A3.out]
 rintro e w' ⟨rfl, rfl⟩
 go_wp2_with (fail)
 refine (red_any _ _ _ (Hlr.out.below ((Below.refl _ _).alloc (Nat.le_refl _) _))).mono ?_
 rw [A4.out]
 rintro e w' ⟨rfl, rfl⟩
 go_wp2
 go_ret
 exact ⟨rfl, (Below.refl _ _).alloc (Nat.le_refl _) _⟩
theorem can1_5 (m rt : Bool) (p pl pr pll plr prl prr pa pb : Option Addr) (T : Tr) (w : World) (Hl : Aside0 (Rep S w (.pointer pl) (lT m T))) (Hll : Aside0 (Rep S w (.pointer pll) (lT m (lT m T)))) (Hlr : Aside0 (Rep S w (.pointer plr) (rT m (lT m T)))) (Hr : Aside0 (Rep S w (.pointer pr) (rT m T))) (Hrl : Aside0 (Rep S w (.pointer prl) (lT m (rT m T)))) (Hrr : Aside0 (Rep S w (.pointer prr) (rT m (rT m T)))) (Hx : Aside0 (Rep S w (.pointer p) T)) (h0 : (wt (lT m T) == 0) = true) (h1 : (wt (rT m T) == 0) = true) (h2 : (decide (0 < wt T)) = true) (h3 : (wt (lT m (lT m T)) == 0) = false) (h4 : (wt (rT m (lT m T)) == 0) = false) (h5 : (wt (lT m (rT m T)) == 0) = true) :
  Calls Tryd.prog 25 #[.agg #[.bool m, .pointer p, .pointer pl, .pointer pr, .pointer pll, .pointer plr, .pointer prl, .pointer prr, .pointer pa, .pointer pb, .bool rt], .int .i64 1] w (RB w (.bool true)) := by
 have hu111 := Tryd.underlying62
 have A0 := Am h0
 have A1 := Am h1
 have A2 := Am h2
 have A3 := Am h3
 have A4 := Am h4
 have A5 := Am h5
 clear h0 h1 h2 h3 h4 h5
 go_enter Tryd.func25, Tryd.ntmps25
 go_wp2_with (fail)
 refine (red_any _ _ _ (Hl.out.below ((Below.refl _ _).alloc (Nat.le_refl _) _))).mono ?_
 rw [A0.out]
 rintro e w' ⟨rfl, rfl⟩
 go_wp2_with (fail)
 refine (red_any _ _ _ (Hr.out.below ((Below.refl _ _).alloc (Nat.le_refl _) _))).mono ?_
 rw [A1.out]
 rintro e w' ⟨rfl, rfl⟩
 go_wp2_with (fail)
 refine (black_any _ _ _ (Hx.out.below ((Below.refl _ _).alloc (Nat.le_refl _) _))).mono ?_
 rw [A2.out]
 rintro e w' ⟨rfl, rfl⟩
 go_wp2_with (fail)
 refine (red_any _ _ _ (Hll.out.below ((Below.refl _ _).alloc (Nat.le_refl _) _))).mono ?_
 rw [A3.out]
 rintro e w' ⟨rfl, rfl⟩
 go_wp2_with (fail)
 refine (red_any _ _ _ (Hlr.out.below ((Below.refl _ _).alloc (Nat.le_refl _) _))).mono ?_
 rw [A4.out]
 rintro e w' ⟨rfl, rfl⟩
 go_wp2_with (fail)
 refine (red_any _ _ _ (Hrl.out.below ((Below.refl _ _).alloc (Nat.le_refl _) _))).mono ?_
 rw [A5.out]
 rintro e w' ⟨rfl, rfl⟩
 go_wp2
 go_ret
 exact ⟨rfl, (Below.refl _ _).alloc (Nat.le_refl _) _⟩
theorem can1_6 (m rt : Bool) (p pl pr pll plr prl prr pa pb : Option Addr) (T : Tr) (w : World) (Hl : Aside0 (Rep S w (.pointer pl) (lT m T))) (Hll : Aside0 (Rep S w (.pointer pll) (lT m (lT m T)))) (Hlr : Aside0 (Rep S w (.pointer plr) (rT m (lT m T)))) (Hr : Aside0 (Rep S w (.pointer pr) (rT m T))) (Hrl : Aside0 (Rep S w (.pointer prl) (lT m (rT m T)))) (Hrr : Aside0 (Rep S w (.pointer prr) (rT m (rT m T)))) (Hx : Aside0 (Rep S w (.pointer p) T)) (h0 : (wt (lT m T) == 0) = true) (h1 : (wt (rT m T) == 0) = true) (h2 : (decide (0 < wt T)) = true) (h3 : (wt (lT m (lT m T)) == 0) = false) (h4 : (wt (rT m (lT m T)) == 0) = false) (h5 : (wt (lT m (rT m T)) == 0) = false) (h6 : (wt (rT m (rT m T)) == 0) = true) :
  Calls Tryd.prog 25 #[.agg #[.bool m, .pointer p, .pointer pl, .pointer pr, .pointer pll, .pointer plr, .pointer prl, .pointer prr, .pointer pa, .pointer pb, .bool rt], .int .i64 1] w (RB w (.bool true)) := by
 have hu111 := Tryd.underlying62
 have A0 := Am h0
 have A1 := Am h1
 have A2 := Am h2
 have A3 := Am h3
 have A4 := Am h4
 have A5 := Am h5
 have A6 := Am h6
 clear h0 h1 h2 h3 h4 h5 h6
 go_enter Tryd.func25, Tryd.ntmps25
 go_wp2_with (fail)
 refine (red_any _ _ _ (Hl.out.below ((Below.refl _ _).alloc (Nat.le_refl _) _))).mono ?_
 rw [A0.out]
 rintro e w' ⟨rfl, rfl⟩
 go_wp2_with (fail)
 refine (red_any _ _ _ (Hr.out.below ((Below.refl _ _).alloc (Nat.le_refl _) _))).mono ?_
 rw [A1.out]
 rintro e w' ⟨rfl, rfl⟩
 go_wp2_with (fail)
 refine (black_any _ _ _ (Hx.out.below ((Below.refl _ _).alloc (Nat.le_refl _) _))).mono ?_
 rw [A2.out]
 rintro e w' ⟨rfl, rfl⟩
 go_wp2_with (fail)
 refine (red_any _ _ _ (Hll.out.below ((Below.refl _ _).alloc (Nat.le_refl _) _))).mono ?_
 rw [A3.out]
 rintro e w' ⟨rfl, rfl⟩
 go_wp2_with (fail)
 refine (red_any _ _ _ (Hlr.out.below ((Below.refl _ _).alloc (Nat.le_refl _) _))).mono ?_
 rw [A4.out]
 rintro e w' ⟨rfl, rfl⟩
 go_wp2_with (fail)
 refine (red_any _ _ _ (Hrl.out.below ((Below.refl _ _).alloc (Nat.le_refl _) _))).mono ?_
 rw [A5.out]
 rintro e w' ⟨rfl, rfl⟩
 go_wp2_with (fail)
 refine (red_any _ _ _ (Hrr.out.below ((Below.refl _ _).alloc (Nat.le_refl _) _))).mono ?_
 rw [A6.out]
 rintro e w' ⟨rfl, rfl⟩
 go_wp2
 go_ret
 exact ⟨rfl, (Below.refl _ _).alloc (Nat.le_refl _) _⟩
theorem can1_7 (m rt : Bool) (p pl pr pll plr prl prr pa pb : Option Addr) (T : Tr) (w : World) (Hl : Aside0 (Rep S w (.pointer pl) (lT m T))) (Hll : Aside0 (Rep S w (.pointer pll) (lT m (lT m T)))) (Hlr : Aside0 (Rep S w (.pointer plr) (rT m (lT m T)))) (Hr : Aside0 (Rep S w (.pointer pr) (rT m T))) (Hrl : Aside0 (Rep S w (.pointer prl) (lT m (rT m T)))) (Hrr : Aside0 (Rep S w (.pointer prr) (rT m (rT m T)))) (Hx : Aside0 (Rep S w (.pointer p) T)) (h0 : (wt (lT m T) == 0) = true) (h1 : (wt (rT m T) == 0) = true) (h2 : (decide (0 < wt T)) = true) (h3 : (wt (lT m (lT m T)) == 0) = false) (h4 : (wt (rT m (lT m T)) == 0) = false) (h5 : (wt (lT m (rT m T)) == 0) = false) (h6 : (wt (rT m (rT m T)) == 0) = false) :
  Calls Tryd.prog 25 #[.agg #[.bool m, .pointer p, .pointer pl, .pointer pr, .pointer pll, .pointer plr, .pointer prl, .pointer prr, .pointer pa, .pointer pb, .bool rt], .int .i64 1] w (RB w (.bool false)) := by
 have hu111 := Tryd.underlying62
 have A0 := Am h0
 have A1 := Am h1
 have A2 := Am h2
 have A3 := Am h3
 have A4 := Am h4
 have A5 := Am h5
 have A6 := Am h6
 clear h0 h1 h2 h3 h4 h5 h6
 go_enter Tryd.func25, Tryd.ntmps25
 go_wp2_with (fail)
 refine (red_any _ _ _ (Hl.out.below ((Below.refl _ _).alloc (Nat.le_refl _) _))).mono ?_
 rw [A0.out]
 rintro e w' ⟨rfl, rfl⟩
 go_wp2_with (fail)
 refine (red_any _ _ _ (Hr.out.below ((Below.refl _ _).alloc (Nat.le_refl _) _))).mono ?_
 rw [A1.out]
 rintro e w' ⟨rfl, rfl⟩
 go_wp2_with (fail)
 refine (black_any _ _ _ (Hx.out.below ((Below.refl _ _).alloc (Nat.le_refl _) _))).mono ?_
 rw [A2.out]
 rintro e w' ⟨rfl, rfl⟩
 go_wp2_with (fail)
 refine (red_any _ _ _ (Hll.out.below ((Below.refl _ _).alloc (Nat.le_refl _) _))).mono ?_
 rw [A3.out]
 rintro e w' ⟨rfl, rfl⟩
 go_wp2_with (fail)
 refine (red_any _ _ _ (Hlr.out.below ((Below.refl _ _).alloc (Nat.le_refl _) _))).mono ?_
 rw [A4.out]
 rintro e w' ⟨rfl, rfl⟩
 go_wp2_with (fail)
 refine (red_any _ _ _ (Hrl.out.below ((Below.refl _ _).alloc (Nat.le_refl _) _))).mono ?_
 rw [A5.out]
 rintro e w' ⟨rfl, rfl⟩
 go_wp2_with (fail)
 refine (red_any _ _ _ (Hrr.out.below ((Below.refl _ _).alloc (Nat.le_refl _) _))).mono ?_
 rw [A6.out]
 rintro e w' ⟨rfl, rfl⟩
 go_wp2
 go_ret
 exact ⟨rfl, (Below.refl _ _).alloc (Nat.le_refl _) _⟩
theorem can1_any (m rt : Bool) (p pl pr pll plr prl prr pa pb : Option Addr) (T : Tr) (w : World) (Hl : Aside0 (Rep S w (.pointer pl) (lT m T))) (Hll : Aside0 (Rep S w (.pointer pll) (lT m (lT m T)))) (Hlr : Aside0 (Rep S w (.pointer plr) (rT m (lT m T)))) (Hr : Aside0 (Rep S w (.pointer pr) (rT m T))) (Hrl : Aside0 (Rep S w (.pointer prl) (lT m (rT m T)))) (Hrr : Aside0 (Rep S w (.pointer prr) (rT m (rT m T)))) (Hx : Aside0 (Rep S w (.pointer p) T)) :
  Calls Tryd.prog 25 #[.agg #[.bool m, .pointer p, .pointer pl, .pointer pr, .pointer pll, .pointer plr, .pointer prl, .pointer prr, .pointer pa, .pointer pb, .bool rt], .int .i64 1] w (RB w (.bool (can1 m T))) := by
 cases h0 : (wt (lT m T) == 0) with
 | false =>
  rw [show can1 m T = false from by simp only [can1, h0, Bool.and_true, Bool.true_and, Bool.and_false, Bool.false_and, Bool.or_true, Bool.true_or, Bool.or_false, Bool.false_or]]
  exact can1_0 m rt p pl pr pll plr prl prr pa pb T w Hl Hll Hlr Hr Hrl Hrr Hx h0
 | true =>
  cases h1 : (wt (rT m T) == 0) with
  | false =>
   rw [show can1 m T = false from by simp only [can1, h0, h1, Bool.and_true, Bool.true_and, Bool.and_false, Bool.false_and, Bool.or_true, Bool.true_or, Bool.or_false, Bool.false_or]]
   exact can1_1 m rt p pl pr pll plr prl prr pa pb T w Hl Hll Hlr Hr Hrl Hrr Hx h0 h1
  | true =>
   cases h2 : (decide (0 < wt T)) with
   | false =>
    rw [show can1 m T = false from by simp only [can1, h0, h1, h2, Bool.and_true, Bool.true_and, Bool.and_false, Bool.false_and, Bool.or_true, Bool.true_or, Bool.or_false, Bool.false_or]]
    exact can1_2 m rt p pl pr pll plr prl prr pa pb T w Hl Hll Hlr Hr Hrl Hrr Hx h0 h1 h2
   | true =>
    cases h3 : (wt (lT m (lT m T)) == 0) with
    | false =>
     cases h4 : (wt (rT m (lT m T)) == 0) with
     | false =>
      cases h5 : (wt (lT m (rT m T)) == 0) with
      | false =>
       cases h6 : (wt (rT m (rT m T)) == 0) with
       | false =>
        rw [show can1 m T = false from by simp only [can1, h0, h1, h2, h3, h4, h5, h6, Bool.and_true, Bool.true_and, Bool.and_false, Bool.false_and, Bool.or_true, Bool.true_or, Bool.or_false, Bool.false_or]]
        exact can1_7 m rt p pl pr pll plr prl prr pa pb T w Hl Hll Hlr Hr Hrl Hrr Hx h0 h1 h2 h3 h4 h5 h6
       | true =>
        rw [show can1 m T = true from by simp only [can1, h0, h1, h2, h3, h4, h5, h6, Bool.and_true, Bool.true_and, Bool.and_false, Bool.false_and, Bool.or_true, Bool.true_or, Bool.or_false, Bool.false_or]]
        exact can1_6 m rt p pl pr pll plr prl prr pa pb T w Hl Hll Hlr Hr Hrl Hrr Hx h0 h1 h2 h3 h4 h5 h6
      | true =>
       rw [show can1 m T = true from by simp only [can1, h0, h1, h2, h3, h4, h5, Bool.and_true, Bool.true_and, Bool.and_false, Bool.false_and, Bool.or_true, Bool.true_or, Bool.or_false, Bool.false_or]]
       exact can1_5 m rt p pl pr pll plr prl prr pa pb T w Hl Hll Hlr Hr Hrl Hrr Hx h0 h1 h2 h3 h4 h5
     | true =>
      rw [show can1 m T = true from by simp only [can1, h0, h1, h2, h3, h4, Bool.and_true, Bool.true_and, Bool.and_false, Bool.false_and, Bool.or_true, Bool.true_or, Bool.or_false, Bool.false_or]]
      exact can1_4 m rt p pl pr pll plr prl prr pa pb T w Hl Hll Hlr Hr Hrl Hrr Hx h0 h1 h2 h3 h4
    | true =>
     rw [show can1 m T = true from by simp only [can1, h0, h1, h2, h3, Bool.and_true, Bool.true_and, Bool.and_false, Bool.false_and, Bool.or_true, Bool.true_or, Bool.or_false, Bool.false_or]]
     exact can1_3 m rt p pl pr pll plr prl prr pa pb T w Hl Hll Hlr Hr Hrl Hrr Hx h0 h1 h2 h3
def can2 (m : Bool) (T : Tr) : Bool := (decide (0 < wt T)) && (wt (lT m T) == 0) && (wt (lT m (lT m T)) == 0) && (decide (0 < wt (rT m T)))
theorem can2_0 (m rt : Bool) (p pl pr pll plr prl prr pa pb : Option Addr) (T : Tr) (w : World) (Hl : Aside0 (Rep S w (.pointer pl) (lT m T))) (Hll : Aside0 (Rep S w (.pointer pll) (lT m (lT m T)))) (Hr : Aside0 (Rep S w (.pointer pr) (rT m T))) (Hx : Aside0 (Rep S w (.pointer p) T)) (h0 : (decide (0 < wt T)) = false) :
  Calls Tryd.prog 25 #[.agg #[.bool m, .pointer p, .pointer pl, .pointer pr, .pointer pll, .pointer plr, .pointer prl, .pointer prr, .pointer pa, .pointer pb, .bool rt], .int .i64 2] w (RB w (.bool false)) := by
 have hu111 := Tryd.underlying62
 have A0 := Am h0
 clear h0
 go_enter Tryd.func25, Tryd.ntmps25
 go_wp2_with (fail)
 refine (black_any _ _ _ (Hx.out.below ((Below.refl _ _).alloc (Nat.le_refl _) _))).mono ?_
 rw [A0.out]
 rintro e w' ⟨rfl, rfl⟩
 go_wp2
 go_ret
 exact ⟨rfl, (Below.refl _ _).alloc (Nat.le_refl _) _⟩
theorem can2_1 (m rt : Bool) (p pl pr pll plr prl prr pa pb : Option Addr) (T : Tr) (w : World) (Hl : Aside0 (Rep S w (.pointer pl) (lT m T))) (Hll : Aside0 (Rep S w (.pointer pll) (lT m (lT m T)))) (Hr : Aside0 (Rep S w (.pointer pr) (rT m T))) (Hx : Aside0 (Rep S w (.pointer p) T)) (h0 : (decide (0 < wt T)) = true) (h1 : (wt (lT m T) == 0) = false) :
  Calls Tryd.prog 25 #[.agg #[.bool m, .pointer p, .pointer pl, .pointer pr, .pointer pll, .pointer plr, .pointer prl, .pointer prr, .pointer pa, .pointer pb, .bool rt], .int .i64 2] w (RB w (.bool false)) := by
 have hu111 := Tryd.underlying62
 have A0 := Am h0
 have A1 := Am h1
 clear h0 h1
 go_enter Tryd.func25, Tryd.ntmps25
 go_wp2_with (fail)
 refine (black_any _ _ _ (Hx.out.below ((Below.refl _ _).alloc (Nat.le_refl _) _))).mono ?_
 rw [A0.out]
 rintro e w' ⟨rfl, rfl⟩
 go_wp2_with (fail)
 refine (red_any _ _ _ (Hl.out.below ((Below.refl _ _).alloc (Nat.le_refl _) _))).mono ?_
 rw [A1.out]
 rintro e w' ⟨rfl, rfl⟩
 go_wp2
 go_ret
 exact ⟨rfl, (Below.refl _ _).alloc (Nat.le_refl _) _⟩
theorem can2_2 (m rt : Bool) (p pl pr pll plr prl prr pa pb : Option Addr) (T : Tr) (w : World) (Hl : Aside0 (Rep S w (.pointer pl) (lT m T))) (Hll : Aside0 (Rep S w (.pointer pll) (lT m (lT m T)))) (Hr : Aside0 (Rep S w (.pointer pr) (rT m T))) (Hx : Aside0 (Rep S w (.pointer p) T)) (h0 : (decide (0 < wt T)) = true) (h1 : (wt (lT m T) == 0) = true) (h2 : (wt (lT m (lT m T)) == 0) = false) :
  Calls Tryd.prog 25 #[.agg #[.bool m, .pointer p, .pointer pl, .pointer pr, .pointer pll, .pointer plr, .pointer prl, .pointer prr, .pointer pa, .pointer pb, .bool rt], .int .i64 2] w (RB w (.bool false)) := by
 have hu111 := Tryd.underlying62
 have A0 := Am h0
 have A1 := Am h1
 have A2 := Am h2
 clear h0 h1 h2
 go_enter Tryd.func25, Tryd.ntmps25
 go_wp2_with (fail)
 refine (black_any _ _ _ (Hx.out.below ((Below.refl _ _).alloc (Nat.le_refl _) _))).mono ?_
 rw [A0.out]
 rintro e w' ⟨rfl, rfl⟩
 go_wp2_with (fail)
 refine (red_any _ _ _ (Hl.out.below ((Below.refl _ _).alloc (Nat.le_refl _) _))).mono ?_
 rw [A1.out]
 rintro e w' ⟨rfl, rfl⟩
 go_wp2_with (fail)
 refine (red_any _ _ _ (Hll.out.below ((Below.refl _ _).alloc (Nat.le_refl _) _))).mono ?_
 rw [A2.out]
 rintro e w' ⟨rfl, rfl⟩
 go_wp2
 go_ret
 exact ⟨rfl, (Below.refl _ _).alloc (Nat.le_refl _) _⟩
theorem can2_3 (m rt : Bool) (p pl pr pll plr prl prr pa pb : Option Addr) (T : Tr) (w : World) (Hl : Aside0 (Rep S w (.pointer pl) (lT m T))) (Hll : Aside0 (Rep S w (.pointer pll) (lT m (lT m T)))) (Hr : Aside0 (Rep S w (.pointer pr) (rT m T))) (Hx : Aside0 (Rep S w (.pointer p) T)) (h0 : (decide (0 < wt T)) = true) (h1 : (wt (lT m T) == 0) = true) (h2 : (wt (lT m (lT m T)) == 0) = true) (h3 : (decide (0 < wt (rT m T))) = false) :
  Calls Tryd.prog 25 #[.agg #[.bool m, .pointer p, .pointer pl, .pointer pr, .pointer pll, .pointer plr, .pointer prl, .pointer prr, .pointer pa, .pointer pb, .bool rt], .int .i64 2] w (RB w (.bool false)) := by
 have hu111 := Tryd.underlying62
 have A0 := Am h0
 have A1 := Am h1
 have A2 := Am h2
 have A3 := Am h3
 clear h0 h1 h2 h3
 go_enter Tryd.func25, Tryd.ntmps25
 go_wp2_with (fail)
 refine (black_any _ _ _ (Hx.out.below ((Below.refl _ _).alloc (Nat.le_refl _) _))).mono ?_
 rw [A0.out]
 rintro e w' ⟨rfl, rfl⟩
 go_wp2_with (fail)
 refine (red_any _ _ _ (Hl.out.below ((Below.refl _ _).alloc (Nat.le_refl _) _))).mono ?_
 rw [A1.out]
 rintro e w' ⟨rfl, rfl⟩
 go_wp2_with (fail)
 refine (red_any _ _ _ (Hll.out.below ((Below.refl _ _).alloc (Nat.le_refl _) _))).mono ?_
 rw [A2.out]
 rintro e w' ⟨rfl, rfl⟩
 go_wp2_with (fail)
 refine (black_any _ _ _ (Hr.out.below ((Below.refl _ _).alloc (Nat.le_refl _) _))).mono ?_
 rw [A3.out]
 rintro e w' ⟨rfl, rfl⟩
 go_wp2
 go_ret
 exact ⟨rfl, (Below.refl _ _).alloc (Nat.le_refl _) _⟩
theorem can2_4 (m rt : Bool) (p pl pr pll plr prl prr pa pb : Option Addr) (T : Tr) (w : World) (Hl : Aside0 (Rep S w (.pointer pl) (lT m T))) (Hll : Aside0 (Rep S w (.pointer pll) (lT m (lT m T)))) (Hr : Aside0 (Rep S w (.pointer pr) (rT m T))) (Hx : Aside0 (Rep S w (.pointer p) T)) (h0 : (decide (0 < wt T)) = true) (h1 : (wt (lT m T) == 0) = true) (h2 : (wt (lT m (lT m T)) == 0) = true) (h3 : (decide (0 < wt (rT m T))) = true) :
  Calls Tryd.prog 25 #[.agg #[.bool m, .pointer p, .pointer pl, .pointer pr, .pointer pll, .pointer plr, .pointer prl, .pointer prr, .pointer pa, .pointer pb, .bool rt], .int .i64 2] w (RB w (.bool true)) := by
 have hu111 := Tryd.underlying62
 have A0 := Am h0
 have A1 := Am h1
 have A2 := Am h2
 have A3 := Am h3
 clear h0 h1 h2 h3
 go_enter Tryd.func25, Tryd.ntmps25
 go_wp2_with (fail)
 refine (black_any _ _ _ (Hx.out.below ((Below.refl _ _).alloc (Nat.le_refl _) _))).mono ?_
 rw [A0.out]
 rintro e w' ⟨rfl, rfl⟩
 go_wp2_with (fail)
 refine (red_any _ _ _ (Hl.out.below ((Below.refl _ _).alloc (Nat.le_refl _) _))).mono ?_
 rw [A1.out]
 rintro e w' ⟨rfl, rfl⟩
 go_wp2_with (fail)
 refine (red_any _ _ _ (Hll.out.below ((Below.refl _ _).alloc (Nat.le_refl _) _))).mono ?_
 rw [A2.out]
 rintro e w' ⟨rfl, rfl⟩
 go_wp2_with (fail)
 refine (black_any _ _ _ (Hr.out.below ((Below.refl _ _).alloc (Nat.le_refl _) _))).mono ?_
 rw [A3.out]
 rintro e w' ⟨rfl, rfl⟩
 go_wp2
 go_ret
 exact ⟨rfl, (Below.refl _ _).alloc (Nat.le_refl _) _⟩
theorem can2_any (m rt : Bool) (p pl pr pll plr prl prr pa pb : Option Addr) (T : Tr) (w : World) (Hl : Aside0 (Rep S w (.pointer pl) (lT m T))) (Hll : Aside0 (Rep S w (.pointer pll) (lT m (lT m T)))) (Hr : Aside0 (Rep S w (.pointer pr) (rT m T))) (Hx : Aside0 (Rep S w (.pointer p) T)) :
  Calls Tryd.prog 25 #[.agg #[.bool m, .pointer p, .pointer pl, .pointer pr, .pointer pll, .pointer plr, .pointer prl, .pointer prr, .pointer pa, .pointer pb, .bool rt], .int .i64 2] w (RB w (.bool (can2 m T))) := by
 cases h0 : (decide (0 < wt T)) with
 | false =>
  rw [show can2 m T = false from by simp only [can2, h0, Bool.and_true, Bool.true_and, Bool.and_false, Bool.false_and, Bool.or_true, Bool.true_or, Bool.or_false, Bool.false_or]]
  exact can2_0 m rt p pl pr pll plr prl prr pa pb T w Hl Hll Hr Hx h0
 | true =>
  cases h1 : (wt (lT m T) == 0) with
  | false =>
   rw [show can2 m T = false from by simp only [can2, h0, h1, Bool.and_true, Bool.true_and, Bool.and_false, Bool.false_and, Bool.or_true, Bool.true_or, Bool.or_false, Bool.false_or]]
   exact can2_1 m rt p pl pr pll plr prl prr pa pb T w Hl Hll Hr Hx h0 h1
  | true =>
   cases h2 : (wt (lT m (lT m T)) == 0) with
   | false =>
    rw [show can2 m T = false from by simp only [can2, h0, h1, h2, Bool.and_true, Bool.true_and, Bool.and_false, Bool.false_and, Bool.or_true, Bool.true_or, Bool.or_false, Bool.false_or]]
    exact can2_2 m rt p pl pr pll plr prl prr pa pb T w Hl Hll Hr Hx h0 h1 h2
   | true =>
    cases h3 : (decide (0 < wt (rT m T))) with
    | false =>
     rw [show can2 m T = false from by simp only [can2, h0, h1, h2, h3, Bool.and_true, Bool.true_and, Bool.and_false, Bool.false_and, Bool.or_true, Bool.true_or, Bool.or_false, Bool.false_or]]
     exact can2_3 m rt p pl pr pll plr prl prr pa pb T w Hl Hll Hr Hx h0 h1 h2 h3
    | true =>
     rw [show can2 m T = true from by simp only [can2, h0, h1, h2, h3, Bool.and_true, Bool.true_and, Bool.and_false, Bool.false_and, Bool.or_true, Bool.true_or, Bool.or_false, Bool.false_or]]
     exact can2_4 m rt p pl pr pll plr prl prr pa pb T w Hl Hll Hr Hx h0 h1 h2 h3
end
section
variable {S : Nat → Prop}
def can3 (m : Bool) (T : Tr) : Bool := (decide (0 < wt T)) && (wt (lT m T) == 0) && (wt (rT m (lT m T)) == 0) && (innerB (rT m (lT m T))) && (decide (0 < wt (lT m (lT m T)))) && (decide (0 < wt (rT m T)))
theorem can3_0 (m rt : Bool) (p pl pr pll plr prl prr pa pb : Option Addr) (T : Tr) (w : World) (Hl : Aside0 (Rep S w (.pointer pl) (lT m T))) (Hll : Aside0 (Rep S w (.pointer pll) (lT m (lT m T)))) (Hlr : Aside0 (Rep S w (.pointer plr) (rT m (lT m T)))) (Hr : Aside0 (Rep S w (.pointer pr) (rT m T))) (Hx : Aside0 (Rep S w (.pointer p) T)) (h0 : (decide (0 < wt T)) = false) :
  Calls Tryd.prog 25 #[.agg #[.bool m, .pointer p, .pointer pl, .pointer pr, .pointer pll, .pointer plr, .pointer prl, .pointer prr, .pointer pa, .pointer pb, .bool rt], .int .i64 3] w (RB w (.bool false)) := by
 have hu111 := Tryd.underlying62
 have A0 := Am h0
 clear h0
 go_enter Tryd.func25, Tryd.ntmps25
 go_wp2_with (fail)
 refine (black_any _ _ _ (Hx.out.below ((Below.refl _ _).alloc (Nat.le_refl _) _))).mono ?_
 rw [A0.out]
 rintro e w' ⟨rfl, rfl⟩
 go_wp2
 go_ret
 exact ⟨rfl, (Below.refl _ _).alloc (Nat.le_refl _) _⟩
theorem can3_1 (m rt : Bool) (p pl pr pll plr prl prr pa pb : Option Addr) (T : Tr) (w : World) (Hl : Aside0 (Rep S w (.pointer pl) (lT m T))) (Hll : Aside0 (Rep S w (.pointer pll) (lT m (lT m T)))) (Hlr : Aside0 (Rep S w (.pointer plr) (rT m (lT m T)))) (Hr : Aside0 (Rep S w (.pointer pr) (rT m T))) (Hx : Aside0 (Rep S w (.pointer p) T)) (h0 : (decide (0 < wt T)) = true) (h1 : (wt (lT m T) == 0) = false) :
  Calls Tryd.prog 25 #[.agg #[.bool m, .pointer p, .pointer pl, .pointer pr, .pointer pll, .pointer plr, .pointer prl, .pointer prr, .pointer pa, .pointer pb, .bool rt], .int .i64 3] w (RB w (.bool false)) := by
 have hu111 := Tryd.underlying62
 have A0 := Am h0
 have A1 := Am h1
 clear h0 h1
 go_enter Tryd.func25, Tryd.ntmps25
 go_wp2_with (fail)
 refine (black_any _ _ _ (Hx.out.below ((Below.refl _ _).alloc (Nat.le_refl _) _))).mono ?_
 rw [A0.out]
 rintro e w' ⟨rfl, rfl⟩
 go_wp2_with (fail)
 refine (red_any _ _ _ (Hl.out.below ((Below.refl _ _).alloc (Nat.le_refl _) _))).mono ?_
 rw [A1.out]
 rintro e w' ⟨rfl, rfl⟩
 go_wp2
 go_ret
 exact ⟨rfl, (Below.refl _ _).alloc (Nat.le_refl _) _⟩
theorem can3_2 (m rt : Bool) (p pl pr pll plr prl prr pa pb : Option Addr) (T : Tr) (w : World) (Hl : Aside0 (Rep S w (.pointer pl) (lT m T))) (Hll : Aside0 (Rep S w (.pointer pll) (lT m (lT m T)))) (Hlr : Aside0 (Rep S w (.pointer plr) (rT m (lT m T)))) (Hr : Aside0 (Rep S w (.pointer pr) (rT m T))) (Hx : Aside0 (Rep S w (.pointer p) T)) (h0 : (decide (0 < wt T)) = true) (h1 : (wt (lT m T) == 0) = true) (h2 : (wt (rT m (lT m T)) == 0) = false) :
  Calls Tryd.prog 25 #[.agg #[.bool m, .pointer p, .pointer pl, .pointer pr, .pointer pll, .pointer plr, .pointer prl, .pointer prr, .pointer pa, .pointer pb, .bool rt], .int .i64 3] w (RB w (.bool false)) := by
 have hu111 := Tryd.underlying62
 have A0 := Am h0
 have A1 := Am h1
 have A2 := Am h2
 clear h0 h1 h2
 go_enter Tryd.func25, Tryd.ntmps25
 go_wp2_with (fail)
 refine (black_any _ _ _ (Hx.out.below ((Below.refl _ _).alloc (Nat.le_refl _) _))).mono ?_
 rw [A0.out]
 rintro e w' ⟨rfl, rfl⟩
 go_wp2_with (fail)
 refine (red_any _ _ _ (Hl.out.below ((Below.refl _ _).alloc (Nat.le_refl _) _))).mono ?_
 rw [A1.out]
 rintro e w' ⟨rfl, rfl⟩
 go_wp2_with (fail)
 refine (red_any _ _ _ (Hlr.out.below ((Below.refl _ _).alloc (Nat.le_refl _) _))).mono ?_
 rw [A2.out]
 rintro e w' ⟨rfl, rfl⟩
 go_wp2
 go_ret
 exact ⟨rfl, (Below.refl _ _).alloc (Nat.le_refl _) _⟩
theorem can3_3 (m rt : Bool) (p pl pr pll plr prl prr pa pb : Option Addr) (T : Tr) (w : World) (Hl : Aside0 (Rep S w (.pointer pl) (lT m T))) (Hll : Aside0 (Rep S w (.pointer pll) (lT m (lT m T)))) (Hlr : Aside0 (Rep S w (.pointer plr) (rT m (lT m T)))) (Hr : Aside0 (Rep S w (.pointer pr) (rT m T))) (Hx : Aside0 (Rep S w (.pointer p) T)) (h0 : (decide (0 < wt T)) = true) (h1 : (wt (lT m T) == 0) = true) (h2 : (wt (rT m (lT m T)) == 0) = true) (h3 : (innerB (rT m (lT m T))) = false) :
  Calls Tryd.prog 25 #[.agg #[.bool m, .pointer p, .pointer pl, .pointer pr, .pointer pll, .pointer plr, .pointer prl, .pointer prr, .pointer pa, .pointer pb, .bool rt], .int .i64 3] w (RB w (.bool false)) := by
 have hu111 := Tryd.underlying62
 have A0 := Am h0
 have A1 := Am h1
 have A2 := Am h2
 have A3 := Am h3
 clear h0 h1 h2 h3
 go_enter Tryd.func25, Tryd.ntmps25
 go_wp2_with (fail)
 refine (black_any _ _ _ (Hx.out.below ((Below.refl _ _).alloc (Nat.le_refl _) _))).mono ?_
 rw [A0.out]
 rintro e w' ⟨rfl, rfl⟩
 go_wp2_with (fail)
 refine (red_any _ _ _ (Hl.out.below ((Below.refl _ _).alloc (Nat.le_refl _) _))).mono ?_
 rw [A1.out]
 rintro e w' ⟨rfl, rfl⟩
 go_wp2_with (fail)
 refine (red_any _ _ _ (Hlr.out.below ((Below.refl _ _).alloc (Nat.le_refl _) _))).mono ?_
 rw [A2.out]
 rintro e w' ⟨rfl, rfl⟩
 go_wp2_with (fail)
 refine (inner_any _ _ _ (Hlr.out.below ((Below.refl _ _).alloc (Nat.le_refl _) _))).mono ?_
 rw [A3.out]
 rintro e w' ⟨rfl, rfl⟩
 go_wp2
 go_ret
 exact ⟨rfl, (Below.refl _ _).alloc (Nat.le_refl _) _⟩
theorem can3_4 (m rt : Bool) (p pl pr pll plr prl prr pa pb : Option Addr) (T : Tr) (w : World) (Hl : Aside0 (Rep S w (.pointer pl) (lT m T))) (Hll : Aside0 (Rep S w (.pointer pll) (lT m (lT m T)))) (Hlr : Aside0 (Rep S w (.pointer plr) (rT m (lT m T)))) (Hr : Aside0 (Rep S w (.pointer pr) (rT m T))) (Hx : Aside0 (Rep S w (.pointer p) T)) (h0 : (decide (0 < wt T)) = true) (h1 : (wt (lT m T) == 0) = true) (h2 : (wt (rT m (lT m T)) == 0) = true) (h3 : (innerB (rT m (lT m T))) = true) (h4 : (decide (0 < wt (lT m (lT m T)))) = false) :
  Calls Tryd.prog 25 #[.agg #[.bool m, .pointer p, .pointer pl, .pointer pr, .pointer pll, .pointer plr, .pointer prl, .pointer prr, .pointer pa, .pointer pb, .bool rt], .int .i64 3] w (RB w (.bool false)) := by
 have hu111 := Tryd.underlying62
 have A0 := Am h0
 have A1 := Am h1
 have A2 := Am h2
 have A3 := Am h3
 have A4 := Am h4
 clear h0 h1 h2 h3 h4
 go_enter Tryd.func25, Tryd.ntmps25
 go_wp2_with (fail)
 refine (black_any _ _ _ (Hx.out.below ((Below.refl _ _).alloc (Nat.le_refl _) _))).mono ?_
 rw [A0.out]
 rintro e w' ⟨rfl, rfl⟩
 go_wp2_with (fail)
 refine (red_any _ _ _ (Hl.out.below ((Below.refl _ _).alloc (Nat.le_refl _) _))).mono ?_
 rw [A1.out]
 rintro e w' ⟨rfl, rfl⟩
 go_wp2_with (fail)
 refine (red_any _ _ _ (Hlr.out.below ((Below.refl _ _).alloc (Nat.le_refl _) _))).mono ?_
 rw [A2.out]
 rintro e w' ⟨rfl, rfl⟩
 go_wp2_with (fail)
 refine (inner_any _ _ _ (Hlr.out.below ((Below.refl _ _).alloc (Nat.le_refl _) _))).mono ?_
 rw [A3.out]
 rintro e w' ⟨rfl, rfl⟩
 go_wp2_with (fail)
 refine (black_any _ _ _ (Hll.out.below ((Below.refl _ _).alloc (Nat.le_refl _) _))).mono ?_
 rw [A4.out]
 rintro e w' ⟨rfl, rfl⟩
 go_wp2
 go_ret
 exact ⟨rfl, (Below.refl _ _).alloc (Nat.le_refl _) _⟩
theorem can3_5 (m rt : Bool) (p pl pr pll plr prl prr pa pb : Option Addr) (T : Tr) (w : World) (Hl : Aside0 (Rep S w (.pointer pl) (lT m T))) (Hll : Aside0 (Rep S w (.pointer pll) (lT m (lT m T)))) (Hlr : Aside0 (Rep S w (.pointer plr) (rT m (lT m T)))) (Hr : Aside0 (Rep S w (.pointer pr) (rT m T))) (Hx : Aside0 (Rep S w (.pointer p) T)) (h0 : (decide (0 < wt T)) = true) (h1 : (wt (lT m T) == 0) = true) (h2 : (wt (rT m (lT m T)) == 0) = true) (h3 : (innerB (rT m (lT m T))) = true) (h4 : (decide (0 < wt (lT m (lT m T)))) = true) (h5 : (decide (0 < wt (rT m T))) = false) :
  Calls Tryd.prog 25 #[.agg #[.bool m, .pointer p, .pointer pl, .pointer pr, .pointer pll, .pointer plr, .pointer prl, .pointer prr, .pointer pa, .pointer pb, .bool rt], .int .i64 3] w (RB w (.bool false)) := by
 have hu111 := Tryd.underlying62
 have A0 := Am h0
 have A1 := Am h1
 have A2 := Am h2
 have A3 := Am h3
 have A4 := Am h4
 have A5 := Am h5
 clear h0 h1 h2 h3 h4 h5
 go_enter Tryd.func25, Tryd.ntmps25
 go_wp2_with (fail)
 refine (black_any _ _ _ (Hx.out.below ((Below.refl _ _).alloc (Nat.le_refl _) _))).mono ?_
 rw [A0.out]
 rintro e w' ⟨rfl, rfl⟩
 go_wp2_with (fail)
 refine (red_any _ _ _ (Hl.out.below ((Below.refl _ _).alloc (Nat.le_refl _) _))).mono ?_
 rw [A1.out]
 rintro e w' ⟨rfl, rfl⟩
 go_wp2_with (fail)
 refine (red_any _ _ _ (Hlr.out.below ((Below.refl _ _).alloc (Nat.le_refl _) _))).mono ?_
 rw [A2.out]
 rintro e w' ⟨rfl, rfl⟩
 go_wp2_with (fail)
 refine (inner_any _ _ _ (Hlr.out.below ((Below.refl _ _).alloc (Nat.le_refl _) _))).mono ?_
 rw [A3.out]
 rintro e w' ⟨rfl, rfl⟩
 go_wp2_with (fail)
 refine (black_any _ _ _ (Hll.out.below ((Below.refl _ _).alloc (Nat.le_refl _) _))).mono ?_
 rw [A4.out]
 rintro e w' ⟨rfl, rfl⟩
 go_wp2_with (fail)
 refine (black_any _ _ _ (Hr.out.below ((Below.refl _ _).alloc (Nat.le_refl _) _))).mono ?_
 rw [A5.out]
 rintro e w' ⟨rfl, rfl⟩
 go_wp2
 go_ret
 exact ⟨rfl, (Below.refl _ _).alloc (Nat.le_refl _) _⟩
theorem can3_6 (m rt : Bool) (p pl pr pll plr prl prr pa pb : Option Addr) (T : Tr) (w : World) (Hl : Aside0 (Rep S w (.pointer pl) (lT m T))) (Hll : Aside0 (Rep S w (.pointer pll) (lT m (lT m T)))) (Hlr : Aside0 (Rep S w (.pointer plr) (rT m (lT m T)))) (Hr : Aside0 (Rep S w (.pointer pr) (rT m T))) (Hx : Aside0 (Rep S w (.pointer p) T)) (h0 : (decide (0 < wt T)) = true) (h1 : (wt (lT m T) == 0) = true) (h2 : (wt (rT m (lT m T)) == 0) = true) (h3 : (innerB (rT m (lT m T))) = true) (h4 : (decide (0 < wt (lT m (lT m T)))) = true) (h5 : (decide (0 < wt (rT m T))) = true) :
  Calls Tryd.prog 25 #[.agg #[.bool m, .pointer p, .pointer pl, .pointer pr, .pointer pll, .pointer plr, .pointer prl, .pointer prr, .pointer pa, .pointer pb, .bool rt], .int .i64 3] w (RB w (.bool true)) := by
 have hu111 := Tryd.underlying62
 have A0 := Am h0
 have A1 := Am h1
 have A2 := Am h2
 have A3 := Am h3
 have A4 := Am h4
 have A5 := Am h5
 clear h0 h1 h2 h3 h4 h5
 go_enter Tryd.func25, Tryd.ntmps25
 go_wp2_with (fail)
 refine (black_any _ _ _ (Hx.out.below ((Below.refl _ _).alloc (Nat.le_refl _) _))).mono ?_
 rw [A0.out]
 rintro e w' ⟨rfl, rfl⟩
 go_wp2_with (fail)
 refine (red_any _ _ _ (Hl.out.below ((Below.refl _ _).alloc (Nat.le_refl _) _))).mono ?_
 rw [A1.out]
 rintro e w' ⟨rfl, rfl⟩
 go_wp2_with (fail)
 refine (red_any _ _ _ (Hlr.out.below ((Below.refl _ _).alloc (Nat.le_refl _) _))).mono ?_
 rw [A2.out]
 rintro e w' ⟨rfl, rfl⟩
 go_wp2_with (fail)
 refine (inner_any _ _ _ (Hlr.out.below ((Below.refl _ _).alloc (Nat.le_refl _) _))).mono ?_
 rw [A3.out]
 rintro e w' ⟨rfl, rfl⟩
 go_wp2_with (fail)
 refine (black_any _ _ _ (Hll.out.below ((Below.refl _ _).alloc (Nat.le_refl _) _))).mono ?_
 rw [A4.out]
 rintro e w' ⟨rfl, rfl⟩
 go_wp2_with (fail)
 refine (black_any _ _ _ (Hr.out.below ((Below.refl _ _).alloc (Nat.le_refl _) _))).mono ?_
 rw [A5.out]
 rintro e w' ⟨rfl, rfl⟩
 go_wp2
 go_ret
 exact ⟨rfl, (Below.refl _ _).alloc (Nat.le_refl _) _⟩
theorem can3_any (m rt : Bool) (p pl pr pll plr prl prr pa pb : Option Addr) (T : Tr) (w : World) (Hl : Aside0 (Rep S w (.pointer pl) (lT m T))) (Hll : Aside0 (Rep S w (.pointer pll) (lT m (lT m T)))) (Hlr : Aside0 (Rep S w (.pointer plr) (rT m (lT m T)))) (Hr : Aside0 (Rep S w (.pointer pr) (rT m T))) (Hx : Aside0 (Rep S w (.pointer p) T)) :
  Calls Tryd.prog 25 #[.agg #[.bool m, .pointer p, .pointer pl, .pointer pr, .pointer pll, .pointer plr, .pointer prl, .pointer prr, .pointer pa, .pointer pb, .bool rt], .int .i64 3] w (RB w (.bool (can3 m T))) := by
 cases h0 : (decide (0 < wt T)) with
 | false =>
  rw [show can3 m T = false from by simp only [can3, h0, Bool.and_true, Bool.true_and, Bool.and_false, Bool.false_and, Bool.or_true, Bool.true_or, Bool.or_false, Bool.false_or]]
  exact can3_0 m rt p pl pr pll plr prl prr pa pb T w Hl Hll Hlr Hr Hx h0
 | true =>
  cases h1 : (wt (lT m T) == 0) with
  | false =>
   rw [show can3 m T = false from by simp only [can3, h0, h1, Bool.and_true, Bool.true_and, Bool.and_false, Bool.false_and, Bool.or_true, Bool.true_or, Bool.or_false, Bool.false_or]]
   exact can3_1 m rt p pl pr pll plr prl prr pa pb T w Hl Hll Hlr Hr Hx h0 h1
  | true =>
   cases h2 : (wt (rT m (lT m T)) == 0) with
   | false =>
    rw [show can3 m T = false from by simp only [can3, h0, h1, h2, Bool.and_true, Bool.true_and, Bool.and_false, Bool.false_and, Bool.or_true, Bool.true_or, Bool.or_false, Bool.false_or]]
    exact can3_2 m rt p pl pr pll plr prl prr pa pb T w Hl Hll Hlr Hr Hx h0 h1 h2
   | true =>
    cases h3 : (innerB (rT m (lT m T))) with
    | false =>
     rw [show can3 m T = false from by simp only [can3, h0, h1, h2, h3, Bool.and_true, Bool.true_and, Bool.and_false, Bool.false_and, Bool.or_true, Bool.true_or, Bool.or_false, Bool.false_or]]
     exact can3_3 m rt p pl pr pll plr prl prr pa pb T w Hl Hll Hlr Hr Hx h0 h1 h2 h3
    | true =>
     cases h4 : (decide (0 < wt (lT m (lT m T)))) with
     | false =>
      rw [show can3 m T = false from by simp only [can3, h0, h1, h2, h3, h4, Bool.and_true, Bool.true_and, Bool.and_false, Bool.false_and, Bool.or_true, Bool.true_or, Bool.or_false, Bool.false_or]]
      exact can3_4 m rt p pl pr pll plr prl prr pa pb T w Hl Hll Hlr Hr Hx h0 h1 h2 h3 h4
     | true =>
      cases h5 : (decide (0 < wt (rT m T))) with
      | false =>
       rw [show can3 m T = false from by simp only [can3, h0, h1, h2, h3, h4, h5, Bool.and_true, Bool.true_and, Bool.and_false, Bool.false_and, Bool.or_true, Bool.true_or, Bool.or_false, Bool.false_or]]
       exact can3_5 m rt p pl pr pll plr prl prr pa pb T w Hl Hll Hlr Hr Hx h0 h1 h2 h3 h4 h5
      | true =>
       rw [show can3 m T = true from by simp only [can3, h0, h1, h2, h3, h4, h5, Bool.and_true, Bool.true_and, Bool.and_false, Bool.false_and, Bool.or_true, Bool.true_or, Bool.or_false, Bool.false_or]]
       exact can3_6 m rt p pl pr pll plr prl prr pa pb T w Hl Hll Hlr Hr Hx h0 h1 h2 h3 h4 h5
def can4 (m : Bool) (T : Tr) : Bool := (decide (1 < wt (lT m T))) && (wt (rT m T) == 1) && (decide (0 < wt (lT m (rT m T)))) && (decide (0 < wt (rT m (rT m T))))
theorem can4_0 (m rt : Bool) (p pl pr pll plr prl prr pa pb : Option Addr) (T : Tr) (w : World) (Hl : Aside0 (Rep S w (.pointer pl) (lT m T))) (Hr : Aside0 (Rep S w (.pointer pr) (rT m T))) (Hrl : Aside0 (Rep S w (.pointer prl) (lT m (rT m T)))) (Hrr : Aside0 (Rep S w (.pointer prr) (rT m (rT m T)))) (h0 : (decide (1 < wt (lT m T))) = false) :
  Calls Tryd.prog 25 #[.agg #[.bool m, .pointer p, .pointer pl, .pointer pr, .pointer pll, .pointer plr, .pointer prl, .pointer prr, .pointer pa, .pointer pb, .bool rt], .int .i64 4] w (RB w (.bool false)) := by
 have hu111 := Tryd.underlying62
 have A0 := Am h0
 clear h0
 go_enter Tryd.func25, Tryd.ntmps25
 go_wp2_with (fail)
 refine (over_any _ _ _ (Hl.out.below ((Below.refl _ _).alloc (Nat.le_refl _) _))).mono ?_
 rw [A0.out]
 rintro e w' ⟨rfl, rfl⟩
 go_wp2
 go_ret
 exact ⟨rfl, (Below.refl _ _).alloc (Nat.le_refl _) _⟩
theorem can4_1 (m rt : Bool) (p pl pr pll plr prl prr pa pb : Option Addr) (T : Tr) (w : World) (Hl : Aside0 (Rep S w (.pointer pl) (lT m T))) (Hr : Aside0 (Rep S w (.pointer pr) (rT m T))) (Hrl : Aside0 (Rep S w (.pointer prl) (lT m (rT m T)))) (Hrr : Aside0 (Rep S w (.pointer prr) (rT m (rT m T)))) (h0 : (decide (1 < wt (lT m T))) = true) (h1 : (wt (rT m T) == 1) = false) :
  Calls Tryd.prog 25 #[.agg #[.bool m, .pointer p, .pointer pl, .pointer pr, .pointer pll, .pointer plr, .pointer prl, .pointer prr, .pointer pa, .pointer pb, .bool rt], .int .i64 4] w (RB w (.bool false)) := by
 have hu111 := Tryd.underlying62
 have A0 := Am h0
 have A1 := Am h1
 clear h0 h1
 go_enter Tryd.func25, Tryd.ntmps25
 go_wp2_with (fail)
 refine (over_any _ _ _ (Hl.out.below ((Below.refl _ _).alloc (Nat.le_refl _) _))).mono ?_
 rw [A0.out]
 rintro e w' ⟨rfl, rfl⟩
 go_wp2_with (fail)
 refine (one_any _ _ _ (Hr.out.below ((Below.refl _ _).alloc (Nat.le_refl _) _))).mono ?_
 rw [A1.out]
 rintro e w' ⟨rfl, rfl⟩
 go_wp2
 go_ret
 exact ⟨rfl, (Below.refl _ _).alloc (Nat.le_refl _) _⟩
theorem can4_2 (m rt : Bool) (p pl pr pll plr prl prr pa pb : Option Addr) (T : Tr) (w : World) (Hl : Aside0 (Rep S w (.pointer pl) (lT m T))) (Hr : Aside0 (Rep S w (.pointer pr) (rT m T))) (Hrl : Aside0 (Rep S w (.pointer prl) (lT m (rT m T)))) (Hrr : Aside0 (Rep S w (.pointer prr) (rT m (rT m T)))) (h0 : (decide (1 < wt (lT m T))) = true) (h1 : (wt (rT m T) == 1) = true) (h2 : (decide (0 < wt (lT m (rT m T)))) = false) :
  Calls Tryd.prog 25 #[.agg #[.bool m, .pointer p, .pointer pl, .pointer pr, .pointer pll, .pointer plr, .pointer prl, .pointer prr, .pointer pa, .pointer pb, .bool rt], .int .i64 4] w (RB w (.bool false)) := by
 have hu111 := Tryd.underlying62
 have A0 := Am h0
 have A1 := Am h1
 have A2 := Am h2
 clear h0 h1 h2
 go_enter Tryd.func25, Tryd.ntmps25
 go_wp2_with (fail)
 refine (over_any _ _ _ (Hl.out.below ((Below.refl _ _).alloc (Nat.le_refl _) _))).mono ?_
 rw [A0.out]
 rintro e w' ⟨rfl, rfl⟩
 go_wp2_with (fail)
 refine (one_any _ _ _ (Hr.out.below ((Below.refl _ _).alloc (Nat.le_refl _) _))).mono ?_
 rw [A1.out]
 rintro e w' ⟨rfl, rfl⟩
 go_wp2_with (fail)
 refine (black_any _ _ _ (Hrl.out.below ((Below.refl _ _).alloc (Nat.le_refl _) _))).mono ?_
 rw [A2.out]
 rintro e w' ⟨rfl, rfl⟩
 go_wp2
 go_ret
 exact ⟨rfl, (Below.refl _ _).alloc (Nat.le_refl _) _⟩
theorem can4_3 (m rt : Bool) (p pl pr pll plr prl prr pa pb : Option Addr) (T : Tr) (w : World) (Hl : Aside0 (Rep S w (.pointer pl) (lT m T))) (Hr : Aside0 (Rep S w (.pointer pr) (rT m T))) (Hrl : Aside0 (Rep S w (.pointer prl) (lT m (rT m T)))) (Hrr : Aside0 (Rep S w (.pointer prr) (rT m (rT m T)))) (h0 : (decide (1 < wt (lT m T))) = true) (h1 : (wt (rT m T) == 1) = true) (h2 : (decide (0 < wt (lT m (rT m T)))) = true) (h3 : (decide (0 < wt (rT m (rT m T)))) = false) :
  Calls Tryd.prog 25 #[.agg #[.bool m, .pointer p, .pointer pl, .pointer pr, .pointer pll, .pointer plr, .pointer prl, .pointer prr, .pointer pa, .pointer pb, .bool rt], .int .i64 4] w (RB w (.bool false)) := by
 have hu111 := Tryd.underlying62
 have A0 := Am h0
 have A1 := Am h1
 have A2 := Am h2
 have A3 := Am h3
 clear h0 h1 h2 h3
 go_enter Tryd.func25, Tryd.ntmps25
 go_wp2_with (fail)
 refine (over_any _ _ _ (Hl.out.below ((Below.refl _ _).alloc (Nat.le_refl _) _))).mono ?_
 rw [A0.out]
 rintro e w' ⟨rfl, rfl⟩
 go_wp2_with (fail)
 refine (one_any _ _ _ (Hr.out.below ((Below.refl _ _).alloc (Nat.le_refl _) _))).mono ?_
 rw [A1.out]
 rintro e w' ⟨rfl, rfl⟩
 go_wp2_with (fail)
 refine (black_any _ _ _ (Hrl.out.below ((Below.refl _ _).alloc (Nat.le_refl _) _))).mono ?_
 rw [A2.out]
 rintro e w' ⟨rfl, rfl⟩
 go_wp2_with (fail)
 refine (black_any _ _ _ (Hrr.out.below ((Below.refl _ _).alloc (Nat.le_refl _) _))).mono ?_
 rw [A3.out]
 rintro e w' ⟨rfl, rfl⟩
 go_wp2
 go_ret
 exact ⟨rfl, (Below.refl _ _).alloc (Nat.le_refl _) _⟩
theorem can4_4 (m rt : Bool) (p pl pr pll plr prl prr pa pb : Option Addr) (T : Tr) (w : World) (Hl : Aside0 (Rep S w (.pointer pl) (lT m T))) (Hr : Aside0 (Rep S w (.pointer pr) (rT m T))) (Hrl : Aside0 (Rep S w (.pointer prl) (lT m (rT m T)))) (Hrr : Aside0 (Rep S w (.pointer prr) (rT m (rT m T)))) (h0 : (decide (1 < wt (lT m T))) = true) (h1 : (wt (rT m T) == 1) = true) (h2 : (decide (0 < wt (lT m (rT m T)))) = true) (h3 : (decide (0 < wt (rT m (rT m T)))) = true) :
  Calls Tryd.prog 25 #[.agg #[.bool m, .pointer p, .pointer pl, .pointer pr, .pointer pll, .pointer plr, .pointer prl, .pointer prr, .pointer pa, .pointer pb, .bool rt], .int .i64 4] w (RB w (.bool true)) := by
 have hu111 := Tryd.underlying62
 have A0 := Am h0
 have A1 := Am h1
 have A2 := Am h2
 have A3 := Am h3
 clear h0 h1 h2 h3
 go_enter Tryd.func25, Tryd.ntmps25
 go_wp2_with (fail)
 refine (over_any _ _ _ (Hl.out.below ((Below.refl _ _).alloc (Nat.le_refl _) _))).mono ?_
 rw [A0.out]
 rintro e w' ⟨rfl, rfl⟩
 go_wp2_with (fail)
 refine (one_any _ _ _ (Hr.out.below ((Below.refl _ _).alloc (Nat.le_refl _) _))).mono ?_
 rw [A1.out]
 rintro e w' ⟨rfl, rfl⟩
 go_wp2_with (fail)
 refine (black_any _ _ _ (Hrl.out.below ((Below.refl _ _).alloc (Nat.le_refl _) _))).mono ?_
 rw [A2.out]
 rintro e w' ⟨rfl, rfl⟩
 go_wp2_with (fail)
 refine (black_any _ _ _ (Hrr.out.below ((Below.refl _ _).alloc (Nat.le_refl _) _))).mono ?_
 rw [A3.out]
 rintro e w' ⟨rfl, rfl⟩
 go_wp2
 go_ret
 exact ⟨rfl, (Below.refl _ _).alloc (Nat.le_refl _) _⟩
theorem can4_any (m rt : Bool) (p pl pr pll plr prl prr pa pb : Option Addr) (T : Tr) (w : World) (Hl : Aside0 (Rep S w (.pointer pl) (lT m T))) (Hr : Aside0 (Rep S w (.pointer pr) (rT m T))) (Hrl : Aside0 (Rep S w (.pointer prl) (lT m (rT m T)))) (Hrr : Aside0 (Rep S w (.pointer prr) (rT m (rT m T)))) :
  Calls Tryd.prog 25 #[.agg #[.bool m, .pointer p, .pointer pl, .pointer pr, .pointer pll, .pointer plr, .pointer prl, .pointer prr, .pointer pa, .pointer pb, .bool rt], .int .i64 4] w (RB w (.bool (can4 m T))) := by
 cases h0 : (decide (1 < wt (lT m T))) with
 | false =>
  rw [show can4 m T = false from by simp only [can4, h0, Bool.and_true, Bool.true_and, Bool.and_false, Bool.false_and, Bool.or_true, Bool.true_or, Bool.or_false, Bool.false_or]]
  exact can4_0 m rt p pl pr pll plr prl prr pa pb T w Hl Hr Hrl Hrr h0
 | true =>
  cases h1 : (wt (rT m T) == 1) with
  | false =>
   rw [show can4 m T = false from by simp only [can4, h0, h1, Bool.and_true, Bool.true_and, Bool.and_false, Bool.false_and, Bool.or_true, Bool.true_or, Bool.or_false, Bool.false_or]]
   exact can4_1 m rt p pl pr pll plr prl prr pa pb T w Hl Hr Hrl Hrr h0 h1
  | true =>
   cases h2 : (decide (0 < wt (lT m (rT m T)))) with
   | false =>
    rw [show can4 m T = false from by simp only [can4, h0, h1, h2, Bool.and_true, Bool.true_and, Bool.and_false, Bool.false_and, Bool.or_true, Bool.true_or, Bool.or_false, Bool.false_or]]
    exact can4_2 m rt p pl pr pll plr prl prr pa pb T w Hl Hr Hrl Hrr h0 h1 h2
   | true =>
    cases h3 : (decide (0 < wt (rT m (rT m T)))) with
    | false =>
     rw [show can4 m T = false from by simp only [can4, h0, h1, h2, h3, Bool.and_true, Bool.true_and, Bool.and_false, Bool.false_and, Bool.or_true, Bool.true_or, Bool.or_false, Bool.false_or]]
     exact can4_3 m rt p pl pr pll plr prl prr pa pb T w Hl Hr Hrl Hrr h0 h1 h2 h3
    | true =>
     rw [show can4 m T = true from by simp only [can4, h0, h1, h2, h3, Bool.and_true, Bool.true_and, Bool.and_false, Bool.false_and, Bool.or_true, Bool.true_or, Bool.or_false, Bool.false_or]]
     exact can4_4 m rt p pl pr pll plr prl prr pa pb T w Hl Hr Hrl Hrr h0 h1 h2 h3
def can11 (m : Bool) (T : Tr) : Bool := (decide (1 < wt (lT m T))) && (decide (1 < wt (rT m T)))
theorem can11_0 (m rt : Bool) (p pl pr pll plr prl prr pa pb : Option Addr) (T : Tr) (w : World) (Hl : Aside0 (Rep S w (.pointer pl) (lT m T))) (Hr : Aside0 (Rep S w (.pointer pr) (rT m T))) (h0 : (decide (1 < wt (lT m T))) = false) :
  Calls Tryd.prog 25 #[.agg #[.bool m, .pointer p, .pointer pl, .pointer pr, .pointer pll, .pointer plr, .pointer prl, .pointer prr, .pointer pa, .pointer pb, .bool rt], .int .i64 11] w (RB w (.bool false)) := by
 have hu111 := Tryd.underlying62
 have A0 := Am h0
 clear h0
 go_enter Tryd.func25, Tryd.ntmps25
 go_wp2_with (fail)
 refine (over_any _ _ _ (Hl.out.below ((Below.refl _ _).alloc (Nat.le_refl _) _))).mono ?_
 rw [A0.out]
 rintro e w' ⟨rfl, rfl⟩
 go_wp2
 go_ret
 exact ⟨rfl, (Below.refl _ _).alloc (Nat.le_refl _) _⟩
theorem can11_1 (m rt : Bool) (p pl pr pll plr prl prr pa pb : Option Addr) (T : Tr) (w : World) (Hl : Aside0 (Rep S w (.pointer pl) (lT m T))) (Hr : Aside0 (Rep S w (.pointer pr) (rT m T))) (h0 : (decide (1 < wt (lT m T))) = true) (h1 : (decide (1 < wt (rT m T))) = false) :
  Calls Tryd.prog 25 #[.agg #[.bool m, .pointer p, .pointer pl, .pointer pr, .pointer pll, .pointer plr, .pointer prl, .pointer prr, .pointer pa, .pointer pb, .bool rt], .int .i64 11] w (RB w (.bool false)) := by
 have hu111 := Tryd.underlying62
 have A0 := Am h0
 have A1 := Am h1
 clear h0 h1
 go_enter Tryd.func25, Tryd.ntmps25
 go_wp2_with (fail)
 refine (over_any _ _ _ (Hl.out.below ((Below.refl _ _).alloc (Nat.le_refl _) _))).mono ?_
 rw [A0.out]
 rintro e w' ⟨rfl, rfl⟩
 go_wp2_with (fail)
 refine (over_any _ _ _ (Hr.out.below ((Below.refl _ _).alloc (Nat.le_refl _) _))).mono ?_
 rw [A1.out]
 rintro e w' ⟨rfl, rfl⟩
 go_wp2
 go_ret
 exact ⟨rfl, (Below.refl _ _).alloc (Nat.le_refl _) _⟩
theorem can11_2 (m rt : Bool) (p pl pr pll plr prl prr pa pb : Option Addr) (T : Tr) (w : World) (Hl : Aside0 (Rep S w (.pointer pl) (lT m T))) (Hr : Aside0 (Rep S w (.pointer pr) (rT m T))) (h0 : (decide (1 < wt (lT m T))) = true) (h1 : (decide (1 < wt (rT m T))) = true) :
  Calls Tryd.prog 25 #[.agg #[.bool m, .pointer p, .pointer pl, .pointer pr, .pointer pll, .pointer plr, .pointer prl, .pointer prr, .pointer pa, .pointer pb, .bool rt], .int .i64 11] w (RB w (.bool true)) := by
 have hu111 := Tryd.underlying62
 have A0 := Am h0
 have A1 := Am h1
 clear h0 h1
 go_enter Tryd.func25, Tryd.ntmps25
 go_wp2_with (fail)
 refine (over_any _ _ _ (Hl.out.below ((Below.refl _ _).alloc (Nat.le_refl _) _))).mono ?_
 rw [A0.out]
 rintro e w' ⟨rfl, rfl⟩
 go_wp2_with (fail)
 refine (over_any _ _ _ (Hr.out.below ((Below.refl _ _).alloc (Nat.le_refl _) _))).mono ?_
 rw [A1.out]
 rintro e w' ⟨rfl, rfl⟩
 go_wp2
 go_ret
 exact ⟨rfl, (Below.refl _ _).alloc (Nat.le_refl _) _⟩
theorem can11_any (m rt : Bool) (p pl pr pll plr prl prr pa pb : Option Addr) (T : Tr) (w : World) (Hl : Aside0 (Rep S w (.pointer pl) (lT m T))) (Hr : Aside0 (Rep S w (.pointer pr) (rT m T))) :
  Calls Tryd.prog 25 #[.agg #[.bool m, .pointer p, .pointer pl, .pointer pr, .pointer pll, .pointer plr, .pointer prl, .pointer prr, .pointer pa, .pointer pb, .bool rt], .int .i64 11] w (RB w (.bool (can11 m T))) := by
 cases h0 : (decide (1 < wt (lT m T))) with
 | false =>
  rw [show can11 m T = false from by simp only [can11, h0, Bool.and_true, Bool.true_and, Bool.and_false, Bool.false_and, Bool.or_true, Bool.true_or, Bool.or_false, Bool.false_or]]
  exact can11_0 m rt p pl pr pll plr prl prr pa pb T w Hl Hr h0
 | true =>
  cases h1 : (decide (1 < wt (rT m T))) with
  | false =>
   rw [show can11 m T = false from by simp only [can11, h0, h1, Bool.and_true, Bool.true_and, Bool.and_false, Bool.false_and, Bool.or_true, Bool.true_or, Bool.or_false, Bool.false_or]]
   exact can11_1 m rt p pl pr pll plr prl prr pa pb T w Hl Hr h0 h1
  | true =>
   rw [show can11 m T = true from by simp only [can11, h0, h1, Bool.and_true, Bool.true_and, Bool.and_false, Bool.false_and, Bool.or_true, Bool.true_or, Bool.or_false, Bool.false_or]]
   exact can11_2 m rt p pl pr pll plr prl prr pa pb T w Hl Hr h0 h1
end
section
variable {S : Nat → Prop}
def can9 (m : Bool) (T : Tr) : Bool := (decide (1 < wt (lT m T))) && (wt (rT m T) == 1) && (wt (rT m (rT m T)) == 0)
theorem can9_0 (m rt : Bool) (p pl pr pll plr prl prr pa pb : Option Addr) (T : Tr) (w : World) (Hl : Aside0 (Rep S w (.pointer pl) (lT m T))) (Hr : Aside0 (Rep S w (.pointer pr) (rT m T))) (Hrr : Aside0 (Rep S w (.pointer prr) (rT m (rT m T)))) (h0 : (decide (1 < wt (lT m T))) = false) :
  Calls Tryd.prog 25 #[.agg #[.bool m, .pointer p, .pointer pl, .pointer pr, .pointer pll, .pointer plr, .pointer prl, .pointer prr, .pointer pa, .pointer pb, .bool rt], .int .i64 9] w (RB w (.bool false)) := by
 have hu111 := Tryd.underlying62
 have A0 := Am h0
 clear h0
 go_enter Tryd.func25, Tryd.ntmps25
 go_wp2_with (fail)
 refine (over_any _ _ _ (Hl.out.below ((Below.refl _ _).alloc (Nat.le_refl _) _))).mono ?_
 rw [A0.out]
 rintro e w' ⟨rfl, rfl⟩
 go_wp2
 go_ret
 exact ⟨rfl, (Below.refl _ _).alloc (Nat.le_refl _) _⟩
theorem can9_1 (m rt : Bool) (p pl pr pll plr prl prr pa pb : Option Addr) (T : Tr) (w : World) (Hl : Aside0 (Rep S w (.pointer pl) (lT m T))) (Hr : Aside0 (Rep S w (.pointer pr) (rT m T))) (Hrr : Aside0 (Rep S w (.pointer prr) (rT m (rT m T)))) (h0 : (decide (1 < wt (lT m T))) = true) (h1 : (wt (rT m T) == 1) = false) :
  Calls Tryd.prog 25 #[.agg #[.bool m, .pointer p, .pointer pl, .pointer pr, .pointer pll, .pointer plr, .pointer prl, .pointer prr, .pointer pa, .pointer pb, .bool rt], .int .i64 9] w (RB w (.bool false)) := by
 have hu111 := Tryd.underlying62
 have A0 := Am h0
 have A1 := Am h1
 clear h0 h1
 go_enter Tryd.func25, Tryd.ntmps25
 go_wp2_with (fail)
 refine (over_any _ _ _ (Hl.out.below ((Below.refl _ _).alloc (Nat.le_refl _) _))).mono ?_
 rw [A0.out]
 rintro e w' ⟨rfl, rfl⟩
 go_wp2_with (fail)
 refine (one_any _ _ _ (Hr.out.below ((Below.refl _ _).alloc (Nat.le_refl _) _))).mono ?_
 rw [A1.out]
 rintro e w' ⟨rfl, rfl⟩
 go_wp2
 go_ret
 exact ⟨rfl, (Below.refl _ _).alloc (Nat.le_refl _) _⟩
theorem can9_2 (m rt : Bool) (p pl pr pll plr prl prr pa pb : Option Addr) (T : Tr) (w : World) (Hl : Aside0 (Rep S w (.pointer pl) (lT m T))) (Hr : Aside0 (Rep S w (.pointer pr) (rT m T))) (Hrr : Aside0 (Rep S w (.pointer prr) (rT m (rT m T)))) (h0 : (decide (1 < wt (lT m T))) = true) (h1 : (wt (rT m T) == 1) = true) (h2 : (wt (rT m (rT m T)) == 0) = false) :
  Calls Tryd.prog 25 #[.agg #[.bool m, .pointer p, .pointer pl, .pointer pr, .pointer pll, .pointer plr, .pointer prl, .pointer prr, .pointer pa, .pointer pb, .bool rt], .int .i64 9] w (RB w (.bool false)) := by
 have hu111 := Tryd.underlying62
 have A0 := Am h0
 have A1 := Am h1
 have A2 := Am h2
 clear h0 h1 h2
 go_enter Tryd.func25, Tryd.ntmps25
 go_wp2_with (fail)
 refine (over_any _ _ _ (Hl.out.below ((Below.refl _ _).alloc (Nat.le_refl _) _))).mono ?_
 rw [A0.out]
 rintro e w' ⟨rfl, rfl⟩
 go_wp2_with (fail)
 refine (one_any _ _ _ (Hr.out.below ((Below.refl _ _).alloc (Nat.le_refl _) _))).mono ?_
 rw [A1.out]
 rintro e w' ⟨rfl, rfl⟩
 go_wp2_with (fail)
 refine (red_any _ _ _ (Hrr.out.below ((Below.refl _ _).alloc (Nat.le_refl _) _))).mono ?_
 rw [A2.out]
 rintro e w' ⟨rfl, rfl⟩
 go_wp2
 go_ret
 exact ⟨rfl, (Below.refl _ _).alloc (Nat.le_refl _) _⟩
theorem can9_3 (m rt : Bool) (p pl pr pll plr prl prr pa pb : Option Addr) (T : Tr) (w : World) (Hl : Aside0 (Rep S w (.pointer pl) (lT m T))) (Hr : Aside0 (Rep S w (.pointer pr) (rT m T))) (Hrr : Aside0 (Rep S w (.pointer prr) (rT m (rT m T)))) (h0 : (decide (1 < wt (lT m T))) = true) (h1 : (wt (rT m T) == 1) = true) (h2 : (wt (rT m (rT m T)) == 0) = true) :
  Calls Tryd.prog 25 #[.agg #[.bool m, .pointer p, .pointer pl, .pointer pr, .pointer pll, .pointer plr, .pointer prl, .pointer prr, .pointer pa, .pointer pb, .bool rt], .int .i64 9] w (RB w (.bool true)) := by
 have hu111 := Tryd.underlying62
 have A0 := Am h0
 have A1 := Am h1
 have A2 := Am h2
 clear h0 h1 h2
 go_enter Tryd.func25, Tryd.ntmps25
 go_wp2_with (fail)
 refine (over_any _ _ _ (Hl.out.below ((Below.refl _ _).alloc (Nat.le_refl _) _))).mono ?_
 rw [A0.out]
 rintro e w' ⟨rfl, rfl⟩
 go_wp2_with (fail)
 refine (one_any _ _ _ (Hr.out.below ((Below.refl _ _).alloc (Nat.le_refl _) _))).mono ?_
 rw [A1.out]
 rintro e w' ⟨rfl, rfl⟩
 go_wp2_with (fail)
 refine (red_any _ _ _ (Hrr.out.below ((Below.refl _ _).alloc (Nat.le_refl _) _))).mono ?_
 rw [A2.out]
 rintro e w' ⟨rfl, rfl⟩
 go_wp2
 go_ret
 exact ⟨rfl, (Below.refl _ _).alloc (Nat.le_refl _) _⟩
theorem can9_any (m rt : Bool) (p pl pr pll plr prl prr pa pb : Option Addr) (T : Tr) (w : World) (Hl : Aside0 (Rep S w (.pointer pl) (lT m T))) (Hr : Aside0 (Rep S w (.pointer pr) (rT m T))) (Hrr : Aside0 (Rep S w (.pointer prr) (rT m (rT m T)))) :
  Calls Tryd.prog 25 #[.agg #[.bool m, .pointer p, .pointer pl, .pointer pr, .pointer pll, .pointer plr, .pointer prl, .pointer prr, .pointer pa, .pointer pb, .bool rt], .int .i64 9] w (RB w (.bool (can9 m T))) := by
 cases h0 : (decide (1 < wt (lT m T))) with
 | false =>
  rw [show can9 m T = false from by simp only [can9, h0, Bool.and_true, Bool.true_and, Bool.and_false, Bool.false_and, Bool.or_true, Bool.true_or, Bool.or_false, Bool.false_or]]
  exact can9_0 m rt p pl pr pll plr prl prr pa pb T w Hl Hr Hrr h0
 | true =>
  cases h1 : (wt (rT m T) == 1) with
  | false =>
   rw [show can9 m T = false from by simp only [can9, h0, h1, Bool.and_true, Bool.true_and, Bool.and_false, Bool.false_and, Bool.or_true, Bool.true_or, Bool.or_false, Bool.false_or]]
   exact can9_1 m rt p pl pr pll plr prl prr pa pb T w Hl Hr Hrr h0 h1
  | true =>
   cases h2 : (wt (rT m (rT m T)) == 0) with
   | false =>
    rw [show can9 m T = false from by simp only [can9, h0, h1, h2, Bool.and_true, Bool.true_and, Bool.and_false, Bool.false_and, Bool.or_true, Bool.true_or, Bool.or_false, Bool.false_or]]
    exact can9_2 m rt p pl pr pll plr prl prr pa pb T w Hl Hr Hrr h0 h1 h2
   | true =>
    rw [show can9 m T = true from by simp only [can9, h0, h1, h2, Bool.and_true, Bool.true_and, Bool.and_false, Bool.false_and, Bool.or_true, Bool.true_or, Bool.or_false, Bool.false_or]]
    exact can9_3 m rt p pl pr pll plr prl prr pa pb T w Hl Hr Hrr h0 h1 h2
def can10 (m : Bool) (T : Tr) : Bool := (decide (1 < wt (lT m T))) && (wt (rT m T) == 1) && (wt (lT m (rT m T)) == 0) && (innerB (lT m (rT m T))) && (decide (0 < wt (rT m (rT m T))))
theorem can10_0 (m rt : Bool) (p pl pr pll plr prl prr pa pb : Option Addr) (T : Tr) (w : World) (Hl : Aside0 (Rep S w (.pointer pl) (lT m T))) (Hr : Aside0 (Rep S w (.pointer pr) (rT m T))) (Hrl : Aside0 (Rep S w (.pointer prl) (lT m (rT m T)))) (Hrr : Aside0 (Rep S w (.pointer prr) (rT m (rT m T)))) (h0 : (decide (1 < wt (lT m T))) = false) :
  Calls Tryd.prog 25 #[.agg #[.bool m, .pointer p, .pointer pl, .pointer pr, .pointer pll, .pointer plr, .pointer prl, .pointer prr, .pointer pa, .pointer pb, .bool rt], .int .i64 10] w (RB w (.bool false)) := by
 have hu111 := Tryd.underlying62
 have A0 := Am h0
 clear h0
 go_enter Tryd.func25, Tryd.ntmps25
 go_wp2_with (fail)
 refine (over_any _ _ _ (Hl.out.below ((Below.refl _ _).alloc (Nat.le_refl _) _))).mono ?_
 rw [A0.out]
 rintro e w' ⟨rfl, rfl⟩
 go_wp2
 go_ret
 exact ⟨rfl, (Below.refl _ _).alloc (Nat.le_refl _) _⟩
theorem can10_1 (m rt : Bool) (p pl pr pll plr prl prr pa pb : Option Addr) (T : Tr) (w : World) (Hl : Aside0 (Rep S w (.pointer pl) (lT m T))) (Hr : Aside0 (Rep S w (.pointer pr) (rT m T))) (Hrl : Aside0 (Rep S w (.pointer prl) (lT m (rT m T)))) (Hrr : Aside0 (Rep S w (.pointer prr) (rT m (rT m T)))) (h0 : (decide (1 < wt (lT m T))) = true) (h1 : (wt (rT m T) == 1) = false) :
  Calls Tryd.prog 25 #[.agg #[.bool m, .pointer p, .pointer pl, .pointer pr, .pointer pll, .pointer plr, .pointer prl, .pointer prr, .pointer pa, .pointer pb, .bool rt], .int .i64 10] w (RB w (.bool false)) := by
 have hu111 := Tryd.underlying62
 have A0 := Am h0
 have A1 := Am h1
 clear h0 h1
 go_enter Tryd.func25, Tryd.ntmps25
 go_wp2_with (fail)
 refine (over_any _ _ _ (Hl.out.below ((Below.refl _ _).alloc (Nat.le_refl _) _))).mono ?_
 rw [A0.out]
 rintro e w' ⟨rfl, rfl⟩
 go_wp2_with (fail)
 refine (one_any _ _ _ (Hr.out.below ((Below.refl _ _).alloc (Nat.le_refl _) _))).mono ?_
 rw [A1.out]
 rintro e w' ⟨rfl, rfl⟩
 go_wp2
 go_ret
 exact ⟨rfl, (Below.refl _ _).alloc (Nat.le_refl _) _⟩
theorem can10_2 (m rt : Bool) (p pl pr pll plr prl prr pa pb : Option Addr) (T : Tr) (w : World) (Hl : Aside0 (Rep S w (.pointer pl) (lT m T))) (Hr : Aside0 (Rep S w (.pointer pr) (rT m T))) (Hrl : Aside0 (Rep S w (.pointer prl) (lT m (rT m T)))) (Hrr : Aside0 (Rep S w (.pointer prr) (rT m (rT m T)))) (h0 : (decide (1 < wt (lT m T))) = true) (h1 : (wt (rT m T) == 1) = true) (h2 : (wt (lT m (rT m T)) == 0) = false) :
  Calls Tryd.prog 25 #[.agg #[.bool m, .pointer p, .pointer pl, .pointer pr, .pointer pll, .pointer plr, .pointer prl, .pointer prr, .pointer pa, .pointer pb, .bool rt], .int .i64 10] w (RB w (.bool false)) := by
 have hu111 := Tryd.underlying62
 have A0 := Am h0
 have A1 := Am h1
 have A2 := Am h2
 clear h0 h1 h2
 go_enter Tryd.func25, Tryd.ntmps25
 go_wp2_with (fail)
 refine (over_any _ _ _ (Hl.out.below ((Below.refl _ _).alloc (Nat.le_refl _) _))).mono ?_
 rw [A0.out]
 rintro e w' ⟨rfl, rfl⟩
 go_wp2_with (fail)
 refine (one_any _ _ _ (Hr.out.below ((Below.refl _ _).alloc (Nat.le_refl _) _))).mono ?_
 rw [A1.out]
 rintro e w' ⟨rfl, rfl⟩
 go_wp2_with (fail)
 refine (red_any _ _ _ (Hrl.out.below ((Below.refl _ _).alloc (Nat.le_refl _) _))).mono ?_
 rw [A2.out]
 rintro e w' ⟨rfl, rfl⟩
 go_wp2
 go_ret
 exact ⟨rfl, (Below.refl _ _).alloc (Nat.le_refl _) _⟩
theorem can10_3 (m rt : Bool) (p pl pr pll plr prl prr pa pb : Option Addr) (T : Tr) (w : World) (Hl : Aside0 (Rep S w (.pointer pl) (lT m T))) (Hr : Aside0 (Rep S w (.pointer pr) (rT m T))) (Hrl : Aside0 (Rep S w (.pointer prl) (lT m (rT m T)))) (Hrr : Aside0 (Rep S w (.pointer prr) (rT m (rT m T)))) (h0 : (decide (1 < wt (lT m T))) = true) (h1 : (wt (rT m T) == 1) = true) (h2 : (wt (lT m (rT m T)) == 0) = true) (h3 : (innerB (lT m (rT m T))) = false) :
  Calls Tryd.prog 25 #[.agg #[.bool m, .pointer p, .pointer pl, .pointer pr, .pointer pll, .pointer plr, .pointer prl, .pointer prr, .pointer pa, .pointer pb, .bool rt], .int .i64 10] w (RB w (.bool false)) := by
 have hu111 := Tryd.underlying62
 have A0 := Am h0
 have A1 := Am h1
 have A2 := Am h2
 have A3 := Am h3
 clear h0 h1 h2 h3
 go_enter Tryd.func25, Tryd.ntmps25
 go_wp2_with (fail)
 refine (over_any _ _ _ (Hl.out.below ((Below.refl _ _).alloc (Nat.le_refl _) _))).mono ?_
 rw [A0.out]
 rintro e w' ⟨rfl, rfl⟩
 go_wp2_with (fail)
 refine (one_any _ _ _ (Hr.out.below ((Below.refl _ _).alloc (Nat.le_refl _) _))).mono ?_
 rw [A1.out]
 rintro e w' ⟨rfl, rfl⟩
 go_wp2_with (fail)
 refine (red_any _ _ _ (Hrl.out.below ((Below.refl _ _).alloc (Nat.le_refl _) _))).mono ?_
 rw [A2.out]
 rintro e w' ⟨rfl, rfl⟩
 go_wp2_with (fail)
 refine (inner_any _ _ _ (Hrl.out.below ((Below.refl _ _).alloc (Nat.le_refl _) _))).mono ?_
 rw [A3.out]
 rintro e w' ⟨rfl, rfl⟩
 go_wp2
 go_ret
 exact ⟨rfl, (Below.refl _ _).alloc (Nat.le_refl _) _⟩
theorem can10_4 (m rt : Bool) (p pl pr pll plr prl prr pa pb : Option Addr) (T : Tr) (w : World) (Hl : Aside0 (Rep S w (.pointer pl) (lT m T))) (Hr : Aside0 (Rep S w (.pointer pr) (rT m T))) (Hrl : Aside0 (Rep S w (.pointer prl) (lT m (rT m T)))) (Hrr : Aside0 (Rep S w (.pointer prr) (rT m (rT m T)))) (h0 : (decide (1 < wt (lT m T))) = true) (h1 : (wt (rT m T) == 1) = true) (h2 : (wt (lT m (rT m T)) == 0) = true) (h3 : (innerB (lT m (rT m T))) = true) (h4 : (decide (0 < wt (rT m (rT m T)))) = false) :
  Calls Tryd.prog 25 #[.agg #[.bool m, .pointer p, .pointer pl, .pointer pr, .pointer pll, .pointer plr, .pointer prl, .pointer prr, .pointer pa, .pointer pb, .bool rt], .int .i64 10] w (RB w (.bool false)) := by
 have hu111 := Tryd.underlying62
 have A0 := Am h0
 have A1 := Am h1
 have A2 := Am h2
 have A3 := Am h3
 have A4 := Am h4
 clear h0 h1 h2 h3 h4
 go_enter Tryd.func25, Tryd.ntmps25
 go_wp2_with (fail)
 refine (over_any _ _ _ (Hl.out.below ((Below.refl _ _).alloc (Nat.le_refl _) _))).mono ?_
 rw [A0.out]
 rintro e w' ⟨rfl, rfl⟩
 go_wp2_with (fail)
 refine (one_any _ _ _ (Hr.out.below ((Below.refl _ _).alloc (Nat.le_refl _) _))).mono ?_
 rw [A1.out]
 rintro e w' ⟨rfl, rfl⟩
 go_wp2_with (fail)
 refine (red_any _ _ _ (Hrl.out.below ((Below.refl _ _).alloc (Nat.le_refl _) _))).mono ?_
 rw [A2.out]
 rintro e w' ⟨rfl, rfl⟩
 go_wp2_with (fail)
 refine (inner_any _ _ _ (Hrl.out.below ((Below.refl _ _).alloc (Nat.le_refl _) _))).mono ?_
 rw [A3.out]
 rintro e w' ⟨rfl, rfl⟩
 go_wp2_with (fail)
 refine (black_any _ _ _ (Hrr.out.below ((Below.refl _ _).alloc (Nat.le_refl _) _))).mono ?_
 rw [A4.out]
 rintro e w' ⟨rfl, rfl⟩
 go_wp2
 go_ret
 exact ⟨rfl, (Below.refl _ _).alloc (Nat.le_refl _) _⟩
theorem can10_5 (m rt : Bool) (p pl pr pll plr prl prr pa pb : Option Addr) (T : Tr) (w : World) (Hl : Aside0 (Rep S w (.pointer pl) (lT m T))) (Hr : Aside0 (Rep S w (.pointer pr) (rT m T))) (Hrl : Aside0 (Rep S w (.pointer prl) (lT m (rT m T)))) (Hrr : Aside0 (Rep S w (.pointer prr) (rT m (rT m T)))) (h0 : (decide (1 < wt (lT m T))) = true) (h1 : (wt (rT m T) == 1) = true) (h2 : (wt (lT m (rT m T)) == 0) = true) (h3 : (innerB (lT m (rT m T))) = true) (h4 : (decide (0 < wt (rT m (rT m T)))) = true) :
  Calls Tryd.prog 25 #[.agg #[.bool m, .pointer p, .pointer pl, .pointer pr, .pointer pll, .pointer plr, .pointer prl, .pointer prr, .pointer pa, .pointer pb, .bool rt], .int .i64 10] w (RB w (.bool true)) := by
 have hu111 := Tryd.underlying62
 have A0 := Am h0
 have A1 := Am h1
 have A2 := Am h2
 have A3 := Am h3
 have A4 := Am h4
 clear h0 h1 h2 h3 h4
 go_enter Tryd.func25, Tryd.ntmps25
 go_wp2_with (fail)
 refine (over_any _ _ _ (Hl.out.below ((Below.refl _ _).alloc (Nat.le_refl _) _))).mono ?_
 rw [A0.out]
 rintro e w' ⟨rfl, rfl⟩
 go_wp2_with (fail)
 refine (one_any _ _ _ (Hr.out.below ((Below.refl _ _).alloc (Nat.le_refl _) _))).mono ?_
 rw [A1.out]
 rintro e w' ⟨rfl, rfl⟩
 go_wp2_with (fail)
 refine (red_any _ _ _ (Hrl.out.below ((Below.refl _ _).alloc (Nat.le_refl _) _))).mono ?_
 rw [A2.out]
 rintro e w' ⟨rfl, rfl⟩
 go_wp2_with (fail)
 refine (inner_any _ _ _ (Hrl.out.below ((Below.refl _ _).alloc (Nat.le_refl _) _))).mono ?_
 rw [A3.out]
 rintro e w' ⟨rfl, rfl⟩
 go_wp2_with (fail)
 refine (black_any _ _ _ (Hrr.out.below ((Below.refl _ _).alloc (Nat.le_refl _) _))).mono ?_
 rw [A4.out]
 rintro e w' ⟨rfl, rfl⟩
 go_wp2
 go_ret
 exact ⟨rfl, (Below.refl _ _).alloc (Nat.le_refl _) _⟩
theorem can10_any (m rt : Bool) (p pl pr pll plr prl prr pa pb : Option Addr) (T : Tr) (w : World) (Hl : Aside0 (Rep S w (.pointer pl) (lT m T))) (Hr : Aside0 (Rep S w (.pointer pr) (rT m T))) (Hrl : Aside0 (Rep S w (.pointer prl) (lT m (rT m T)))) (Hrr : Aside0 (Rep S w (.pointer prr) (rT m (rT m T)))) :
  Calls Tryd.prog 25 #[.agg #[.bool m, .pointer p, .pointer pl, .pointer pr, .pointer pll, .pointer plr, .pointer prl, .pointer prr, .pointer pa, .pointer pb, .bool rt], .int .i64 10] w (RB w (.bool (can10 m T))) := by
 cases h0 : (decide (1 < wt (lT m T))) with
 | false =>
  rw [show can10 m T = false from by simp only [can10, h0, Bool.and_true, Bool.true_and, Bool.and_false, Bool.false_and, Bool.or_true, Bool.true_or, Bool.or_false, Bool.false_or]]
  exact can10_0 m rt p pl pr pll plr prl prr pa pb T w Hl Hr Hrl Hrr h0
 | true =>
  cases h1 : (wt (rT m T) == 1) with
  | false =>
   rw [show can10 m T = false from by simp only [can10, h0, h1, Bool.and_true, Bool.true_and, Bool.and_false, Bool.false_and, Bool.or_true, Bool.true_or, Bool.or_false, Bool.false_or]]
   exact can10_1 m rt p pl pr pll plr prl prr pa pb T w Hl Hr Hrl Hrr h0 h1
  | true =>
   cases h2 : (wt (lT m (rT m T)) == 0) with
   | false =>
    rw [show can10 m T = false from by simp only [can10, h0, h1, h2, Bool.and_true, Bool.true_and, Bool.and_false, Bool.false_and, Bool.or_true, Bool.true_or, Bool.or_false, Bool.false_or]]
    exact can10_2 m rt p pl pr pll plr prl prr pa pb T w Hl Hr Hrl Hrr h0 h1 h2
   | true =>
    cases h3 : (innerB (lT m (rT m T))) with
    | false =>
     rw [show can10 m T = false from by simp only [can10, h0, h1, h2, h3, Bool.and_true, Bool.true_and, Bool.and_false, Bool.false_and, Bool.or_true, Bool.true_or, Bool.or_false, Bool.false_or]]
     exact can10_3 m rt p pl pr pll plr prl prr pa pb T w Hl Hr Hrl Hrr h0 h1 h2 h3
    | true =>
     cases h4 : (decide (0 < wt (rT m (rT m T)))) with
     | false =>
      rw [show can10 m T = false from by simp only [can10, h0, h1, h2, h3, h4, Bool.and_true, Bool.true_and, Bool.and_false, Bool.false_and, Bool.or_true, Bool.true_or, Bool.or_false, Bool.false_or]]
      exact can10_4 m rt p pl pr pll plr prl prr pa pb T w Hl Hr Hrl Hrr h0 h1 h2 h3 h4
     | true =>
      rw [show can10 m T = true from by simp only [can10, h0, h1, h2, h3, h4, Bool.and_true, Bool.true_and, Bool.and_false, Bool.false_and, Bool.or_true, Bool.true_or, Bool.or_false, Bool.false_or]]
      exact can10_5 m rt p pl pr pll plr prl prr pa pb T w Hl Hr Hrl Hrr h0 h1 h2 h3 h4
def can5 (m : Bool) (T : Tr) : Bool := (decide (1 < wt (lT m T))) && (wt (rT m T) == 0) && (decide (1 < wt (lT m (rT m T))))
theorem can5_0 (m rt : Bool) (p pl pr pll plr prl prr pa pb : Option Addr) (T : Tr) (w : World) (Hl : Aside0 (Rep S w (.pointer pl) (lT m T))) (Hr : Aside0 (Rep S w (.pointer pr) (rT m T))) (Hrl : Aside0 (Rep S w (.pointer prl) (lT m (rT m T)))) (h0 : (decide (1 < wt (lT m T))) = false) :
  Calls Tryd.prog 25 #[.agg #[.bool m, .pointer p, .pointer pl, .pointer pr, .pointer pll, .pointer plr, .pointer prl, .pointer prr, .pointer pa, .pointer pb, .bool rt], .int .i64 5] w (RB w (.bool false)) := by
 have hu111 := Tryd.underlying62
 have A0 := Am h0
 clear h0
 go_enter Tryd.func25, Tryd.ntmps25
 go_wp2_with (fail)
 refine (over_any _ _ _ (Hl.out.below ((Below.refl _ _).alloc (Nat.le_refl _) _))).mono ?_
 rw [A0.out]
 rintro e w' ⟨rfl, rfl⟩
 go_wp2
 go_ret
 exact ⟨rfl, (Below.refl _ _).alloc (Nat.le_refl _) _⟩
theorem can5_1 (m rt : Bool) (p pl pr pll plr prl prr pa pb : Option Addr) (T : Tr) (w : World) (Hl : Aside0 (Rep S w (.pointer pl) (lT m T))) (Hr : Aside0 (Rep S w (.pointer pr) (rT m T))) (Hrl : Aside0 (Rep S w (.pointer prl) (lT m (rT m T)))) (h0 : (decide (1 < wt (lT m T))) = true) (h1 : (wt (rT m T) == 0) = false) :
  Calls Tryd.prog 25 #[.agg #[.bool m, .pointer p, .pointer pl, .pointer pr, .pointer pll, .pointer plr, .pointer prl, .pointer prr, .pointer pa, .pointer pb, .bool rt], .int .i64 5] w (RB w (.bool false)) := by
 have hu111 := Tryd.underlying62
 have A0 := Am h0
 have A1 := Am h1
 clear h0 h1
 go_enter Tryd.func25, Tryd.ntmps25
 go_wp2_with (fail)
 refine (over_any _ _ _ (Hl.out.below ((Below.refl _ _).alloc (Nat.le_refl _) _))).mono ?_
 rw [A0.out]
 rintro e w' ⟨rfl, rfl⟩
 go_wp2_with (fail)
 refine (red_any _ _ _ (Hr.out.below ((Below.refl _ _).alloc (Nat.le_refl _) _))).mono ?_
 rw [A1.out]
 rintro e w' ⟨rfl, rfl⟩
 go_wp2
 go_ret
 exact ⟨rfl, (Below.refl _ _).alloc (Nat.le_refl _) _⟩
theorem can5_2 (m rt : Bool) (p pl pr pll plr prl prr pa pb : Option Addr) (T : Tr) (w : World) (Hl : Aside0 (Rep S w (.pointer pl) (lT m T))) (Hr : Aside0 (Rep S w (.pointer pr) (rT m T))) (Hrl : Aside0 (Rep S w (.pointer prl) (lT m (rT m T)))) (h0 : (decide (1 < wt (lT m T))) = true) (h1 : (wt (rT m T) == 0) = true) (h2 : (decide (1 < wt (lT m (rT m T)))) = false) :
  Calls Tryd.prog 25 #[.agg #[.bool m, .pointer p, .pointer pl, .pointer pr, .pointer pll, .pointer plr, .pointer prl, .pointer prr, .pointer pa, .pointer pb, .bool rt], .int .i64 5] w (RB w (.bool false)) := by
 have hu111 := Tryd.underlying62
 have A0 := Am h0
 have A1 := Am h1
 have A2 := Am h2
 clear h0 h1 h2
 go_enter Tryd.func25, Tryd.ntmps25
 go_wp2_with (fail)
 refine (over_any _ _ _ (Hl.out.below ((Below.refl _ _).alloc (Nat.le_refl _) _))).mono ?_
 rw [A0.out]
 rintro e w' ⟨rfl, rfl⟩
 go_wp2_with (fail)
 refine (red_any _ _ _ (Hr.out.below ((Below.refl _ _).alloc (Nat.le_refl _) _))).mono ?_
 rw [A1.out]
 rintro e w' ⟨rfl, rfl⟩
 go_wp2_with (fail)
 refine (over_any _ _ _ (Hrl.out.below ((Below.refl _ _).alloc (Nat.le_refl _) _))).mono ?_
 rw [A2.out]
 rintro e w' ⟨rfl, rfl⟩
 go_wp2
 go_ret
 exact ⟨rfl, (Below.refl _ _).alloc (Nat.le_refl _) _⟩
theorem can5_3 (m rt : Bool) (p pl pr pll plr prl prr pa pb : Option Addr) (T : Tr) (w : World) (Hl : Aside0 (Rep S w (.pointer pl) (lT m T))) (Hr : Aside0 (Rep S w (.pointer pr) (rT m T))) (Hrl : Aside0 (Rep S w (.pointer prl) (lT m (rT m T)))) (h0 : (decide (1 < wt (lT m T))) = true) (h1 : (wt (rT m T) == 0) = true) (h2 : (decide (1 < wt (lT m (rT m T)))) = true) :
  Calls Tryd.prog 25 #[.agg #[.bool m, .pointer p, .pointer pl, .pointer pr, .pointer pll, .pointer plr, .pointer prl, .pointer prr, .pointer pa, .pointer pb, .bool rt], .int .i64 5] w (RB w (.bool true)) := by
 have hu111 := Tryd.underlying62
 have A0 := Am h0
 have A1 := Am h1
 have A2 := Am h2
 clear h0 h1 h2
 go_enter Tryd.func25, Tryd.ntmps25
 go_wp2_with (fail)
 refine (over_any _ _ _ (Hl.out.below ((Below.refl _ _).alloc (Nat.le_refl _) _))).mono ?_
 rw [A0.out]
 rintro e w' ⟨rfl, rfl⟩
 go_wp2_with (fail)
 refine (red_any _ _ _ (Hr.out.below ((Below.refl _ _).alloc (Nat.le_refl _) _))).mono ?_
 rw [A1.out]
 rintro e w' ⟨rfl, rfl⟩
 go_wp2_with (fail)
 refine (over_any _ _ _ (Hrl.out.below ((Below.refl _ _).alloc (Nat.le_refl _) _))).mono ?_
 rw [A2.out]
 rintro e w' ⟨rfl, rfl⟩
 go_wp2
 go_ret
 exact ⟨rfl, (Below.refl _ _).alloc (Nat.le_refl _) _⟩
theorem can5_any (m rt : Bool) (p pl pr pll plr prl prr pa pb : Option Addr) (T : Tr) (w : World) (Hl : Aside0 (Rep S w (.pointer pl) (lT m T))) (Hr : Aside0 (Rep S w (.pointer pr) (rT m T))) (Hrl : Aside0 (Rep S w (.pointer prl) (lT m (rT m T)))) :
  Calls Tryd.prog 25 #[.agg #[.bool m, .pointer p, .pointer pl, .pointer pr, .pointer pll, .pointer plr, .pointer prl, .pointer prr, .pointer pa, .pointer pb, .bool rt], .int .i64 5] w (RB w (.bool (can5 m T))) := by
 cases h0 : (decide (1 < wt (lT m T))) with
 | false =>
  rw [show can5 m T = false from by simp only [can5, h0, Bool.and_true, Bool.true_and, Bool.and_false, Bool.false_and, Bool.or_true, Bool.true_or, Bool.or_false, Bool.false_or]]
  exact can5_0 m rt p pl pr pll plr prl prr pa pb T w Hl Hr Hrl h0
 | true =>
  cases h1 : (wt (rT m T) == 0) with
  | false =>
   rw [show can5 m T = false from by simp only [can5, h0, h1, Bool.and_true, Bool.true_and, Bool.and_false, Bool.false_and, Bool.or_true, Bool.true_or, Bool.or_false, Bool.false_or]]
   exact can5_1 m rt p pl pr pll plr prl prr pa pb T w Hl Hr Hrl h0 h1
  | true =>
   cases h2 : (decide (1 < wt (lT m (rT m T)))) with
   | false =>
    rw [show can5 m T = false from by simp only [can5, h0, h1, h2, Bool.and_true, Bool.true_and, Bool.and_false, Bool.false_and, Bool.or_true, Bool.true_or, Bool.or_false, Bool.false_or]]
    exact can5_2 m rt p pl pr pll plr prl prr pa pb T w Hl Hr Hrl h0 h1 h2
   | true =>
    rw [show can5 m T = true from by simp only [can5, h0, h1, h2, Bool.and_true, Bool.true_and, Bool.and_false, Bool.false_and, Bool.or_true, Bool.true_or, Bool.or_false, Bool.false_or]]
    exact can5_3 m rt p pl pr pll plr prl prr pa pb T w Hl Hr Hrl h0 h1 h2
end
section
variable {S : Nat → Prop}
def can6 (m : Bool) (T : Tr) : Bool := (decide (1 < wt (lT m T))) && (wt (rT m T) == 0) && (wt (lT m (rT m T)) == 1) && (decide (0 < wt (lT m (lT m (rT m T))))) && (decide (0 < wt (rT m (lT m (rT m T)))))
theorem can6_0 (m rt : Bool) (p pl pr pll plr prl prr pa pb : Option Addr) (T : Tr) (w : World) (Ha : Aside0 (Rep S w (.pointer pa) (lT m (lT m (rT m T))))) (Hb : Aside0 (Rep S w (.pointer pb) (rT m (lT m (rT m T))))) (Hl : Aside0 (Rep S w (.pointer pl) (lT m T))) (Hr : Aside0 (Rep S w (.pointer pr) (rT m T))) (Hrl : Aside0 (Rep S w (.pointer prl) (lT m (rT m T)))) (h0 : (decide (1 < wt (lT m T))) = false) :
  Calls Tryd.prog 25 #[.agg #[.bool m, .pointer p, .pointer pl, .pointer pr, .pointer pll, .pointer plr, .pointer prl, .pointer prr, .pointer pa, .pointer pb, .bool rt], .int .i64 6] w (RB w (.bool false)) := by
 have hu111 := Tryd.underlying62
 have A0 := Am h0
 clear h0
 go_enter Tryd.func25, Tryd.ntmps25
 go_wp2_with (fail)
 refine (over_any _ _ _ (Hl.out.below ((Below.refl _ _).alloc (Nat.le_refl _) _))).mono ?_
 rw [A0.out]
 rintro e w' ⟨rfl, rfl⟩
 go_wp2
 go_ret
 exact ⟨rfl, (Below.refl _ _).alloc (Nat.le_refl _) _⟩
theorem can6_1 (m rt : Bool) (p pl pr pll plr prl prr pa pb : Option Addr) (T : Tr) (w : World) (Ha : Aside0 (Rep S w (.pointer pa) (lT m (lT m (rT m T))))) (Hb : Aside0 (Rep S w (.pointer pb) (rT m (lT m (rT m T))))) (Hl : Aside0 (Rep S w (.pointer pl) (lT m T))) (Hr : Aside0 (Rep S w (.pointer pr) (rT m T))) (Hrl : Aside0 (Rep S w (.pointer prl) (lT m (rT m T)))) (h0 : (decide (1 < wt (lT m T))) = true) (h1 : (wt (rT m T) == 0) = false) :
  Calls Tryd.prog 25 #[.agg #[.bool m, .pointer p, .pointer pl, .pointer pr, .pointer pll, .pointer plr, .pointer prl, .pointer prr, .pointer pa, .pointer pb, .bool rt], .int .i64 6] w (RB w (.bool false)) := by
 have hu111 := Tryd.underlying62
 have A0 := Am h0
 have A1 := Am h1
 clear h0 h1
 go_enter Tryd.func25, Tryd.ntmps25
 go_wp2_with (fail)
 refine (over_any _ _ _ (Hl.out.below ((Below.refl _ _).alloc (Nat.le_refl _) _))).mono ?_
 rw [A0.out]
 rintro e w' ⟨rfl, rfl⟩
 go_wp2_with (fail)
 refine (red_any _ _ _ (Hr.out.below ((Below.refl _ _).alloc (Nat.le_refl _) _))).mono ?_
 rw [A1.out]
 rintro e w' ⟨rfl, rfl⟩
 go_wp2
 go_ret
 exact ⟨rfl, (Below.refl _ _).alloc (Nat.le_refl _) _⟩
theorem can6_2 (m rt : Bool) (p pl pr pll plr prl prr pa pb : Option Addr) (T : Tr) (w : World) (Ha : Aside0 (Rep S w (.pointer pa) (lT m (lT m (rT m T))))) (Hb : Aside0 (Rep S w (.pointer pb) (rT m (lT m (rT m T))))) (Hl : Aside0 (Rep S w (.pointer pl) (lT m T))) (Hr : Aside0 (Rep S w (.pointer pr) (rT m T))) (Hrl : Aside0 (Rep S w (.pointer prl) (lT m (rT m T)))) (h0 : (decide (1 < wt (lT m T))) = true) (h1 : (wt (rT m T) == 0) = true) (h2 : (wt (lT m (rT m T)) == 1) = false) :
  Calls Tryd.prog 25 #[.agg #[.bool m, .pointer p, .pointer pl, .pointer pr, .pointer pll, .pointer plr, .pointer prl, .pointer prr, .pointer pa, .pointer pb, .bool rt], .int .i64 6] w (RB w (.bool false)) := by
 have hu111 := Tryd.underlying62
 have A0 := Am h0
 have A1 := Am h1
 have A2 := Am h2
 clear h0 h1 h2
 go_enter Tryd.func25, Tryd.ntmps25
 go_wp2_with (fail)
 refine (over_any _ _ _ (Hl.out.below ((Below.refl _ _).alloc (Nat.le_refl _) _))).mono ?_
 rw [A0.out]
 rintro e w' ⟨rfl, rfl⟩
 go_wp2_with (fail)
 refine (red_any _ _ _ (Hr.out.below ((Below.refl _ _).alloc (Nat.le_refl _) _))).mono ?_
 rw [A1.out]
 rintro e w' ⟨rfl, rfl⟩
 go_wp2_with (fail)
 refine (one_any _ _ _ (Hrl.out.below ((Below.refl _ _).alloc (Nat.le_refl _) _))).mono ?_
 rw [A2.out]
 rintro e w' ⟨rfl, rfl⟩
 go_wp2
 go_ret
 exact ⟨rfl, (Below.refl _ _).alloc (Nat.le_refl _) _⟩
theorem can6_3 (m rt : Bool) (p pl pr pll plr prl prr pa pb : Option Addr) (T : Tr) (w : World) (Ha : Aside0 (Rep S w (.pointer pa) (lT m (lT m (rT m T))))) (Hb : Aside0 (Rep S w (.pointer pb) (rT m (lT m (rT m T))))) (Hl : Aside0 (Rep S w (.pointer pl) (lT m T))) (Hr : Aside0 (Rep S w (.pointer pr) (rT m T))) (Hrl : Aside0 (Rep S w (.pointer prl) (lT m (rT m T)))) (h0 : (decide (1 < wt (lT m T))) = true) (h1 : (wt (rT m T) == 0) = true) (h2 : (wt (lT m (rT m T)) == 1) = true) (h3 : (decide (0 < wt (lT m (lT m (rT m T))))) = false) :
  Calls Tryd.prog 25 #[.agg #[.bool m, .pointer p, .pointer pl, .pointer pr, .pointer pll, .pointer plr, .pointer prl, .pointer prr, .pointer pa, .pointer pb, .bool rt], .int .i64 6] w (RB w (.bool false)) := by
 have hu111 := Tryd.underlying62
 have A0 := Am h0
 have A1 := Am h1
 have A2 := Am h2
 have A3 := Am h3
 clear h0 h1 h2 h3
 go_enter Tryd.func25, Tryd.ntmps25
 go_wp2_with (fail)
 refine (over_any _ _ _ (Hl.out.below ((Below.refl _ _).alloc (Nat.le_refl _) _))).mono ?_
 rw [A0.out]
 rintro e w' ⟨rfl, rfl⟩
 go_wp2_with (fail)
 refine (red_any _ _ _ (Hr.out.below ((Below.refl _ _).alloc (Nat.le_refl _) _))).mono ?_
 rw [A1.out]
 rintro e w' ⟨rfl, rfl⟩
 go_wp2_with (fail)
 refine (one_any _ _ _ (Hrl.out.below ((Below.refl _ _).alloc (Nat.le_refl _) _))).mono ?_
 rw [A2.out]
 rintro e w' ⟨rfl, rfl⟩
 go_wp2_with (fail)
 refine (black_any _ _ _ (Ha.out.below ((Below.refl _ _).alloc (Nat.le_refl _) _))).mono ?_
 rw [A3.out]
 rintro e w' ⟨rfl, rfl⟩
 go_wp2
 go_ret
 exact ⟨rfl, (Below.refl _ _).alloc (Nat.le_refl _) _⟩
theorem can6_4 (m rt : Bool) (p pl pr pll plr prl prr pa pb : Option Addr) (T : Tr) (w : World) (Ha : Aside0 (Rep S w (.pointer pa) (lT m (lT m (rT m T))))) (Hb : Aside0 (Rep S w (.pointer pb) (rT m (lT m (rT m T))))) (Hl : Aside0 (Rep S w (.pointer pl) (lT m T))) (Hr : Aside0 (Rep S w (.pointer pr) (rT m T))) (Hrl : Aside0 (Rep S w (.pointer prl) (lT m (rT m T)))) (h0 : (decide (1 < wt (lT m T))) = true) (h1 : (wt (rT m T) == 0) = true) (h2 : (wt (lT m (rT m T)) == 1) = true) (h3 : (decide (0 < wt (lT m (lT m (rT m T))))) = true) (h4 : (decide (0 < wt (rT m (lT m (rT m T))))) = false) :
  Calls Tryd.prog 25 #[.agg #[.bool m, .pointer p, .pointer pl, .pointer pr, .pointer pll, .pointer plr, .pointer prl, .pointer prr, .pointer pa, .pointer pb, .bool rt], .int .i64 6] w (RB w (.bool false)) := by
 have hu111 := Tryd.underlying62
 have A0 := Am h0
 have A1 := Am h1
 have A2 := Am h2
 have A3 := Am h3
 have A4 := Am h4
 clear h0 h1 h2 h3 h4
 go_enter Tryd.func25, Tryd.ntmps25
 go_wp2_with (fail)
 refine (over_any _ _ _ (Hl.out.below ((Below.refl _ _).alloc (Nat.le_refl _) _))).mono ?_
 rw [A0.out]
 rintro e w' ⟨rfl, rfl⟩
 go_wp2_with (fail)
 refine (red_any _ _ _ (Hr.out.below ((Below.refl _ _).alloc (Nat.le_refl _) _))).mono ?_
 rw [A1.out]
 rintro e w' ⟨rfl, rfl⟩
 go_wp2_with (fail)
 refine (one_any _ _ _ (Hrl.out.below ((Below.refl _ _).alloc (Nat.le_refl _) _))).mono ?_
 rw [A2.out]
 rintro e w' ⟨rfl, rfl⟩
 go_wp2_with (fail)
 refine (black_any _ _ _ (Ha.out.below ((Below.refl _ _).alloc (Nat.le_refl _) _))).mono ?_
 rw [A3.out]
 rintro e w' ⟨rfl, rfl⟩
 go_wp2_with (fail)
 refine (black_any _ _ _ (Hb.out.below ((Below.refl _ _).alloc (Nat.le_refl _) _))).mono ?_
 rw [A4.out]
 rintro e w' ⟨rfl, rfl⟩
 go_wp2
 go_ret
 exact ⟨rfl, (Below.refl _ _).alloc (Nat.le_refl _) _⟩
theorem can6_5 (m rt : Bool) (p pl pr pll plr prl prr pa pb : Option Addr) (T : Tr) (w : World) (Ha : Aside0 (Rep S w (.pointer pa) (lT m (lT m (rT m T))))) (Hb : Aside0 (Rep S w (.pointer pb) (rT m (lT m (rT m T))))) (Hl : Aside0 (Rep S w (.pointer pl) (lT m T))) (Hr : Aside0 (Rep S w (.pointer pr) (rT m T))) (Hrl : Aside0 (Rep S w (.pointer prl) (lT m (rT m T)))) (h0 : (decide (1 < wt (lT m T))) = true) (h1 : (wt (rT m T) == 0) = true) (h2 : (wt (lT m (rT m T)) == 1) = true) (h3 : (decide (0 < wt (lT m (lT m (rT m T))))) = true) (h4 : (decide (0 < wt (rT m (lT m (rT m T))))) = true) :
  Calls Tryd.prog 25 #[.agg #[.bool m, .pointer p, .pointer pl, .pointer pr, .pointer pll, .pointer plr, .pointer prl, .pointer prr, .pointer pa, .pointer pb, .bool rt], .int .i64 6] w (RB w (.bool true)) := by
 have hu111 := Tryd.underlying62
 have A0 := Am h0
 have A1 := Am h1
 have A2 := Am h2
 have A3 := Am h3
 have A4 := Am h4
 clear h0 h1 h2 h3 h4
 go_enter Tryd.func25, Tryd.ntmps25
 go_wp2_with (fail)
 refine (over_any _ _ _ (Hl.out.below ((Below.refl _ _).alloc (Nat.le_refl _) _))).mono ?_
 rw [A0.out]
 rintro e w' ⟨rfl, rfl⟩
 go_wp2_with (fail)
 refine (red_any _ _ _ (Hr.out.below ((Below.refl _ _).alloc (Nat.le_refl _) _))).mono ?_
 rw [A1.out]
 rintro e w' ⟨rfl, rfl⟩
 go_wp2_with (fail)
 refine (one_any _ _ _ (Hrl.out.below ((Below.refl _ _).alloc (Nat.le_refl _) _))).mono ?_
 rw [A2.out]
 rintro e w' ⟨rfl, rfl⟩
 go_wp2_with (fail)
 refine (black_any _ _ _ (Ha.out.below ((Below.refl _ _).alloc (Nat.le_refl _) _))).mono ?_
 rw [A3.out]
 rintro e w' ⟨rfl, rfl⟩
 go_wp2_with (fail)
 refine (black_any _ _ _ (Hb.out.below ((Below.refl _ _).alloc (Nat.le_refl _) _))).mono ?_
 rw [A4.out]
 rintro e w' ⟨rfl, rfl⟩
 go_wp2
 go_ret
 exact ⟨rfl, (Below.refl _ _).alloc (Nat.le_refl _) _⟩
theorem can6_any (m rt : Bool) (p pl pr pll plr prl prr pa pb : Option Addr) (T : Tr) (w : World) (Ha : Aside0 (Rep S w (.pointer pa) (lT m (lT m (rT m T))))) (Hb : Aside0 (Rep S w (.pointer pb) (rT m (lT m (rT m T))))) (Hl : Aside0 (Rep S w (.pointer pl) (lT m T))) (Hr : Aside0 (Rep S w (.pointer pr) (rT m T))) (Hrl : Aside0 (Rep S w (.pointer prl) (lT m (rT m T)))) :
  Calls Tryd.prog 25 #[.agg #[.bool m, .pointer p, .pointer pl, .pointer pr, .pointer pll, .pointer plr, .pointer prl, .pointer prr, .pointer pa, .pointer pb, .bool rt], .int .i64 6] w (RB w (.bool (can6 m T))) := by
 cases h0 : (decide (1 < wt (lT m T))) with
 | false =>
  rw [show can6 m T = false from by simp only [can6, h0, Bool.and_true, Bool.true_and, Bool.and_false, Bool.false_and, Bool.or_true, Bool.true_or, Bool.or_false, Bool.false_or]]
  exact can6_0 m rt p pl pr pll plr prl prr pa pb T w Ha Hb Hl Hr Hrl h0
 | true =>
  cases h1 : (wt (rT m T) == 0) with
  | false =>
   rw [show can6 m T = false from by simp only [can6, h0, h1, Bool.and_true, Bool.true_and, Bool.and_false, Bool.false_and, Bool.or_true, Bool.true_or, Bool.or_false, Bool.false_or]]
   exact can6_1 m rt p pl pr pll plr prl prr pa pb T w Ha Hb Hl Hr Hrl h0 h1
  | true =>
   cases h2 : (wt (lT m (rT m T)) == 1) with
   | false =>
    rw [show can6 m T = false from by simp only [can6, h0, h1, h2, Bool.and_true, Bool.true_and, Bool.and_false, Bool.false_and, Bool.or_true, Bool.true_or, Bool.or_false, Bool.false_or]]
    exact can6_2 m rt p pl pr pll plr prl prr pa pb T w Ha Hb Hl Hr Hrl h0 h1 h2
   | true =>
    cases h3 : (decide (0 < wt (lT m (lT m (rT m T))))) with
    | false =>
     rw [show can6 m T = false from by simp only [can6, h0, h1, h2, h3, Bool.and_true, Bool.true_and, Bool.and_false, Bool.false_and, Bool.or_true, Bool.true_or, Bool.or_false, Bool.false_or]]
     exact can6_3 m rt p pl pr pll plr prl prr pa pb T w Ha Hb Hl Hr Hrl h0 h1 h2 h3
    | true =>
     cases h4 : (decide (0 < wt (rT m (lT m (rT m T))))) with
     | false =>
      rw [show can6 m T = false from by simp only [can6, h0, h1, h2, h3, h4, Bool.and_true, Bool.true_and, Bool.and_false, Bool.false_and, Bool.or_true, Bool.true_or, Bool.or_false, Bool.false_or]]
      exact can6_4 m rt p pl pr pll plr prl prr pa pb T w Ha Hb Hl Hr Hrl h0 h1 h2 h3 h4
     | true =>
      rw [show can6 m T = true from by simp only [can6, h0, h1, h2, h3, h4, Bool.and_true, Bool.true_and, Bool.and_false, Bool.false_and, Bool.or_true, Bool.true_or, Bool.or_false, Bool.false_or]]
      exact can6_5 m rt p pl pr pll plr prl prr pa pb T w Ha Hb Hl Hr Hrl h0 h1 h2 h3 h4
def can7 (m : Bool) (T : Tr) : Bool := (decide (1 < wt (lT m T))) && (wt (rT m T) == 0) && (wt (lT m (rT m T)) == 1) && (wt (lT m (lT m (rT m T))) == 0) && (innerB (lT m (lT m (rT m T)))) && (decide (0 < wt (rT m (lT m (rT m T)))))
theorem can7_0 (m rt : Bool) (p pl pr pll plr prl prr pa pb : Option Addr) (T : Tr) (w : World) (Ha : Aside0 (Rep S w (.pointer pa) (lT m (lT m (rT m T))))) (Hb : Aside0 (Rep S w (.pointer pb) (rT m (lT m (rT m T))))) (Hl : Aside0 (Rep S w (.pointer pl) (lT m T))) (Hr : Aside0 (Rep S w (.pointer pr) (rT m T))) (Hrl : Aside0 (Rep S w (.pointer prl) (lT m (rT m T)))) (h0 : (decide (1 < wt (lT m T))) = false) :
  Calls Tryd.prog 25 #[.agg #[.bool m, .pointer p, .pointer pl, .pointer pr, .pointer pll, .pointer plr, .pointer prl, .pointer prr, .pointer pa, .pointer pb, .bool rt], .int .i64 7] w (RB w (.bool false)) := by
 have hu111 := Tryd.underlying62
 have A0 := Am h0
 clear h0
 go_enter Tryd.func25, Tryd.ntmps25
 go_wp2_with (fail)
 refine (over_any _ _ _ (Hl.out.below ((Below.refl _ _).alloc (Nat.le_refl _) _))).mono ?_
 rw [A0.out]
 rintro e w' ⟨rfl, rfl⟩
 go_wp2
 go_ret
 exact ⟨rfl, (Below.refl _ _).alloc (Nat.le_refl _) _⟩
theorem can7_1 (m rt : Bool) (p pl pr pll plr prl prr pa pb : Option Addr) (T : Tr) (w : World) (Ha : Aside0 (Rep S w (.pointer pa) (lT m (lT m (rT m T))))) (Hb : Aside0 (Rep S w (.pointer pb) (rT m (lT m (rT m T))))) (Hl : Aside0 (Rep S w (.pointer pl) (lT m T))) (Hr : Aside0 (Rep S w (.pointer pr) (rT m T))) (Hrl : Aside0 (Rep S w (.pointer prl) (lT m (rT m T)))) (h0 : (decide (1 < wt (lT m T))) = true) (h1 : (wt (rT m T) == 0) = false) :
  Calls Tryd.prog 25 #[.agg #[.bool m, .pointer p, .pointer pl, .pointer pr, .pointer pll, .pointer plr, .pointer prl, .pointer prr, .pointer pa, .pointer pb, .bool rt], .int .i64 7] w (RB w (.bool false)) := by
 have hu111 := Tryd.underlying62
 have A0 := Am h0
 have A1 := Am h1
 clear h0 h1
 go_enter Tryd.func25, Tryd.ntmps25
 go_wp2_with (fail)
 refine (over_any _ _ _ (Hl.out.below ((Below.refl _ _).alloc (Nat.le_refl _) _))).mono ?_
 rw [A0.out]
 rintro e w' ⟨rfl, rfl⟩
 go_wp2_with (fail)
 refine (red_any _ _ _ (Hr.out.below ((Below.refl _ _).alloc (Nat.le_refl _) _))).mono ?_
 rw [A1.out]
 rintro e w' ⟨rfl, rfl⟩
 go_wp2
 go_ret
 exact ⟨rfl, (Below.refl _ _).alloc (Nat.le_refl _) _⟩
theorem can7_2 (m rt : Bool) (p pl pr pll plr prl prr pa pb : Option Addr) (T : Tr) (w : World) (Ha : Aside0 (Rep S w (.pointer pa) (lT m (lT m (rT m T))))) (Hb : Aside0 (Rep S w (.pointer pb) (rT m (lT m (rT m T))))) (Hl : Aside0 (Rep S w (.pointer pl) (lT m T))) (Hr : Aside0 (Rep S w (.pointer pr) (rT m T))) (Hrl : Aside0 (Rep S w (.pointer prl) (lT m (rT m T)))) (h0 : (decide (1 < wt (lT m T))) = true) (h1 : (wt (rT m T) == 0) = true) (h2 : (wt (lT m (rT m T)) == 1) = false) :
  Calls Tryd.prog 25 #[.agg #[.bool m, .pointer p, .pointer pl, .pointer pr, .pointer pll, .pointer plr, .pointer prl, .pointer prr, .pointer pa, .pointer pb, .bool rt], .int .i64 7] w (RB w (.bool false)) := by
 have hu111 := Tryd.underlying62
 have A0 := Am h0
 have A1 := Am h1
 have A2 := Am h2
 clear h0 h1 h2
 go_enter Tryd.func25, Tryd.ntmps25
 go_wp2_with (fail)
 refine (over_any _ _ _ (Hl.out.below ((Below.refl _ _).alloc (Nat.le_refl _) _))).mono ?_
 rw [A0.out]
 rintro e w' ⟨rfl, rfl⟩
 go_wp2_with (fail)
 refine (red_any _ _ _ (Hr.out.below ((Below.refl _ _).alloc (Nat.le_refl _) _))).mono ?_
 rw [A1.out]
 rintro e w' ⟨rfl, rfl⟩
 go_wp2_with (fail)
 refine (one_any _ _ _ (Hrl.out.below ((Below.refl _ _).alloc (Nat.le_refl _) _))).mono ?_
 rw [A2.out]
 rintro e w' ⟨rfl, rfl⟩
 go_wp2
 go_ret
 exact ⟨rfl, (Below.refl _ _).alloc (Nat.le_refl _) _⟩
theorem can7_3 (m rt : Bool) (p pl pr pll plr prl prr pa pb : Option Addr) (T : Tr) (w : World) (Ha : Aside0 (Rep S w (.pointer pa) (lT m (lT m (rT m T))))) (Hb : Aside0 (Rep S w (.pointer pb) (rT m (lT m (rT m T))))) (Hl : Aside0 (Rep S w (.pointer pl) (lT m T))) (Hr : Aside0 (Rep S w (.pointer pr) (rT m T))) (Hrl : Aside0 (Rep S w (.pointer prl) (lT m (rT m T)))) (h0 : (decide (1 < wt (lT m T))) = true) (h1 : (wt (rT m T) == 0) = true) (h2 : (wt (lT m (rT m T)) == 1) = true) (h3 : (wt (lT m (lT m (rT m T))) == 0) = false) :
  Calls Tryd.prog 25 #[.agg #[.bool m, .pointer p, .pointer pl, .pointer pr, .pointer pll, .pointer plr, .pointer prl, .pointer prr, .pointer pa, .pointer pb, .bool rt], .int .i64 7] w (RB w (.bool false)) := by
 have hu111 := Tryd.underlying62
 have A0 := Am h0
 have A1 := Am h1
 have A2 := Am h2
 have A3 := Am h3
 clear h0 h1 h2 h3
 go_enter Tryd.func25, Tryd.ntmps25
 go_wp2_with (fail)
 refine (over_any _ _ _ (Hl.out.below ((Below.refl _ _).alloc (Nat.le_refl _) _))).mono ?_
 rw [A0.out]
 rintro e w' ⟨rfl, rfl⟩
 go_wp2_with (fail)
 refine (red_any _ _ _ (Hr.out.below ((Below.refl _ _).alloc (Nat.le_refl _) _))).mono ?_
 rw [A1.out]
 rintro e w' ⟨rfl, rfl⟩
 go_wp2_with (fail)
 refine (one_any _ _ _ (Hrl.out.below ((Below.refl _ _).alloc (Nat.le_refl _) _))).mono ?_
 rw [A2.out]
 rintro e w' ⟨rfl, rfl⟩
 go_wp2_with (fail)
 refine (red_any _ _ _ (Ha.out.below ((Below.refl _ _).alloc (Nat.le_refl _) _))).mono ?_
 rw [A3.out]
 rintro e w' ⟨rfl, rfl⟩
 go_wp2
 go_ret
 exact ⟨rfl, (Below.refl _ _).alloc (Nat.le_refl _) _⟩
theorem can7_4 (m rt : Bool) (p pl pr pll plr prl prr pa pb : Option Addr) (T : Tr) (w : World) (Ha : Aside0 (Rep S w (.pointer pa) (lT m (lT m (rT m T))))) (Hb : Aside0 (Rep S w (.pointer pb) (rT m (lT m (rT m T))))) (Hl : Aside0 (Rep S w (.pointer pl) (lT m T))) (Hr : Aside0 (Rep S w (.pointer pr) (rT m T))) (Hrl : Aside0 (Rep S w (.pointer prl) (lT m (rT m T)))) (h0 : (decide (1 < wt (lT m T))) = true) (h1 : (wt (rT m T) == 0) = true) (h2 : (wt (lT m (rT m T)) == 1) = true) (h3 : (wt (lT m (lT m (rT m T))) == 0) = true) (h4 : (innerB (lT m (lT m (rT m T)))) = false) :
  Calls Tryd.prog 25 #[.agg #[.bool m, .pointer p, .pointer pl, .pointer pr, .pointer pll, .pointer plr, .pointer prl, .pointer prr, .pointer pa, .pointer pb, .bool rt], .int .i64 7] w (RB w (.bool false)) := by
 have hu111 := Tryd.underlying62
 have A0 := Am h0
 have A1 := Am h1
 have A2 := Am h2
 have A3 := Am h3
 have A4 := Am h4
 clear h0 h1 h2 h3 h4
 go_enter Tryd.func25, Tryd.ntmps25
 go_wp2_with (fail)
 refine (over_any _ _ _ (Hl.out.below ((Below.refl _ _).alloc (Nat.le_refl _) _))).mono ?_
 rw [A0.out]
 rintro e w' ⟨rfl, rfl⟩
 go_wp2_with (fail)
 refine (red_any _ _ _ (Hr.out.below ((Below.refl _ _).alloc (Nat.le_refl _) _))).mono ?_
 rw [A1.out]
 rintro e w' ⟨rfl, rfl⟩
 go_wp2_with (fail)
 refine (one_any _ _ _ (Hrl.out.below ((Below.refl _ _).alloc (Nat.le_refl _) _))).mono ?_
 rw [A2.out]
 rintro e w' ⟨rfl, rfl⟩
 go_wp2_with (fail)
 refine (red_any _ _ _ (Ha.out.below ((Below.refl _ _).alloc (Nat.le_refl _) _))).mono ?_
 rw [A3.out]
 rintro e w' ⟨rfl, rfl⟩
 go_wp2_with (fail)
 refine (inner_any _ _ _ (Ha.out.below ((Below.refl _ _).alloc (Nat.le_refl _) _))).mono ?_
 rw [A4.out]
 rintro e w' ⟨rfl, rfl⟩
 go_wp2
 go_ret
 exact ⟨rfl, (Below.refl _ _).alloc (Nat.le_refl _) _⟩
theorem can7_5 (m rt : Bool) (p pl pr pll plr prl prr pa pb : Option Addr) (T : Tr) (w : World) (Ha : Aside0 (Rep S w (.pointer pa) (lT m (lT m (rT m T))))) (Hb : Aside0 (Rep S w (.pointer pb) (rT m (lT m (rT m T))))) (Hl : Aside0 (Rep S w (.pointer pl) (lT m T))) (Hr : Aside0 (Rep S w (.pointer pr) (rT m T))) (Hrl : Aside0 (Rep S w (.pointer prl) (lT m (rT m T)))) (h0 : (decide (1 < wt (lT m T))) = true) (h1 : (wt (rT m T) == 0) = true) (h2 : (wt (lT m (rT m T)) == 1) = true) (h3 : (wt (lT m (lT m (rT m T))) == 0) = true) (h4 : (innerB (lT m (lT m (rT m T)))) = true) (h5 : (decide (0 < wt (rT m (lT m (rT m T))))) = false) :
  Calls Tryd.prog 25 #[.agg #[.bool m, .pointer p, .pointer pl, .pointer pr, .pointer pll, .pointer plr, .pointer prl, .pointer prr, .pointer pa, .pointer pb, .bool rt], .int .i64 7] w (RB w (.bool false)) := by
 have hu111 := Tryd.underlying62
 have A0 := Am h0
 have A1 := Am h1
 have A2 := Am h2
 have A3 := Am h3
 have A4 := Am h4
 have A5 := Am h5
 clear h0 h1 h2 h3 h4 h5
 go_enter Tryd.func25, Tryd.ntmps25
 go_wp2_with (fail)
 refine (over_any _ _ _ (Hl.out.below ((Below.refl _ _).alloc (Nat.le_refl _) _))).mono ?_
 rw [A0.out]
 rintro e w' ⟨rfl, rfl⟩
 go_wp2_with (fail)
 refine (red_any _ _ _ (Hr.out.below ((Below.refl _ _).alloc (Nat.le_refl _) _))).mono ?_
 rw [A1.out]
 rintro e w' ⟨rfl, rfl⟩
 go_wp2_with (fail)
 refine (one_any _ _ _ (Hrl.out.below ((Below.refl _ _).alloc (Nat.le_refl _) _))).mono ?_
 rw [A2.out]
 rintro e w' ⟨rfl, rfl⟩
 go_wp2_with (fail)
 refine (red_any _ _ _ (Ha.out.below ((Below.refl _ _).alloc (Nat.le_refl _) _))).mono ?_
 rw [A3.out]
 rintro e w' ⟨rfl, rfl⟩
 go_wp2_with (fail)
 refine (inner_any _ _ _ (Ha.out.below ((Below.refl _ _).alloc (Nat.le_refl _) _))).mono ?_
 rw [A4.out]
 rintro e w' ⟨rfl, rfl⟩
 go_wp2_with (fail)
 refine (black_any _ _ _ (Hb.out.below ((Below.refl _ _).alloc (Nat.le_refl _) _))).mono ?_
 rw [A5.out]
 rintro e w' ⟨rfl, rfl⟩
 go_wp2
 go_ret
 exact ⟨rfl, (Below.refl _ _).alloc (Nat.le_refl _) _⟩
theorem can7_6 (m rt : Bool) (p pl pr pll plr prl prr pa pb : Option Addr) (T : Tr) (w : World) (Ha : Aside0 (Rep S w (.pointer pa) (lT m (lT m (rT m T))))) (Hb : Aside0 (Rep S w (.pointer pb) (rT m (lT m (rT m T))))) (Hl : Aside0 (Rep S w (.pointer pl) (lT m T))) (Hr : Aside0 (Rep S w (.pointer pr) (rT m T))) (Hrl : Aside0 (Rep S w (.pointer prl) (lT m (rT m T)))) (h0 : (decide (1 < wt (lT m T))) = true) (h1 : (wt (rT m T) == 0) = true) (h2 : (wt (lT m (rT m T)) == 1) = true) (h3 : (wt (lT m (lT m (rT m T))) == 0) = true) (h4 : (innerB (lT m (lT m (rT m T)))) = true) (h5 : (decide (0 < wt (rT m (lT m (rT m T))))) = true) :
  Calls Tryd.prog 25 #[.agg #[.bool m, .pointer p, .pointer pl, .pointer pr, .pointer pll, .pointer plr, .pointer prl, .pointer prr, .pointer pa, .pointer pb, .bool rt], .int .i64 7] w (RB w (.bool true)) := by
 have hu111 := Tryd.underlying62
 have A0 := Am h0
 have A1 := Am h1
 have A2 := Am h2
 have A3 := Am h3
 have A4 := Am h4
 have A5 := Am h5
 clear h0 h1 h2 h3 h4 h5
 go_enter Tryd.func25, Tryd.ntmps25
 go_wp2_with (fail)
 refine (over_any _ _ _ (Hl.out.below ((Below.refl _ _).alloc (Nat.le_refl _) _))).mono ?_
 rw [A0.out]
 rintro e w' ⟨rfl, rfl⟩
 go_wp2_with (fail)
 refine (red_any _ _ _ (Hr.out.below ((Below.refl _ _).alloc (Nat.le_refl _) _))).mono ?_
 rw [A1.out]
 rintro e w' ⟨rfl, rfl⟩
 go_wp2_with (fail)
 refine (one_any _ _ _ (Hrl.out.below ((Below.refl _ _).alloc (Nat.le_refl _) _))).mono ?_
 rw [A2.out]
 rintro e w' ⟨rfl, rfl⟩
 go_wp2_with (fail)
 refine (red_any _ _ _ (Ha.out.below ((Below.refl _ _).alloc (Nat.le_refl _) _))).mono ?_
 rw [A3.out]
 rintro e w' ⟨rfl, rfl⟩
 go_wp2_with (fail)
 refine (inner_any _ _ _ (Ha.out.below ((Below.refl _ _).alloc (Nat.le_refl _) _))).mono ?_
 rw [A4.out]
 rintro e w' ⟨rfl, rfl⟩
 go_wp2_with (fail)
 refine (black_any _ _ _ (Hb.out.below ((Below.refl _ _).alloc (Nat.le_refl _) _))).mono ?_
 rw [A5.out]
 rintro e w' ⟨rfl, rfl⟩
 go_wp2
 go_ret
 exact ⟨rfl, (Below.refl _ _).alloc (Nat.le_refl _) _⟩
theorem can7_any (m rt : Bool) (p pl pr pll plr prl prr pa pb : Option Addr) (T : Tr) (w : World) (Ha : Aside0 (Rep S w (.pointer pa) (lT m (lT m (rT m T))))) (Hb : Aside0 (Rep S w (.pointer pb) (rT m (lT m (rT m T))))) (Hl : Aside0 (Rep S w (.pointer pl) (lT m T))) (Hr : Aside0 (Rep S w (.pointer pr) (rT m T))) (Hrl : Aside0 (Rep S w (.pointer prl) (lT m (rT m T)))) :
  Calls Tryd.prog 25 #[.agg #[.bool m, .pointer p, .pointer pl, .pointer pr, .pointer pll, .pointer plr, .pointer prl, .pointer prr, .pointer pa, .pointer pb, .bool rt], .int .i64 7] w (RB w (.bool (can7 m T))) := by
 cases h0 : (decide (1 < wt (lT m T))) with
 | false =>
  rw [show can7 m T = false from by simp only [can7, h0, Bool.and_true, Bool.true_and, Bool.and_false, Bool.false_and, Bool.or_true, Bool.true_or, Bool.or_false, Bool.false_or]]
  exact can7_0 m rt p pl pr pll plr prl prr pa pb T w Ha Hb Hl Hr Hrl h0
 | true =>
  cases h1 : (wt (rT m T) == 0) with
  | false =>
   rw [show can7 m T = false from by simp only [can7, h0, h1, Bool.and_true, Bool.true_and, Bool.and_false, Bool.false_and, Bool.or_true, Bool.true_or, Bool.or_false, Bool.false_or]]
   exact can7_1 m rt p pl pr pll plr prl prr pa pb T w Ha Hb Hl Hr Hrl h0 h1
  | true =>
   cases h2 : (wt (lT m (rT m T)) == 1) with
   | false =>
    rw [show can7 m T = false from by simp only [can7, h0, h1, h2, Bool.and_true, Bool.true_and, Bool.and_false, Bool.false_and, Bool.or_true, Bool.true_or, Bool.or_false, Bool.false_or]]
    exact can7_2 m rt p pl pr pll plr prl prr pa pb T w Ha Hb Hl Hr Hrl h0 h1 h2
   | true =>
    cases h3 : (wt (lT m (lT m (rT m T))) == 0) with
    | false =>
     rw [show can7 m T = false from by simp only [can7, h0, h1, h2, h3, Bool.and_true, Bool.true_and, Bool.and_false, Bool.false_and, Bool.or_true, Bool.true_or, Bool.or_false, Bool.false_or]]
     exact can7_3 m rt p pl pr pll plr prl prr pa pb T w Ha Hb Hl Hr Hrl h0 h1 h2 h3
    | true =>
     cases h4 : (innerB (lT m (lT m (rT m T)))) with
     | false =>
      rw [show can7 m T = false from by simp only [can7, h0, h1, h2, h3, h4, Bool.and_true, Bool.true_and, Bool.and_false, Bool.false_and, Bool.or_true, Bool.true_or, Bool.or_false, Bool.false_or]]
      exact can7_4 m rt p pl pr pll plr prl prr pa pb T w Ha Hb Hl Hr Hrl h0 h1 h2 h3 h4
     | true =>
      cases h5 : (decide (0 < wt (rT m (lT m (rT m T))))) with
      | false =>
       rw [show can7 m T = false from by simp only [can7, h0, h1, h2, h3, h4, h5, Bool.and_true, Bool.true_and, Bool.and_false, Bool.false_and, Bool.or_true, Bool.true_or, Bool.or_false, Bool.false_or]]
       exact can7_5 m rt p pl pr pll plr prl prr pa pb T w Ha Hb Hl Hr Hrl h0 h1 h2 h3 h4 h5
      | true =>
       rw [show can7 m T = true from by simp only [can7, h0, h1, h2, h3, h4, h5, Bool.and_true, Bool.true_and, Bool.and_false, Bool.false_and, Bool.or_true, Bool.true_or, Bool.or_false, Bool.false_or]]
       exact can7_6 m rt p pl pr pll plr prl prr pa pb T w Ha Hb Hl Hr Hrl h0 h1 h2 h3 h4 h5
def can8 (m : Bool) (T : Tr) : Bool := (decide (1 < wt (lT m T))) && (wt (rT m T) == 0) && (wt (lT m (rT m T)) == 1) && (wt (rT m (lT m (rT m T))) == 0)
theorem can8_0 (m rt : Bool) (p pl pr pll plr prl prr pa pb : Option Addr) (T : Tr) (w : World) (Hb : Aside0 (Rep S w (.pointer pb) (rT m (lT m (rT m T))))) (Hl : Aside0 (Rep S w (.pointer pl) (lT m T))) (Hr : Aside0 (Rep S w (.pointer pr) (rT m T))) (Hrl : Aside0 (Rep S w (.pointer prl) (lT m (rT m T)))) (h0 : (decide (1 < wt (lT m T))) = false) :
  Calls Tryd.prog 25 #[.agg #[.bool m, .pointer p, .pointer pl, .pointer pr, .pointer pll, .pointer plr, .pointer prl, .pointer prr, .pointer pa, .pointer pb, .bool rt], .int .i64 8] w (RB w (.bool false)) := by
 have hu111 := Tryd.underlying62
 have A0 := Am h0
 clear h0
 go_enter Tryd.func25, Tryd.ntmps25
 go_wp2_with (fail)
 refine (over_any _ _ _ (Hl.out.below ((Below.refl _ _).alloc (Nat.le_refl _) _))).mono ?_
 rw [A0.out]
 rintro e w' ⟨rfl, rfl⟩
 go_wp2
 go_ret
 exact ⟨rfl, (Below.refl _ _).alloc (Nat.le_refl _) _⟩
theorem can8_1 (m rt : Bool) (p pl pr pll plr prl prr pa pb : Option Addr) (T : Tr) (w : World) (Hb : Aside0 (Rep S w (.pointer pb) (rT m (lT m (rT m T))))) (Hl : Aside0 (Rep S w (.pointer pl) (lT m T))) (Hr : Aside0 (Rep S w (.pointer pr) (rT m T))) (Hrl : Aside0 (Rep S w (.pointer prl) (lT m (rT m T)))) (h0 : (decide (1 < wt (lT m T))) = true) (h1 : (wt (rT m T) == 0) = false) :
  Calls Tryd.prog 25 #[.agg #[.bool m, .pointer p, .pointer pl, .pointer pr, .pointer pll, .pointer plr, .pointer prl, .pointer prr, .pointer pa, .pointer pb, .bool rt], .int .i64 8] w (RB w (.bool false)) := by
 have hu111 := Tryd.underlying62
 have A0 := Am h0
 have A1 := Am h1
 clear h0 h1
 go_enter Tryd.func25, Tryd.ntmps25
 go_wp2_with (fail)
 refine (over_any _ _ _ (Hl.out.below ((Below.refl _ _).alloc (Nat.le_refl _) _))).mono ?_
 rw [A0.out]
 rintro e w' ⟨rfl, rfl⟩
 go_wp2_with (fail)
 refine (red_any _ _ _ (Hr.out.below ((Below.refl _ _).alloc (Nat.le_refl _) _))).mono ?_
 rw [A1.out]
 rintro e w' ⟨rfl, rfl⟩
 go_wp2
 go_ret
 exact ⟨rfl, (Below.refl _ _).alloc (Nat.le_refl _) _⟩
theorem can8_2 (m rt : Bool) (p pl pr pll plr prl prr pa pb : Option Addr) (T : Tr) (w : World) (Hb : Aside0 (Rep S w (.pointer pb) (rT m (lT m (rT m T))))) (Hl : Aside0 (Rep S w (.pointer pl) (lT m T))) (Hr : Aside0 (Rep S w (.pointer pr) (rT m T))) (Hrl : Aside0 (Rep S w (.pointer prl) (lT m (rT m T)))) (h0 : (decide (1 < wt (lT m T))) = true) (h1 : (wt (rT m T) == 0) = true) (h2 : (wt (lT m (rT m T)) == 1) = false) :
  Calls Tryd.prog 25 #[.agg #[.bool m, .pointer p, .pointer pl, .pointer pr, .pointer pll, .pointer plr, .pointer prl, .pointer prr, .pointer pa, .pointer pb, .bool rt], .int .i64 8] w (RB w (.bool false)) := by
 have hu111 := Tryd.underlying62
 have A0 := Am h0
 have A1 := Am h1
 have A2 := Am h2
 clear h0 h1 h2
 go_enter Tryd.func25, Tryd.ntmps25
 go_wp2_with (fail)
 refine (over_any _ _ _ (Hl.out.below ((Below.refl _ _).alloc (Nat.le_refl _) _))).mono ?_
 rw [A0.out]
 rintro e w' ⟨rfl, rfl⟩
 go_wp2_with (fail)
 refine (red_any _ _ _ (Hr.out.below ((Below.refl _ _).alloc (Nat.le_refl _) _))).mono ?_
 rw [A1.out]
 rintro e w' ⟨rfl, rfl⟩
 go_wp2_with (fail)
 refine (one_any _ _ _ (Hrl.out.below ((Below.refl _ _).alloc (Nat.le_refl _) _))).mono ?_
 rw [A2.out]
 rintro e w' ⟨rfl, rfl⟩
 go_wp2
 go_ret
 exact ⟨rfl, (Below.refl _ _).alloc (Nat.le_refl _) _⟩
theorem can8_3 (m rt : Bool) (p pl pr pll plr prl prr pa pb : Option Addr) (T : Tr) (w : World) (Hb : Aside0 (Rep S w (.pointer pb) (rT m (lT m (rT m T))))) (Hl : Aside0 (Rep S w (.pointer pl) (lT m T))) (Hr : Aside0 (Rep S w (.pointer pr) (rT m T))) (Hrl : Aside0 (Rep S w (.pointer prl) (lT m (rT m T)))) (h0 : (decide (1 < wt (lT m T))) = true) (h1 : (wt (rT m T) == 0) = true) (h2 : (wt (lT m (rT m T)) == 1) = true) (h3 : (wt (rT m (lT m (rT m T))) == 0) = false) :
  Calls Tryd.prog 25 #[.agg #[.bool m, .pointer p, .pointer pl, .pointer pr, .pointer pll, .pointer plr, .pointer prl, .pointer prr, .pointer pa, .pointer pb, .bool rt], .int .i64 8] w (RB w (.bool false)) := by
 have hu111 := Tryd.underlying62
 have A0 := Am h0
 have A1 := Am h1
 have A2 := Am h2
 have A3 := Am h3
 clear h0 h1 h2 h3
 go_enter Tryd.func25, Tryd.ntmps25
 go_wp2_with (fail)
 refine (over_any _ _ _ (Hl.out.below ((Below.refl _ _).alloc (Nat.le_refl _) _))).mono ?_
 rw [A0.out]
 rintro e w' ⟨rfl, rfl⟩
 go_wp2_with (fail)
 refine (red_any _ _ _ (Hr.out.below ((Below.refl _ _).alloc (Nat.le_refl _) _))).mono ?_
 rw [A1.out]
 rintro e w' ⟨rfl, rfl⟩
 go_wp2_with (fail)
 refine (one_any _ _ _ (Hrl.out.below ((Below.refl _ _).alloc (Nat.le_refl _) _))).mono ?_
 rw [A2.out]
 rintro e w' ⟨rfl, rfl⟩
 go_wp2_with (fail)
 refine (red_any _ _ _ (Hb.out.below ((Below.refl _ _).alloc (Nat.le_refl _) _))).mono ?_
 rw [A3.out]
 rintro e w' ⟨rfl, rfl⟩
 go_wp2
 go_ret
 exact ⟨rfl, (Below.refl _ _).alloc (Nat.le_refl _) _⟩
theorem can8_4 (m rt : Bool) (p pl pr pll plr prl prr pa pb : Option Addr) (T : Tr) (w : World) (Hb : Aside0 (Rep S w (.pointer pb) (rT m (lT m (rT m T))))) (Hl : Aside0 (Rep S w (.pointer pl) (lT m T))) (Hr : Aside0 (Rep S w (.pointer pr) (rT m T))) (Hrl : Aside0 (Rep S w (.pointer prl) (lT m (rT m T)))) (h0 : (decide (1 < wt (lT m T))) = true) (h1 : (wt (rT m T) == 0) = true) (h2 : (wt (lT m (rT m T)) == 1) = true) (h3 : (wt (rT m (lT m (rT m T))) == 0) = true) :
  Calls Tryd.prog 25 #[.agg #[.bool m, .pointer p, .pointer pl, .pointer pr, .pointer pll, .pointer plr, .pointer prl, .pointer prr, .pointer pa, .pointer pb, .bool rt], .int .i64 8] w (RB w (.bool true)) := by
 have hu111 := Tryd.underlying62
 have A0 := Am h0
 have A1 := Am h1
 have A2 := Am h2
 have A3 := Am h3
 clear h0 h1 h2 h3
 go_enter Tryd.func25, Tryd.ntmps25
 go_wp2_with (fail)
 refine (over_any _ _ _ (Hl.out.below ((Below.refl _ _).alloc (Nat.le_refl _) _))).mono ?_
 rw [A0.out]
 rintro e w' ⟨rfl, rfl⟩
 go_wp2_with (fail)
 refine (red_any _ _ _ (Hr.out.below ((Below.refl _ _).alloc (Nat.le_refl _) _))).mono ?_
 rw [A1.out]
 rintro e w' ⟨rfl, rfl⟩
 go_wp2_with (fail)
 refine (one_any _ _ _ (Hrl.out.below ((Below.refl _ _).alloc (Nat.le_refl _) _))).mono ?_
 rw [A2.out]
 rintro e w' ⟨rfl, rfl⟩
 go_wp2_with (fail)
 refine (red_any _ _ _ (Hb.out.below ((Below.refl _ _).alloc (Nat.le_refl _) _))).mono ?_
 rw [A3.out]
 rintro e w' ⟨rfl, rfl⟩
 go_wp2
 go_ret
 exact ⟨rfl, (Below.refl _ _).alloc (Nat.le_refl _) _⟩
theorem can8_any (m rt : Bool) (p pl pr pll plr prl prr pa pb : Option Addr) (T : Tr) (w : World) (Hb : Aside0 (Rep S w (.pointer pb) (rT m (lT m (rT m T))))) (Hl : Aside0 (Rep S w (.pointer pl) (lT m T))) (Hr : Aside0 (Rep S w (.pointer pr) (rT m T))) (Hrl : Aside0 (Rep S w (.pointer prl) (lT m (rT m T)))) :
  Calls Tryd.prog 25 #[.agg #[.bool m, .pointer p, .pointer pl, .pointer pr, .pointer pll, .pointer plr, .pointer prl, .pointer prr, .pointer pa, .pointer pb, .bool rt], .int .i64 8] w (RB w (.bool (can8 m T))) := by
 cases h0 : (decide (1 < wt (lT m T))) with
 | false =>
  rw [show can8 m T = false from by simp only [can8, h0, Bool.and_true, Bool.true_and, Bool.and_false, Bool.false_and, Bool.or_true, Bool.true_or, Bool.or_false, Bool.false_or]]
  exact can8_0 m rt p pl pr pll plr prl prr pa pb T w Hb Hl Hr Hrl h0
 | true =>
  cases h1 : (wt (rT m T) == 0) with
  | false =>
   rw [show can8 m T = false from by simp only [can8, h0, h1, Bool.and_true, Bool.true_and, Bool.and_false, Bool.false_and, Bool.or_true, Bool.true_or, Bool.or_false, Bool.false_or]]
   exact can8_1 m rt p pl pr pll plr prl prr pa pb T w Hb Hl Hr Hrl h0 h1
  | true =>
   cases h2 : (wt (lT m (rT m T)) == 1) with
   | false =>
    rw [show can8 m T = false from by simp only [can8, h0, h1, h2, Bool.and_true, Bool.true_and, Bool.and_false, Bool.false_and, Bool.or_true, Bool.true_or, Bool.or_false, Bool.false_or]]
    exact can8_2 m rt p pl pr pll plr prl prr pa pb T w Hb Hl Hr Hrl h0 h1 h2
   | true =>
    cases h3 : (wt (rT m (lT m (rT m T))) == 0) with
    | false =>
     rw [show can8 m T = false from by simp only [can8, h0, h1, h2, h3, Bool.and_true, Bool.true_and, Bool.and_false, Bool.false_and, Bool.or_true, Bool.true_or, Bool.or_false, Bool.false_or]]
     exact can8_3 m rt p pl pr pll plr prl prr pa pb T w Hb Hl Hr Hrl h0 h1 h2 h3
    | true =>
     rw [show can8 m T = true from by simp only [can8, h0, h1, h2, h3, Bool.and_true, Bool.true_and, Bool.and_false, Bool.false_and, Bool.or_true, Bool.true_or, Bool.or_false, Bool.false_or]]
     exact can8_4 m rt p pl pr pll plr prl prr pa pb T w Hb Hl Hr Hrl h0 h1 h2 h3
end
section
variable {S : Nat → Prop}
def keyT : Tr → Int
 | .nil => 0
 | .node n _ _ _ => n.f0
def DoPost (S : Nat → Prop) (w : World) (R : Tr) (e : Ending) (w' : World) : Prop := ∃ q W, e = .returned (.pointer q) ∧ Below w.heap.size w W ∧ Below W.heap.size W w' ∧ TopRep S W w' (.pointer q) R
theorem do_fin (w : World) (R : Tr) : ∀ (q : Option Addr) (W w' : World), Below w.heap.size w W → Below W.heap.size W w' → TopRep S W w' (.pointer q) R → DoPost S w R (.returned (.pointer q)) w' := fun q W _ h1 h2 h3 => ⟨q, W, rfl, h1, h2, h3⟩
end
section
variable {S : Nat → Prop}
theorem do1_any (m rt : Bool) (p pl pr pll plr prl prr pa pb : Option Addr) {nx : S34} {qx : Int} {lx rx : Tr} {nl : S34} {ql : Int} {ll rl : Tr} {nr : S34} {qr : Int} {lr rr : Tr} {X : Tr} {L : Tr} {R : Tr} (w : World) (hS : ∀ k, w.heap.size ≤ k → S k) (ex : X = .node nx qx lx rx) (el : L = .node nl ql ll rl) (er : R = .node nr qr lr rr) (Hx : Aside0 (Rep S w (.pointer p) X)) (Hl : Aside0 (Rep S w (.pointer pl) L)) (Hr : Aside0 (Rep S w (.pointer pr) R)) :
  Calls Tryd.prog 26 #[.agg #[.bool m, .pointer p, .pointer pl, .pointer pr, .pointer pll, .pointer plr, .pointer prl, .pointer prr, .pointer pa, .pointer pb, .bool rt], .int .i64 1] w fun e w' => DoPost S w (putT m (keyT X) (wrap64 (wt X - 1)) (asT 1 L) (asT 1 R)) e w' := by
 have hu111 := Tryd.underlying62
 have Ex := Am ex
 clear ex
 have El := Am el
 clear el
 have Er := Am er
 clear er
 have HSS := Am hS
 clear hS
 have hfin := do_fin (S := S) w (putT m (keyT X) (wrap64 (wt X - 1)) (asT 1 L) (asT 1 R))
 have HF := Am hfin
 clear hfin
 go_enter Tryd.func26, Tryd.ntmps26
 go_wp2_with (fail)
 refine (weight_any _ _ _ (Hx.out.below ((Below.refl _ _).alloc (Nat.le_refl _) _))).mono ?_
 rintro e w' ⟨rfl, rfl⟩
 go_wp2
 have HB0 : Aside0 (Below w.heap.size w (w.alloc (.cells #[.bool m, .pointer p, .pointer pl, .pointer pr, .pointer pll, .pointer plr, .pointer prl, .pointer prr, .pointer pa, .pointer pb, .bool rt] 62))) := ⟨(Below.refl _ _).alloc (Nat.le_refl _) _⟩
 have HV0 : Aside0 ((w.alloc (.cells #[.bool m, .pointer p, .pointer pl, .pointer pr, .pointer pll, .pointer plr, .pointer prl, .pointer prr, .pointer pa, .pointer pb, .bool rt] 62)).heap[w.heap.size]? = some (.cells #[.bool m, .pointer p, .pointer pl, .pointer pr, .pointer pll, .pointer plr, .pointer prl, .pointer prr, .pointer pa, .pointer pb, .bool rt] 62 (0, 0))) := ⟨heap_alloc_new w _⟩
 generalize w.alloc (.cells #[.bool m, .pointer p, .pointer pl, .pointer pr, .pointer pll, .pointer plr, .pointer prl, .pointer prr, .pointer pa, .pointer pb, .bool rt] 62) = w1 at HB0 HV0 ⊢
 obtain ⟨g, hg⟩ : ∃ g, g = w.heap.size := ⟨_, rfl⟩
 rw [← hg] at HV0 ⊢
 clear hg
 have HB0_ := Am (bd HB0.out)
 have HV0_ : Aside0 (w1.drew.heap[g]? = some (.cells #[.bool m, .pointer p, .pointer pl, .pointer pr, .pointer pll, .pointer plr, .pointer prl, .pointer prr, .pointer pa, .pointer pb, .bool rt] 62 (0, 0))) := ⟨HV0.out⟩
 clear HB0 HV0 
 have HB0 := HB0_
 have HV0 := HV0_
 clear HB0_ HV0_
 refine sT 13 [] (S := fun w' => w'.cell? ⟨g, 0, none⟩ = some (.bool m) ∧ w'.cell? ⟨g, 1, none⟩ = some (.pointer p) ∧ w'.cell? ⟨g, 2, none⟩ = some (.pointer pl) ∧ w'.cell? ⟨g, 3, none⟩ = some (.pointer pr) ∧ w'.cell? ⟨g, 4, none⟩ = some (.pointer pll) ∧ w'.cell? ⟨g, 5, none⟩ = some (.pointer plr) ∧ w'.cell? ⟨g, 6, none⟩ = some (.pointer prl) ∧ w'.cell? ⟨g, 7, none⟩ = some (.pointer prr) ∧ w'.cell? ⟨g, 8, none⟩ = some (.pointer pa) ∧ w'.cell? ⟨g, 9, none⟩ = some (.pointer pb) ∧ w'.cell? ⟨g, 10, none⟩ = some (.bool rt)) (vc11 HV0.out) fun hHeld => ?_
 refine pu 1 15 ?_
 refine pu 3 17 ?_
 refine pu 4 18 ?_
 refine pu 5 19 ?_
 refine pu 8 22 ?_
 refine ta 0 14 hHeld ?_
 refine ta 2 16 hHeld ?_
 refine ta 6 20 hHeld ?_
 refine ta 9 23 hHeld ?_
 refine on 7 21 fun K hK => ?_
 refine goes_ Tryd.func41 (by kernel_rfl) rfl #[.pointer pl, .int .i64 1] (by rfl) rfl rfl (by (try simp only [List.map_toArray, List.map_cons, List.map_nil]); first | done | rfl) ?_
 with_reducible refine (as_any _ _ _ _ _ _ _ (fun k hk => HSS.out k (Nat.le_trans HB0.out.size hk)) (by rw [← El.out]; exact (Hl.out.below HB0.out))).mono ?_
 rw [← El.out]
 rintro e w1_ ⟨v', rfl, h1, h2⟩
 obtain ⟨q1, rfl⟩ := h1.ptr
 have HB1 := Am (HB0.out.trans (h2.mono HB0.out.size))
 have HNq1 := Am (TopRep.rep h1 h2)
 have HV1 := Am ((h2.block _ (Array.getElem?_eq_some_iff.1 HV0.out).1).trans HV0.out)
 clear h1 h2 HB0 HV0
 refine ⟨_, rfl, ?_⟩
 refine hK.out _ _ (vc11 HV1.out) (fun hHeld => ?_)
 clear hK K
 refine nm 21 ?_
 refine on 10 24 fun K hK => ?_
 refine goes_ Tryd.func41 (by kernel_rfl) rfl #[.pointer pr, .int .i64 1] (by rfl) rfl rfl (by (try simp only [List.map_toArray, List.map_cons, List.map_nil]); first | done | rfl) ?_
 with_reducible refine (as_any _ _ _ _ _ _ _ (fun k hk => HSS.out k (Nat.le_trans HB1.out.size hk)) (by rw [← Er.out]; exact (Hr.out.below HB1.out))).mono ?_
 rw [← Er.out]
 rintro e w2_ ⟨v', rfl, h1, h2⟩
 obtain ⟨q2, rfl⟩ := h1.ptr
 have HB2 := Am (HB1.out.trans (h2.mono HB1.out.size))
 have HNq2 := Am (TopRep.rep h1 h2)
 have HV2 := Am ((h2.block _ (Array.getElem?_eq_some_iff.1 HV1.out).1).trans HV1.out)
 replace HNq1 := Am (Rep.below HNq1.out h2)
 clear h1 h2 HB1 HV1
 refine ⟨_, rfl, ?_⟩
 refine hK.out _ _ (vc11 HV2.out) (fun hHeld => ?_)
 clear hK K
 refine nm 24 ?_
 refine on 11 25 fun K hK => ?_
 refine goes_ Tryd.func40 (by kernel_rfl) rfl #[.agg #[.bool m, .pointer p, .pointer pl, .pointer pr, .pointer pll, .pointer plr, .pointer prl, .pointer prr, .pointer pa, .pointer pb, .bool rt], .pointer p, .int .i64 (wrap64 (wt X - 1)), .pointer q1, .pointer q2] (by rfl) rfl rfl (by (try simp only [List.map_toArray, List.map_cons, List.map_nil]); first | done | rfl) ?_
 with_reducible refine (put_any _ _ _ _ _ _ _ _ _ _ _ _ _ _ _ _ _ _ _ _ _ _ (fun k hk => HSS.out k (Nat.le_trans HB2.out.size hk)) (by rw [← Ex.out]; exact (Hx.out.below HB2.out)) HNq1.out HNq2.out).mono ?_
 rw [show nx.f0 = keyT X from by rw [Ex.out]; rfl]
 rintro e w3_ ⟨v', rfl, h1, h2⟩
 obtain ⟨q3, rfl⟩ := h1.ptr
 have HB3 := Am (HB2.out.trans (h2.mono HB2.out.size))
 have HNq3 := Am (TopRep.rep h1 h2)
 have HTOP := Am h1
 have HTB := Am h2
 have HTW := HB2
 have HV3 := Am ((h2.block _ (Array.getElem?_eq_some_iff.1 HV2.out).1).trans HV2.out)
 replace HNq1 := Am (Rep.below HNq1.out h2)
 replace HNq2 := Am (Rep.below HNq2.out h2)
 clear h1 h2 HB2 HV2
 refine ⟨_, rfl, ?_⟩
 refine hK.out _ _ (vc11 HV3.out) (fun hHeld => ?_)
 clear hK K
 refine nm 25 ?_
 refine pu 12 4 ?_
 refine done_ (by kernel_rfl) ?_
 try clear hHeld
 go_wp2
 go_ret
 exact HF.out _ _ _ HTW.out HTB.out HTOP.out
theorem do12_any (m rt : Bool) (p pl pr pll plr prl prr pa pb : Option Addr) {nx : S34} {qx : Int} {lx rx : Tr} {X : Tr} (w : World) (hS : ∀ k, w.heap.size ≤ k → S k) (ex : X = .node nx qx lx rx) (Hx : Aside0 (Rep S w (.pointer p) X)) :
  Calls Tryd.prog 26 #[.agg #[.bool m, .pointer p, .pointer pl, .pointer pr, .pointer pll, .pointer plr, .pointer prl, .pointer prr, .pointer pa, .pointer pb, .bool rt], .int .i64 12] w fun e w' => DoPost S w (asT 1 X) e w' := by
 have hu111 := Tryd.underlying62
 have Ex := Am ex
 clear ex
 have HSS := Am hS
 clear hS
 have hfin := do_fin (S := S) w (asT 1 X)
 have HF := Am hfin
 clear hfin
 go_enter Tryd.func26, Tryd.ntmps26
 go_wp2_with (fail)
 refine (weight_any _ _ _ (Hx.out.below ((Below.refl _ _).alloc (Nat.le_refl _) _))).mono ?_
 rintro e w' ⟨rfl, rfl⟩
 go_wp2_with (fail)
 refine (as_any _ _ _ _ _ _ _ (fun k hk => HSS.out k (Nat.le_trans (by simp) hk)) (by rw [← Ex.out]; exact (Hx.out.below ((Below.refl _ _).alloc (Nat.le_refl _) _)))).mono ?_
 rw [← Ex.out]
 rintro e w2 ⟨v', rfl, h1, h2⟩
 obtain ⟨qr, rfl⟩ := h1.ptr
 have HN := Am h1
 have HB9 := Am h2
 clear h1 h2
 go_wp2
 go_ret
 exact HF.out _ _ _ ((Below.refl _ _).alloc (Nat.le_refl _) _) HB9.out HN.out
end
section
variable {S : Nat → Prop}
theorem do2_any (m rt : Bool) (p pl pr pll plr prl prr pa pb : Option Addr) {nx : S34} {qx : Int} {lx rx : Tr} {nl : S34} {ql : Int} {ll rl : Tr} {X : Tr} {L : Tr} {R : Tr} {LL : Tr} {LR : Tr} (w : World) (hS : ∀ k, w.heap.size ≤ k → S k) (ex : X = .node nx qx lx rx) (el : L = .node nl ql ll rl) (Hx : Aside0 (Rep S w (.pointer p) X)) (Hl : Aside0 (Rep S w (.pointer pl) L)) (Hr : Aside0 (Rep S w (.pointer pr) R)) (Hll : Aside0 (Rep S w (.pointer pll) LL)) (Hlr : Aside0 (Rep S w (.pointer plr) LR)) :
  Calls Tryd.prog 26 #[.agg #[.bool m, .pointer p, .pointer pl, .pointer pr, .pointer pll, .pointer plr, .pointer prl, .pointer prr, .pointer pa, .pointer pb, .bool rt], .int .i64 2] w fun e w' => DoPost S w (putT m (keyT L) (wt X) LL (putT m (keyT X) 0 LR R)) e w' := by
 have hu111 := Tryd.underlying62
 have Ex := Am ex
 clear ex
 have El := Am el
 clear el
 have HSS := Am hS
 clear hS
 have hfin := do_fin (S := S) w (putT m (keyT L) (wt X) LL (putT m (keyT X) 0 LR R))
 have HF := Am hfin
 clear hfin
 go_enter Tryd.func26, Tryd.ntmps26
 go_wp2_with (fail)
 refine (weight_any _ _ _ (Hx.out.below ((Below.refl _ _).alloc (Nat.le_refl _) _))).mono ?_
 rintro e w' ⟨rfl, rfl⟩
 go_wp2
 have HB0 : Aside0 (Below w.heap.size w (w.alloc (.cells #[.bool m, .pointer p, .pointer pl, .pointer pr, .pointer pll, .pointer plr, .pointer prl, .pointer prr, .pointer pa, .pointer pb, .bool rt] 62))) := ⟨(Below.refl _ _).alloc (Nat.le_refl _) _⟩
 have HV0 : Aside0 ((w.alloc (.cells #[.bool m, .pointer p, .pointer pl, .pointer pr, .pointer pll, .pointer plr, .pointer prl, .pointer prr, .pointer pa, .pointer pb, .bool rt] 62)).heap[w.heap.size]? = some (.cells #[.bool m, .pointer p, .pointer pl, .pointer pr, .pointer pll, .pointer plr, .pointer prl, .pointer prr, .pointer pa, .pointer pb, .bool rt] 62 (0, 0))) := ⟨heap_alloc_new w _⟩
 generalize w.alloc (.cells #[.bool m, .pointer p, .pointer pl, .pointer pr, .pointer pll, .pointer plr, .pointer prl, .pointer prr, .pointer pa, .pointer pb, .bool rt] 62) = w1 at HB0 HV0 ⊢
 obtain ⟨g, hg⟩ : ∃ g, g = w.heap.size := ⟨_, rfl⟩
 rw [← hg] at HV0 ⊢
 clear hg
 have HB0_ := Am (bd HB0.out)
 have HV0_ : Aside0 (w1.drew.heap[g]? = some (.cells #[.bool m, .pointer p, .pointer pl, .pointer pr, .pointer pll, .pointer plr, .pointer prl, .pointer prr, .pointer pa, .pointer pb, .bool rt] 62 (0, 0))) := ⟨HV0.out⟩
 clear HB0 HV0 
 have HB0 := HB0_
 have HV0 := HV0_
 clear HB0_ HV0_
 refine sT 16 [] (S := fun w' => w'.cell? ⟨g, 0, none⟩ = some (.bool m) ∧ w'.cell? ⟨g, 1, none⟩ = some (.pointer p) ∧ w'.cell? ⟨g, 2, none⟩ = some (.pointer pl) ∧ w'.cell? ⟨g, 3, none⟩ = some (.pointer pr) ∧ w'.cell? ⟨g, 4, none⟩ = some (.pointer pll) ∧ w'.cell? ⟨g, 5, none⟩ = some (.pointer plr) ∧ w'.cell? ⟨g, 6, none⟩ = some (.pointer prl) ∧ w'.cell? ⟨g, 7, none⟩ = some (.pointer prr) ∧ w'.cell? ⟨g, 8, none⟩ = some (.pointer pa) ∧ w'.cell? ⟨g, 9, none⟩ = some (.pointer pb) ∧ w'.cell? ⟨g, 10, none⟩ = some (.bool rt)) (vc11 HV0.out) fun hHeld => ?_
 refine pu 1 29 ?_
 refine pu 3 31 ?_
 refine pu 4 32 ?_
 refine pu 7 35 ?_
 refine pu 9 37 ?_
 refine pu 11 39 ?_
 refine ta 0 28 hHeld ?_
 refine ta 2 30 hHeld ?_
 refine ta 5 33 hHeld ?_
 refine ta 6 34 hHeld ?_
 refine ta 8 36 hHeld ?_
 refine ta 10 38 hHeld ?_
 refine ta 12 40 hHeld ?_
 refine on 13 41 fun K hK => ?_
 refine goes_ Tryd.func40 (by kernel_rfl) rfl #[.agg #[.bool m, .pointer p, .pointer pl, .pointer pr, .pointer pll, .pointer plr, .pointer prl, .pointer prr, .pointer pa, .pointer pb, .bool rt], .pointer p, .int .i64 0, .pointer plr, .pointer pr] (by rfl) rfl rfl (by (try simp only [List.map_toArray, List.map_cons, List.map_nil]); first | done | rfl) ?_
 with_reducible refine (put_any _ _ _ _ _ _ _ _ _ _ _ _ _ _ _ _ _ _ _ _ _ _ (fun k hk => HSS.out k (Nat.le_trans HB0.out.size hk)) (by rw [← Ex.out]; exact (Hx.out.below HB0.out)) (Hlr.out.below HB0.out) (Hr.out.below HB0.out)).mono ?_
 rw [show nx.f0 = keyT X from by rw [Ex.out]; rfl]
 rintro e w1_ ⟨v', rfl, h1, h2⟩
 obtain ⟨q1, rfl⟩ := h1.ptr
 have HB1 := Am (HB0.out.trans (h2.mono HB0.out.size))
 have HNq1 := Am (TopRep.rep h1 h2)
 have HV1 := Am ((h2.block _ (Array.getElem?_eq_some_iff.1 HV0.out).1).trans HV0.out)
 clear h1 h2 HB0 HV0
 refine ⟨_, rfl, ?_⟩
 refine hK.out _ _ (vc11 HV1.out) (fun hHeld => ?_)
 clear hK K
 refine nm 41 ?_
 refine on 14 42 fun K hK => ?_
 refine goes_ Tryd.func40 (by kernel_rfl) rfl #[.agg #[.bool m, .pointer p, .pointer pl, .pointer pr, .pointer pll, .pointer plr, .pointer prl, .pointer prr, .pointer pa, .pointer pb, .bool rt], .pointer pl, .int .i64 (wt X), .pointer pll, .pointer q1] (by rfl) rfl rfl (by (try simp only [List.map_toArray, List.map_cons, List.map_nil]); first | done | rfl) ?_
 with_reducible refine (put_any _ _ _ _ _ _ _ _ _ _ _ _ _ _ _ _ _ _ _ _ _ _ (fun k hk => HSS.out k (Nat.le_trans HB1.out.size hk)) (by rw [← El.out]; exact (Hl.out.below HB1.out)) (Hll.out.below HB1.out) HNq1.out).mono ?_
 rw [show nl.f0 = keyT L from by rw [El.out]; rfl]
 rintro e w2_ ⟨v', rfl, h1, h2⟩
 obtain ⟨q2, rfl⟩ := h1.ptr
 have HB2 := Am (HB1.out.trans (h2.mono HB1.out.size))
 have HNq2 := Am (TopRep.rep h1 h2)
 have HTOP := Am h1
 have HTB := Am h2
 have HTW := HB1
 have HV2 := Am ((h2.block _ (Array.getElem?_eq_some_iff.1 HV1.out).1).trans HV1.out)
 replace HNq1 := Am (Rep.below HNq1.out h2)
 clear h1 h2 HB1 HV1
 refine ⟨_, rfl, ?_⟩
 refine hK.out _ _ (vc11 HV2.out) (fun hHeld => ?_)
 clear hK K
 refine nm 42 ?_
 refine pu 15 4 ?_
 refine done_ (by kernel_rfl) ?_
 try clear hHeld
 go_wp2
 go_ret
 exact HF.out _ _ _ HTW.out HTB.out HTOP.out
theorem do4_any (m rt : Bool) (p pl pr pll plr prl prr pa pb : Option Addr) {nx : S34} {qx : Int} {lx rx : Tr} {nl : S34} {ql : Int} {ll rl : Tr} {nr : S34} {qr : Int} {lr rr : Tr} {X : Tr} {L : Tr} {R : Tr} (w : World) (hS : ∀ k, w.heap.size ≤ k → S k) (ex : X = .node nx qx lx rx) (el : L = .node nl ql ll rl) (er : R = .node nr qr lr rr) (Hx : Aside0 (Rep S w (.pointer p) X)) (Hl : Aside0 (Rep S w (.pointer pl) L)) (Hr : Aside0 (Rep S w (.pointer pr) R)) :
  Calls Tryd.prog 26 #[.agg #[.bool m, .pointer p, .pointer pl, .pointer pr, .pointer pll, .pointer plr, .pointer prl, .pointer prr, .pointer pa, .pointer pb, .bool rt], .int .i64 4] w fun e w' => DoPost S w (putT m (keyT X) (wrap64 (wt X + 1)) (lessT L) (asT 0 R)) e w' := by
 have hu111 := Tryd.underlying62
 have Ex := Am ex
 clear ex
 have El := Am el
 clear el
 have Er := Am er
 clear er
 have HSS := Am hS
 clear hS
 have hfin := do_fin (S := S) w (putT m (keyT X) (wrap64 (wt X + 1)) (lessT L) (asT 0 R))
 have HF := Am hfin
 clear hfin
 go_enter Tryd.func26, Tryd.ntmps26
 go_wp2_with (fail)
 refine (weight_any _ _ _ (Hx.out.below ((Below.refl _ _).alloc (Nat.le_refl _) _))).mono ?_
 rintro e w' ⟨rfl, rfl⟩
 go_wp2
 have HB0 : Aside0 (Below w.heap.size w (w.alloc (.cells #[.bool m, .pointer p, .pointer pl, .pointer pr, .pointer pll, .pointer plr, .pointer prl, .pointer prr, .pointer pa, .pointer pb, .bool rt] 62))) := ⟨(Below.refl _ _).alloc (Nat.le_refl _) _⟩
 have HV0 : Aside0 ((w.alloc (.cells #[.bool m, .pointer p, .pointer pl, .pointer pr, .pointer pll, .pointer plr, .pointer prl, .pointer prr, .pointer pa, .pointer pb, .bool rt] 62)).heap[w.heap.size]? = some (.cells #[.bool m, .pointer p, .pointer pl, .pointer pr, .pointer pll, .pointer plr, .pointer prl, .pointer prr, .pointer pa, .pointer pb, .bool rt] 62 (0, 0))) := ⟨heap_alloc_new w _⟩
 generalize w.alloc (.cells #[.bool m, .pointer p, .pointer pl, .pointer pr, .pointer pll, .pointer plr, .pointer prl, .pointer prr, .pointer pa, .pointer pb, .bool rt] 62) = w1 at HB0 HV0 ⊢
 obtain ⟨g, hg⟩ : ∃ g, g = w.heap.size := ⟨_, rfl⟩
 rw [← hg] at HV0 ⊢
 clear hg
 have HB0_ := Am (bd HB0.out)
 have HV0_ : Aside0 (w1.drew.heap[g]? = some (.cells #[.bool m, .pointer p, .pointer pl, .pointer pr, .pointer pll, .pointer plr, .pointer prl, .pointer prr, .pointer pa, .pointer pb, .bool rt] 62 (0, 0))) := ⟨HV0.out⟩
 clear HB0 HV0 
 have HB0 := HB0_
 have HV0 := HV0_
 clear HB0_ HV0_
 refine sT 13 [] (S := fun w' => w'.cell? ⟨g, 0, none⟩ = some (.bool m) ∧ w'.cell? ⟨g, 1, none⟩ = some (.pointer p) ∧ w'.cell? ⟨g, 2, none⟩ = some (.pointer pl) ∧ w'.cell? ⟨g, 3, none⟩ = some (.pointer pr) ∧ w'.cell? ⟨g, 4, none⟩ = some (.pointer pll) ∧ w'.cell? ⟨g, 5, none⟩ = some (.pointer plr) ∧ w'.cell? ⟨g, 6, none⟩ = some (.pointer prl) ∧ w'.cell? ⟨g, 7, none⟩ = some (.pointer prr) ∧ w'.cell? ⟨g, 8, none⟩ = some (.pointer pa) ∧ w'.cell? ⟨g, 9, none⟩ = some (.pointer pb) ∧ w'.cell? ⟨g, 10, none⟩ = some (.bool rt)) (vc11 HV0.out) fun hHeld => ?_
 refine pu 1 73 ?_
 refine pu 3 75 ?_
 refine pu 4 76 ?_
 refine pu 5 77 ?_
 refine pu 8 80 ?_
 refine ta 0 72 hHeld ?_
 refine ta 2 74 hHeld ?_
 refine ta 6 78 hHeld ?_
 refine ta 9 81 hHeld ?_
 refine on 7 79 fun K hK => ?_
 refine goes_ Tryd.func42 (by kernel_rfl) rfl #[.pointer pl] (by rfl) rfl rfl (by (try simp only [List.map_toArray, List.map_cons, List.map_nil]); first | done | rfl) ?_
 with_reducible refine (less_any _ _ _ _ _ _ (fun k hk => HSS.out k (Nat.le_trans HB0.out.size hk)) (by rw [← El.out]; exact (Hl.out.below HB0.out))).mono ?_
 rw [← El.out]
 rintro e w1_ ⟨v', rfl, h1, h2⟩
 obtain ⟨q1, rfl⟩ := h1.ptr
 have HB1 := Am (HB0.out.trans (h2.mono HB0.out.size))
 have HNq1 := Am (TopRep.rep h1 h2)
 have HV1 := Am ((h2.block _ (Array.getElem?_eq_some_iff.1 HV0.out).1).trans HV0.out)
 clear h1 h2 HB0 HV0
 refine ⟨_, rfl, ?_⟩
 refine hK.out _ _ (vc11 HV1.out) (fun hHeld => ?_)
 clear hK K
 refine nm 79 ?_
 refine on 10 82 fun K hK => ?_
 refine goes_ Tryd.func41 (by kernel_rfl) rfl #[.pointer pr, .int .i64 0] (by rfl) rfl rfl (by (try simp only [List.map_toArray, List.map_cons, List.map_nil]); first | done | rfl) ?_
 with_reducible refine (as_any _ _ _ _ _ _ _ (fun k hk => HSS.out k (Nat.le_trans HB1.out.size hk)) (by rw [← Er.out]; exact (Hr.out.below HB1.out))).mono ?_
 rw [← Er.out]
 rintro e w2_ ⟨v', rfl, h1, h2⟩
 obtain ⟨q2, rfl⟩ := h1.ptr
 have HB2 := Am (HB1.out.trans (h2.mono HB1.out.size))
 have HNq2 := Am (TopRep.rep h1 h2)
 have HV2 := Am ((h2.block _ (Array.getElem?_eq_some_iff.1 HV1.out).1).trans HV1.out)
 replace HNq1 := Am (Rep.below HNq1.out h2)
 clear h1 h2 HB1 HV1
 refine ⟨_, rfl, ?_⟩
 refine hK.out _ _ (vc11 HV2.out) (fun hHeld => ?_)
 clear hK K
 refine nm 82 ?_
 refine on 11 83 fun K hK => ?_
 refine goes_ Tryd.func40 (by kernel_rfl) rfl #[.agg #[.bool m, .pointer p, .pointer pl, .pointer pr, .pointer pll, .pointer plr, .pointer prl, .pointer prr, .pointer pa, .pointer pb, .bool rt], .pointer p, .int .i64 (wrap64 (wt X + 1)), .pointer q1, .pointer q2] (by rfl) rfl rfl (by (try simp only [List.map_toArray, List.map_cons, List.map_nil]); first | done | rfl) ?_
 with_reducible refine (put_any _ _ _ _ _ _ _ _ _ _ _ _ _ _ _ _ _ _ _ _ _ _ (fun k hk => HSS.out k (Nat.le_trans HB2.out.size hk)) (by rw [← Ex.out]; exact (Hx.out.below HB2.out)) HNq1.out HNq2.out).mono ?_
 rw [show nx.f0 = keyT X from by rw [Ex.out]; rfl]
 rintro e w3_ ⟨v', rfl, h1, h2⟩
 obtain ⟨q3, rfl⟩ := h1.ptr
 have HB3 := Am (HB2.out.trans (h2.mono HB2.out.size))
 have HNq3 := Am (TopRep.rep h1 h2)
 have HTOP := Am h1
 have HTB := Am h2
 have HTW := HB2
 have HV3 := Am ((h2.block _ (Array.getElem?_eq_some_iff.1 HV2.out).1).trans HV2.out)
 replace HNq1 := Am (Rep.below HNq1.out h2)
 replace HNq2 := Am (Rep.below HNq2.out h2)
 clear h1 h2 HB2 HV2
 refine ⟨_, rfl, ?_⟩
 refine hK.out _ _ (vc11 HV3.out) (fun hHeld => ?_)
 clear hK K
 refine nm 83 ?_
 refine pu 12 4 ?_
 refine done_ (by kernel_rfl) ?_
 try clear hHeld
 go_wp2
 go_ret
 exact HF.out _ _ _ HTW.out HTB.out HTOP.out
end
section
variable {S : Nat → Prop}
theorem do3_any (m rt : Bool) (p pl pr pll plr prl prr pa pb : Option Addr) {nx : S34} {qx : Int} {lx rx : Tr} {nl : S34} {ql : Int} {ll rl : Tr} {nlr : S34} {qlr : Int} {llr rlr : Tr} {X : Tr} {L : Tr} {R : Tr} {LL : Tr} {LR : Tr} (w : World) (hS : ∀ k, w.heap.size ≤ k → S k) (ex : X = .node nx qx lx rx) (el : L = .node nl ql ll rl) (elr : LR = .node nlr qlr llr rlr) (Hx : Aside0 (Rep S w (.pointer p) X)) (Hl : Aside0 (Rep S w (.pointer pl) L)) (Hr : Aside0 (Rep S w (.pointer pr) R)) (Hll : Aside0 (Rep S w (.pointer pll) LL)) (Hlr : Aside0 (Rep S w (.pointer plr) LR)) :
  Calls Tryd.prog 26 #[.agg #[.bool m, .pointer p, .pointer pl, .pointer pr, .pointer pll, .pointer plr, .pointer prl, .pointer prr, .pointer pa, .pointer pb, .bool rt], .int .i64 3] w fun e w' => DoPost S w (putT m (keyT LR) (wt X) (putT m (keyT L) 0 LL (lT m LR)) (putT m (keyT X) 0 (rT m LR) R)) e w' := by
 have hu111 := Tryd.underlying62
 have Ex := Am ex
 clear ex
 have El := Am el
 clear el
 have Elr := Am elr
 clear elr
 have HSS := Am hS
 clear hS
 have hfin := do_fin (S := S) w (putT m (keyT LR) (wt X) (putT m (keyT L) 0 LL (lT m LR)) (putT m (keyT X) 0 (rT m LR) R))
 have HF := Am hfin
 clear hfin
 go_enter Tryd.func26, Tryd.ntmps26
 go_wp2_with (fail)
 refine (weight_any _ _ _ (Hx.out.below ((Below.refl _ _).alloc (Nat.le_refl _) _))).mono ?_
 rintro e w' ⟨rfl, rfl⟩
 go_wp2
 have HB0 : Aside0 (Below w.heap.size w (w.alloc (.cells #[.bool m, .pointer p, .pointer pl, .pointer pr, .pointer pll, .pointer plr, .pointer prl, .pointer prr, .pointer pa, .pointer pb, .bool rt] 62))) := ⟨(Below.refl _ _).alloc (Nat.le_refl _) _⟩
 have HV0 : Aside0 ((w.alloc (.cells #[.bool m, .pointer p, .pointer pl, .pointer pr, .pointer pll, .pointer plr, .pointer prl, .pointer prr, .pointer pa, .pointer pb, .bool rt] 62)).heap[w.heap.size]? = some (.cells #[.bool m, .pointer p, .pointer pl, .pointer pr, .pointer pll, .pointer plr, .pointer prl, .pointer prr, .pointer pa, .pointer pb, .bool rt] 62 (0, 0))) := ⟨heap_alloc_new w _⟩
 generalize w.alloc (.cells #[.bool m, .pointer p, .pointer pl, .pointer pr, .pointer pll, .pointer plr, .pointer prl, .pointer prr, .pointer pa, .pointer pb, .bool rt] 62) = w1 at HB0 HV0 ⊢
 obtain ⟨g, hg⟩ : ∃ g, g = w.heap.size := ⟨_, rfl⟩
 rw [← hg] at HV0 ⊢
 clear hg
 have HB0_ := Am (bd HB0.out)
 have HV0_ : Aside0 (w1.drew.heap[g]? = some (.cells #[.bool m, .pointer p, .pointer pl, .pointer pr, .pointer pll, .pointer plr, .pointer prl, .pointer prr, .pointer pa, .pointer pb, .bool rt] 62 (0, 0))) := ⟨HV0.out⟩
 clear HB0 HV0 
 have HB0 := HB0_
 have HV0 := HV0_
 clear HB0_ HV0_
 refine sT 26 [] (S := fun w' => w'.cell? ⟨g, 0, none⟩ = some (.bool m) ∧ w'.cell? ⟨g, 1, none⟩ = some (.pointer p) ∧ w'.cell? ⟨g, 2, none⟩ = some (.pointer pl) ∧ w'.cell? ⟨g, 3, none⟩ = some (.pointer pr) ∧ w'.cell? ⟨g, 4, none⟩ = some (.pointer pll) ∧ w'.cell? ⟨g, 5, none⟩ = some (.pointer plr) ∧ w'.cell? ⟨g, 6, none⟩ = some (.pointer prl) ∧ w'.cell? ⟨g, 7, none⟩ = some (.pointer prr) ∧ w'.cell? ⟨g, 8, none⟩ = some (.pointer pa) ∧ w'.cell? ⟨g, 9, none⟩ = some (.pointer pb) ∧ w'.cell? ⟨g, 10, none⟩ = some (.bool rt)) (vc11 HV0.out) fun hHeld => ?_
 refine pu 1 46 ?_
 refine pu 3 48 ?_
 refine pu 5 50 ?_
 refine pu 7 52 ?_
 refine pu 10 55 ?_
 refine pu 15 60 ?_
 refine pu 18 63 ?_
 refine pu 21 66 ?_
 refine ta 0 45 hHeld ?_
 refine ta 2 47 hHeld ?_
 refine ta 4 49 hHeld ?_
 refine ta 6 51 hHeld ?_
 refine ta 8 53 hHeld ?_
 refine ta 9 54 hHeld ?_
 refine ta 11 56 hHeld ?_
 refine ta 14 59 hHeld ?_
 refine ta 16 61 hHeld ?_
 refine ta 17 62 hHeld ?_
 refine ta 19 64 hHeld ?_
 refine ta 22 67 hHeld ?_
 refine on 12 57 fun K hK => ?_
 refine goes_ Tryd.func32 (by kernel_rfl) rfl #[.agg #[.bool m, .pointer p, .pointer pl, .pointer pr, .pointer pll, .pointer plr, .pointer prl, .pointer prr, .pointer pa, .pointer pb, .bool rt], .pointer plr] (by rfl) rfl rfl (by (try simp only [List.map_toArray, List.map_cons, List.map_nil]); first | done | rfl) ?_
 with_reducible refine (left_any _ _ _ _ _ _ _ _ _ _ _ _ _ w _ Hlr.out HB0.out).mono ?_
 rintro e w1_ ⟨v', rfl, h1, h2⟩
 obtain ⟨q1, rfl⟩ := h1.ptr
 have HB1 := Am (HB0.out.trans (h2.mono HB0.out.size))
 have HNq1 := Am (Rep.below h1 HB1.out)
 have HV1 := Am ((h2.block _ (Array.getElem?_eq_some_iff.1 HV0.out).1).trans HV0.out)
 clear h1 h2 HB0 HV0
 refine ⟨_, rfl, ?_⟩
 refine hK.out _ _ (vc11 HV1.out) (fun hHeld => ?_)
 clear hK K
 refine nm 57 ?_
 refine on 13 58 fun K hK => ?_
 refine goes_ Tryd.func40 (by kernel_rfl) rfl #[.agg #[.bool m, .pointer p, .pointer pl, .pointer pr, .pointer pll, .pointer plr, .pointer prl, .pointer prr, .pointer pa, .pointer pb, .bool rt], .pointer pl, .int .i64 0, .pointer pll, .pointer q1] (by rfl) rfl rfl (by (try simp only [List.map_toArray, List.map_cons, List.map_nil]); first | done | rfl) ?_
 with_reducible refine (put_any _ _ _ _ _ _ _ _ _ _ _ _ _ _ _ _ _ _ _ _ _ _ (fun k hk => HSS.out k (Nat.le_trans HB1.out.size hk)) (by rw [← El.out]; exact (Hl.out.below HB1.out)) (Hll.out.below HB1.out) HNq1.out).mono ?_
 rw [show nl.f0 = keyT L from by rw [El.out]; rfl]
 rintro e w2_ ⟨v', rfl, h1, h2⟩
 obtain ⟨q2, rfl⟩ := h1.ptr
 have HB2 := Am (HB1.out.trans (h2.mono HB1.out.size))
 have HNq2 := Am (TopRep.rep h1 h2)
 have HV2 := Am ((h2.block _ (Array.getElem?_eq_some_iff.1 HV1.out).1).trans HV1.out)
 replace HNq1 := Am (Rep.below HNq1.out h2)
 clear h1 h2 HB1 HV1
 refine ⟨_, rfl, ?_⟩
 refine hK.out _ _ (vc11 HV2.out) (fun hHeld => ?_)
 clear hK K
 refine nm 58 ?_
 refine on 20 65 fun K hK => ?_
 refine goes_ Tryd.func33 (by kernel_rfl) rfl #[.agg #[.bool m, .pointer p, .pointer pl, .pointer pr, .pointer pll, .pointer plr, .pointer prl, .pointer prr, .pointer pa, .pointer pb, .bool rt], .pointer plr] (by rfl) rfl rfl (by (try simp only [List.map_toArray, List.map_cons, List.map_nil]); first | done | rfl) ?_
 with_reducible refine (right_any _ _ _ _ _ _ _ _ _ _ _ _ _ w _ Hlr.out HB2.out).mono ?_
 rintro e w3_ ⟨v', rfl, h1, h2⟩
 obtain ⟨q3, rfl⟩ := h1.ptr
 have HB3 := Am (HB2.out.trans (h2.mono HB2.out.size))
 have HNq3 := Am (Rep.below h1 HB3.out)
 have HV3 := Am ((h2.block _ (Array.getElem?_eq_some_iff.1 HV2.out).1).trans HV2.out)
 replace HNq1 := Am (Rep.below HNq1.out h2)
 replace HNq2 := Am (Rep.below HNq2.out h2)
 clear h1 h2 HB2 HV2
 refine ⟨_, rfl, ?_⟩
 refine hK.out _ _ (vc11 HV3.out) (fun hHeld => ?_)
 clear hK K
 refine nm 65 ?_
 refine on 23 68 fun K hK => ?_
 refine goes_ Tryd.func40 (by kernel_rfl) rfl #[.agg #[.bool m, .pointer p, .pointer pl, .pointer pr, .pointer pll, .pointer plr, .pointer prl, .pointer prr, .pointer pa, .pointer pb, .bool rt], .pointer p, .int .i64 0, .pointer q3, .pointer pr] (by rfl) rfl rfl (by (try simp only [List.map_toArray, List.map_cons, List.map_nil]); first | done | rfl) ?_
 with_reducible refine (put_any _ _ _ _ _ _ _ _ _ _ _ _ _ _ _ _ _ _ _ _ _ _ (fun k hk => HSS.out k (Nat.le_trans HB3.out.size hk)) (by rw [← Ex.out]; exact (Hx.out.below HB3.out)) HNq3.out (Hr.out.below HB3.out)).mono ?_
 rw [show nx.f0 = keyT X from by rw [Ex.out]; rfl]
 rintro e w4_ ⟨v', rfl, h1, h2⟩
 obtain ⟨q4, rfl⟩ := h1.ptr
 have HB4 := Am (HB3.out.trans (h2.mono HB3.out.size))
 have HNq4 := Am (TopRep.rep h1 h2)
 have HV4 := Am ((h2.block _ (Array.getElem?_eq_some_iff.1 HV3.out).1).trans HV3.out)
 replace HNq1 := Am (Rep.below HNq1.out h2)
 replace HNq2 := Am (Rep.below HNq2.out h2)
 replace HNq3 := Am (Rep.below HNq3.out h2)
 clear h1 h2 HB3 HV3
 refine ⟨_, rfl, ?_⟩
 refine hK.out _ _ (vc11 HV4.out) (fun hHeld => ?_)
 clear hK K
 refine nm 68 ?_
 refine on 24 69 fun K hK => ?_
 refine goes_ Tryd.func40 (by kernel_rfl) rfl #[.agg #[.bool m, .pointer p, .pointer pl, .pointer pr, .pointer pll, .pointer plr, .pointer prl, .pointer prr, .pointer pa, .pointer pb, .bool rt], .pointer plr, .int .i64 (wt X), .pointer q2, .pointer q4] (by rfl) rfl rfl (by (try simp only [List.map_toArray, List.map_cons, List.map_nil]); first | done | rfl) ?_
 with_reducible refine (put_any _ _ _ _ _ _ _ _ _ _ _ _ _ _ _ _ _ _ _ _ _ _ (fun k hk => HSS.out k (Nat.le_trans HB4.out.size hk)) (by rw [← Elr.out]; exact (Hlr.out.below HB4.out)) HNq2.out HNq4.out).mono ?_
 rw [show nlr.f0 = keyT LR from by rw [Elr.out]; rfl]
 rintro e w5_ ⟨v', rfl, h1, h2⟩
 obtain ⟨q5, rfl⟩ := h1.ptr
 have HB5 := Am (HB4.out.trans (h2.mono HB4.out.size))
 have HNq5 := Am (TopRep.rep h1 h2)
 have HTOP := Am h1
 have HTB := Am h2
 have HTW := HB4
 have HV5 := Am ((h2.block _ (Array.getElem?_eq_some_iff.1 HV4.out).1).trans HV4.out)
 replace HNq1 := Am (Rep.below HNq1.out h2)
 replace HNq2 := Am (Rep.below HNq2.out h2)
 replace HNq3 := Am (Rep.below HNq3.out h2)
 replace HNq4 := Am (Rep.below HNq4.out h2)
 clear h1 h2 HB4 HV4
 refine ⟨_, rfl, ?_⟩
 refine hK.out _ _ (vc11 HV5.out) (fun hHeld => ?_)
 clear hK K
 refine nm 69 ?_
 refine pu 25 4 ?_
 refine done_ (by kernel_rfl) ?_
 try clear hHeld
 go_wp2
 go_ret
 exact HF.out _ _ _ HTW.out HTB.out HTOP.out
theorem do11_any (m rt : Bool) (p pl pr pll plr prl prr pa pb : Option Addr) {nx : S34} {qx : Int} {lx rx : Tr} {nl : S34} {ql : Int} {ll rl : Tr} {nr : S34} {qr : Int} {lr rr : Tr} {X : Tr} {L : Tr} {R : Tr} (w : World) (hS : ∀ k, w.heap.size ≤ k → S k) (ex : X = .node nx qx lx rx) (el : L = .node nl ql ll rl) (er : R = .node nr qr lr rr) (Hx : Aside0 (Rep S w (.pointer p) X)) (Hl : Aside0 (Rep S w (.pointer pl) L)) (Hr : Aside0 (Rep S w (.pointer pr) R)) :
  Calls Tryd.prog 26 #[.agg #[.bool m, .pointer p, .pointer pl, .pointer pr, .pointer pll, .pointer plr, .pointer prl, .pointer prr, .pointer pa, .pointer pb, .bool rt], .int .i64 11] w fun e w' => DoPost S w (putT m (keyT X) (wrap64 (wt X + 1)) (lessT L) (lessT R)) e w' := by
 have hu111 := Tryd.underlying62
 have Ex := Am ex
 clear ex
 have El := Am el
 clear el
 have Er := Am er
 clear er
 have HSS := Am hS
 clear hS
 have hfin := do_fin (S := S) w (putT m (keyT X) (wrap64 (wt X + 1)) (lessT L) (lessT R))
 have HF := Am hfin
 clear hfin
 go_enter Tryd.func26, Tryd.ntmps26
 go_wp2_with (fail)
 refine (weight_any _ _ _ (Hx.out.below ((Below.refl _ _).alloc (Nat.le_refl _) _))).mono ?_
 rintro e w' ⟨rfl, rfl⟩
 go_wp2
 have HB0 : Aside0 (Below w.heap.size w (w.alloc (.cells #[.bool m, .pointer p, .pointer pl, .pointer pr, .pointer pll, .pointer plr, .pointer prl, .pointer prr, .pointer pa, .pointer pb, .bool rt] 62))) := ⟨(Below.refl _ _).alloc (Nat.le_refl _) _⟩
 have HV0 : Aside0 ((w.alloc (.cells #[.bool m, .pointer p, .pointer pl, .pointer pr, .pointer pll, .pointer plr, .pointer prl, .pointer prr, .pointer pa, .pointer pb, .bool rt] 62)).heap[w.heap.size]? = some (.cells #[.bool m, .pointer p, .pointer pl, .pointer pr, .pointer pll, .pointer plr, .pointer prl, .pointer prr, .pointer pa, .pointer pb, .bool rt] 62 (0, 0))) := ⟨heap_alloc_new w _⟩
 generalize w.alloc (.cells #[.bool m, .pointer p, .pointer pl, .pointer pr, .pointer pll, .pointer plr, .pointer prl, .pointer prr, .pointer pa, .pointer pb, .bool rt] 62) = w1 at HB0 HV0 ⊢
 obtain ⟨g, hg⟩ : ∃ g, g = w.heap.size := ⟨_, rfl⟩
 rw [← hg] at HV0 ⊢
 clear hg
 have HB0_ := Am (bd HB0.out)
 have HV0_ : Aside0 (w1.drew.heap[g]? = some (.cells #[.bool m, .pointer p, .pointer pl, .pointer pr, .pointer pll, .pointer plr, .pointer prl, .pointer prr, .pointer pa, .pointer pb, .bool rt] 62 (0, 0))) := ⟨HV0.out⟩
 clear HB0 HV0 
 have HB0 := HB0_
 have HV0 := HV0_
 clear HB0_ HV0_
 refine sT 13 [] (S := fun w' => w'.cell? ⟨g, 0, none⟩ = some (.bool m) ∧ w'.cell? ⟨g, 1, none⟩ = some (.pointer p) ∧ w'.cell? ⟨g, 2, none⟩ = some (.pointer pl) ∧ w'.cell? ⟨g, 3, none⟩ = some (.pointer pr) ∧ w'.cell? ⟨g, 4, none⟩ = some (.pointer pll) ∧ w'.cell? ⟨g, 5, none⟩ = some (.pointer plr) ∧ w'.cell? ⟨g, 6, none⟩ = some (.pointer prl) ∧ w'.cell? ⟨g, 7, none⟩ = some (.pointer prr) ∧ w'.cell? ⟨g, 8, none⟩ = some (.pointer pa) ∧ w'.cell? ⟨g, 9, none⟩ = some (.pointer pb) ∧ w'.cell? ⟨g, 10, none⟩ = some (.bool rt)) (vc11 HV0.out) fun hHeld => ?_
 refine pu 1 87 ?_
 refine pu 3 89 ?_
 refine pu 4 90 ?_
 refine pu 5 91 ?_
 refine pu 8 94 ?_
 refine ta 0 86 hHeld ?_
 refine ta 2 88 hHeld ?_
 refine ta 6 92 hHeld ?_
 refine ta 9 95 hHeld ?_
 refine on 7 93 fun K hK => ?_
 refine goes_ Tryd.func42 (by kernel_rfl) rfl #[.pointer pl] (by rfl) rfl rfl (by (try simp only [List.map_toArray, List.map_cons, List.map_nil]); first | done | rfl) ?_
 with_reducible refine (less_any _ _ _ _ _ _ (fun k hk => HSS.out k (Nat.le_trans HB0.out.size hk)) (by rw [← El.out]; exact (Hl.out.below HB0.out))).mono ?_
 rw [← El.out]
 rintro e w1_ ⟨v', rfl, h1, h2⟩
 obtain ⟨q1, rfl⟩ := h1.ptr
 have HB1 := Am (HB0.out.trans (h2.mono HB0.out.size))
 have HNq1 := Am (TopRep.rep h1 h2)
 have HV1 := Am ((h2.block _ (Array.getElem?_eq_some_iff.1 HV0.out).1).trans HV0.out)
 clear h1 h2 HB0 HV0
 refine ⟨_, rfl, ?_⟩
 refine hK.out _ _ (vc11 HV1.out) (fun hHeld => ?_)
 clear hK K
 refine nm 93 ?_
 refine on 10 96 fun K hK => ?_
 refine goes_ Tryd.func42 (by kernel_rfl) rfl #[.pointer pr] (by rfl) rfl rfl (by (try simp only [List.map_toArray, List.map_cons, List.map_nil]); first | done | rfl) ?_
 with_reducible refine (less_any _ _ _ _ _ _ (fun k hk => HSS.out k (Nat.le_trans HB1.out.size hk)) (by rw [← Er.out]; exact (Hr.out.below HB1.out))).mono ?_
 rw [← Er.out]
 rintro e w2_ ⟨v', rfl, h1, h2⟩
 obtain ⟨q2, rfl⟩ := h1.ptr
 have HB2 := Am (HB1.out.trans (h2.mono HB1.out.size))
 have HNq2 := Am (TopRep.rep h1 h2)
 have HV2 := Am ((h2.block _ (Array.getElem?_eq_some_iff.1 HV1.out).1).trans HV1.out)
 replace HNq1 := Am (Rep.below HNq1.out h2)
 clear h1 h2 HB1 HV1
 refine ⟨_, rfl, ?_⟩
 refine hK.out _ _ (vc11 HV2.out) (fun hHeld => ?_)
 clear hK K
 refine nm 96 ?_
 refine on 11 97 fun K hK => ?_
 refine goes_ Tryd.func40 (by kernel_rfl) rfl #[.agg #[.bool m, .pointer p, .pointer pl, .pointer pr, .pointer pll, .pointer plr, .pointer prl, .pointer prr, .pointer pa, .pointer pb, .bool rt], .pointer p, .int .i64 (wrap64 (wt X + 1)), .pointer q1, .pointer q2] (by rfl) rfl rfl (by (try simp only [List.map_toArray, List.map_cons, List.map_nil]); first | done | rfl) ?_
 with_reducible refine (put_any _ _ _ _ _ _ _ _ _ _ _ _ _ _ _ _ _ _ _ _ _ _ (fun k hk => HSS.out k (Nat.le_trans HB2.out.size hk)) (by rw [← Ex.out]; exact (Hx.out.below HB2.out)) HNq1.out HNq2.out).mono ?_
 rw [show nx.f0 = keyT X from by rw [Ex.out]; rfl]
 rintro e w3_ ⟨v', rfl, h1, h2⟩
 obtain ⟨q3, rfl⟩ := h1.ptr
 have HB3 := Am (HB2.out.trans (h2.mono HB2.out.size))
 have HNq3 := Am (TopRep.rep h1 h2)
 have HTOP := Am h1
 have HTB := Am h2
 have HTW := HB2
 have HV3 := Am ((h2.block _ (Array.getElem?_eq_some_iff.1 HV2.out).1).trans HV2.out)
 replace HNq1 := Am (Rep.below HNq1.out h2)
 replace HNq2 := Am (Rep.below HNq2.out h2)
 clear h1 h2 HB2 HV2
 refine ⟨_, rfl, ?_⟩
 refine hK.out _ _ (vc11 HV3.out) (fun hHeld => ?_)
 clear hK K
 refine nm 97 ?_
 refine pu 12 4 ?_
 refine done_ (by kernel_rfl) ?_
 try clear hHeld
 go_wp2
 go_ret
 exact HF.out _ _ _ HTW.out HTB.out HTOP.out
end
section
variable {S : Nat → Prop}
theorem do9_any (m rt : Bool) (p pl pr pll plr prl prr pa pb : Option Addr) {nx : S34} {qx : Int} {lx rx : Tr} {nl : S34} {ql : Int} {ll rl : Tr} {nr : S34} {qr : Int} {lr rr : Tr} {nrr : S34} {qrr : Int} {lrr rrr : Tr} {X : Tr} {L : Tr} {R : Tr} {RL : Tr} {RR : Tr} (w : World) (hS : ∀ k, w.heap.size ≤ k → S k) (ex : X = .node nx qx lx rx) (el : L = .node nl ql ll rl) (er : R = .node nr qr lr rr) (err : RR = .node nrr qrr lrr rrr) (Hx : Aside0 (Rep S w (.pointer p) X)) (Hl : Aside0 (Rep S w (.pointer pl) L)) (Hr : Aside0 (Rep S w (.pointer pr) R)) (Hrl : Aside0 (Rep S w (.pointer prl) RL)) (Hrr : Aside0 (Rep S w (.pointer prr) RR)) :
  Calls Tryd.prog 26 #[.agg #[.bool m, .pointer p, .pointer pl, .pointer pr, .pointer pll, .pointer plr, .pointer prl, .pointer prr, .pointer pa, .pointer pb, .bool rt], .int .i64 9] w fun e w' => DoPost S w (putT m (keyT R) (wt X) (putT m (keyT X) 1 (lessT L) RL) (asT 1 RR)) e w' := by
 have hu111 := Tryd.underlying62
 have Ex := Am ex
 clear ex
 have El := Am el
 clear el
 have Er := Am er
 clear er
 have Err := Am err
 clear err
 have HSS := Am hS
 clear hS
 have hfin := do_fin (S := S) w (putT m (keyT R) (wt X) (putT m (keyT X) 1 (lessT L) RL) (asT 1 RR))
 have HF := Am hfin
 clear hfin
 go_enter Tryd.func26, Tryd.ntmps26
 go_wp2_with (fail)
 refine (weight_any _ _ _ (Hx.out.below ((Below.refl _ _).alloc (Nat.le_refl _) _))).mono ?_
 rintro e w' ⟨rfl, rfl⟩
 go_wp2
 have HB0 : Aside0 (Below w.heap.size w (w.alloc (.cells #[.bool m, .pointer p, .pointer pl, .pointer pr, .pointer pll, .pointer plr, .pointer prl, .pointer prr, .pointer pa, .pointer pb, .bool rt] 62))) := ⟨(Below.refl _ _).alloc (Nat.le_refl _) _⟩
 have HV0 : Aside0 ((w.alloc (.cells #[.bool m, .pointer p, .pointer pl, .pointer pr, .pointer pll, .pointer plr, .pointer prl, .pointer prr, .pointer pa, .pointer pb, .bool rt] 62)).heap[w.heap.size]? = some (.cells #[.bool m, .pointer p, .pointer pl, .pointer pr, .pointer pll, .pointer plr, .pointer prl, .pointer prr, .pointer pa, .pointer pb, .bool rt] 62 (0, 0))) := ⟨heap_alloc_new w _⟩
 generalize w.alloc (.cells #[.bool m, .pointer p, .pointer pl, .pointer pr, .pointer pll, .pointer plr, .pointer prl, .pointer prr, .pointer pa, .pointer pb, .bool rt] 62) = w1 at HB0 HV0 ⊢
 obtain ⟨g, hg⟩ : ∃ g, g = w.heap.size := ⟨_, rfl⟩
 rw [← hg] at HV0 ⊢
 clear hg
 have HB0_ := Am (bd HB0.out)
 have HV0_ : Aside0 (w1.drew.heap[g]? = some (.cells #[.bool m, .pointer p, .pointer pl, .pointer pr, .pointer pll, .pointer plr, .pointer prl, .pointer prr, .pointer pa, .pointer pb, .bool rt] 62 (0, 0))) := ⟨HV0.out⟩
 clear HB0 HV0 
 have HB0 := HB0_
 have HV0 := HV0_
 clear HB0_ HV0_
 refine sT 18 [] (S := fun w' => w'.cell? ⟨g, 0, none⟩ = some (.bool m) ∧ w'.cell? ⟨g, 1, none⟩ = some (.pointer p) ∧ w'.cell? ⟨g, 2, none⟩ = some (.pointer pl) ∧ w'.cell? ⟨g, 3, none⟩ = some (.pointer pr) ∧ w'.cell? ⟨g, 4, none⟩ = some (.pointer pll) ∧ w'.cell? ⟨g, 5, none⟩ = some (.pointer plr) ∧ w'.cell? ⟨g, 6, none⟩ = some (.pointer prl) ∧ w'.cell? ⟨g, 7, none⟩ = some (.pointer prr) ∧ w'.cell? ⟨g, 8, none⟩ = some (.pointer pa) ∧ w'.cell? ⟨g, 9, none⟩ = some (.pointer pb) ∧ w'.cell? ⟨g, 10, none⟩ = some (.bool rt)) (vc11 HV0.out) fun hHeld => ?_
 refine pu 1 101 ?_
 refine pu 3 103 ?_
 refine pu 5 105 ?_
 refine pu 7 107 ?_
 refine pu 10 110 ?_
 refine pu 13 113 ?_
 refine ta 0 100 hHeld ?_
 refine ta 2 102 hHeld ?_
 refine ta 4 104 hHeld ?_
 refine ta 6 106 hHeld ?_
 refine ta 8 108 hHeld ?_
 refine ta 11 111 hHeld ?_
 refine ta 14 114 hHeld ?_
 refine on 9 109 fun K hK => ?_
 refine goes_ Tryd.func42 (by kernel_rfl) rfl #[.pointer pl] (by rfl) rfl rfl (by (try simp only [List.map_toArray, List.map_cons, List.map_nil]); first | done | rfl) ?_
 with_reducible refine (less_any _ _ _ _ _ _ (fun k hk => HSS.out k (Nat.le_trans HB0.out.size hk)) (by rw [← El.out]; exact (Hl.out.below HB0.out))).mono ?_
 rw [← El.out]
 rintro e w1_ ⟨v', rfl, h1, h2⟩
 obtain ⟨q1, rfl⟩ := h1.ptr
 have HB1 := Am (HB0.out.trans (h2.mono HB0.out.size))
 have HNq1 := Am (TopRep.rep h1 h2)
 have HV1 := Am ((h2.block _ (Array.getElem?_eq_some_iff.1 HV0.out).1).trans HV0.out)
 clear h1 h2 HB0 HV0
 refine ⟨_, rfl, ?_⟩
 refine hK.out _ _ (vc11 HV1.out) (fun hHeld => ?_)
 clear hK K
 refine nm 109 ?_
 refine on 12 112 fun K hK => ?_
 refine goes_ Tryd.func40 (by kernel_rfl) rfl #[.agg #[.bool m, .pointer p, .pointer pl, .pointer pr, .pointer pll, .pointer plr, .pointer prl, .pointer prr, .pointer pa, .pointer pb, .bool rt], .pointer p, .int .i64 1, .pointer q1, .pointer prl] (by rfl) rfl rfl (by (try simp only [List.map_toArray, List.map_cons, List.map_nil]); first | done | rfl) ?_
 with_reducible refine (put_any _ _ _ _ _ _ _ _ _ _ _ _ _ _ _ _ _ _ _ _ _ _ (fun k hk => HSS.out k (Nat.le_trans HB1.out.size hk)) (by rw [← Ex.out]; exact (Hx.out.below HB1.out)) HNq1.out (Hrl.out.below HB1.out)).mono ?_
 rw [show nx.f0 = keyT X from by rw [Ex.out]; rfl]
 rintro e w2_ ⟨v', rfl, h1, h2⟩
 obtain ⟨q2, rfl⟩ := h1.ptr
 have HB2 := Am (HB1.out.trans (h2.mono HB1.out.size))
 have HNq2 := Am (TopRep.rep h1 h2)
 have HV2 := Am ((h2.block _ (Array.getElem?_eq_some_iff.1 HV1.out).1).trans HV1.out)
 replace HNq1 := Am (Rep.below HNq1.out h2)
 clear h1 h2 HB1 HV1
 refine ⟨_, rfl, ?_⟩
 refine hK.out _ _ (vc11 HV2.out) (fun hHeld => ?_)
 clear hK K
 refine nm 112 ?_
 refine on 15 115 fun K hK => ?_
 refine goes_ Tryd.func41 (by kernel_rfl) rfl #[.pointer prr, .int .i64 1] (by rfl) rfl rfl (by (try simp only [List.map_toArray, List.map_cons, List.map_nil]); first | done | rfl) ?_
 with_reducible refine (as_any _ _ _ _ _ _ _ (fun k hk => HSS.out k (Nat.le_trans HB2.out.size hk)) (by rw [← Err.out]; exact (Hrr.out.below HB2.out))).mono ?_
 rw [← Err.out]
 rintro e w3_ ⟨v', rfl, h1, h2⟩
 obtain ⟨q3, rfl⟩ := h1.ptr
 have HB3 := Am (HB2.out.trans (h2.mono HB2.out.size))
 have HNq3 := Am (TopRep.rep h1 h2)
 have HV3 := Am ((h2.block _ (Array.getElem?_eq_some_iff.1 HV2.out).1).trans HV2.out)
 replace HNq1 := Am (Rep.below HNq1.out h2)
 replace HNq2 := Am (Rep.below HNq2.out h2)
 clear h1 h2 HB2 HV2
 refine ⟨_, rfl, ?_⟩
 refine hK.out _ _ (vc11 HV3.out) (fun hHeld => ?_)
 clear hK K
 refine nm 115 ?_
 refine on 16 116 fun K hK => ?_
 refine goes_ Tryd.func40 (by kernel_rfl) rfl #[.agg #[.bool m, .pointer p, .pointer pl, .pointer pr, .pointer pll, .pointer plr, .pointer prl, .pointer prr, .pointer pa, .pointer pb, .bool rt], .pointer pr, .int .i64 (wt X), .pointer q2, .pointer q3] (by rfl) rfl rfl (by (try simp only [List.map_toArray, List.map_cons, List.map_nil]); first | done | rfl) ?_
 with_reducible refine (put_any _ _ _ _ _ _ _ _ _ _ _ _ _ _ _ _ _ _ _ _ _ _ (fun k hk => HSS.out k (Nat.le_trans HB3.out.size hk)) (by rw [← Er.out]; exact (Hr.out.below HB3.out)) HNq2.out HNq3.out).mono ?_
 rw [show nr.f0 = keyT R from by rw [Er.out]; rfl]
 rintro e w4_ ⟨v', rfl, h1, h2⟩
 obtain ⟨q4, rfl⟩ := h1.ptr
 have HB4 := Am (HB3.out.trans (h2.mono HB3.out.size))
 have HNq4 := Am (TopRep.rep h1 h2)
 have HTOP := Am h1
 have HTB := Am h2
 have HTW := HB3
 have HV4 := Am ((h2.block _ (Array.getElem?_eq_some_iff.1 HV3.out).1).trans HV3.out)
 replace HNq1 := Am (Rep.below HNq1.out h2)
 replace HNq2 := Am (Rep.below HNq2.out h2)
 replace HNq3 := Am (Rep.below HNq3.out h2)
 clear h1 h2 HB3 HV3
 refine ⟨_, rfl, ?_⟩
 refine hK.out _ _ (vc11 HV4.out) (fun hHeld => ?_)
 clear hK K
 refine nm 116 ?_
 refine pu 17 4 ?_
 refine done_ (by kernel_rfl) ?_
 try clear hHeld
 go_wp2
 go_ret
 exact HF.out _ _ _ HTW.out HTB.out HTOP.out
theorem do10_any (m rt : Bool) (p pl pr pll plr prl prr pa pb : Option Addr) {nx : S34} {qx : Int} {lx rx : Tr} {nl : S34} {ql : Int} {ll rl : Tr} {nr : S34} {qr : Int} {lr rr : Tr} {nrl : S34} {qrl : Int} {lrl rrl : Tr} {X : Tr} {L : Tr} {R : Tr} {RL : Tr} {RR : Tr} {A : Tr} {B : Tr} (w : World) (hS : ∀ k, w.heap.size ≤ k → S k) (ex : X = .node nx qx lx rx) (el : L = .node nl ql ll rl) (er : R = .node nr qr lr rr) (erl : RL = .node nrl qrl lrl rrl) (Hx : Aside0 (Rep S w (.pointer p) X)) (Hl : Aside0 (Rep S w (.pointer pl) L)) (Hr : Aside0 (Rep S w (.pointer pr) R)) (Hrl : Aside0 (Rep S w (.pointer prl) RL)) (Hrr : Aside0 (Rep S w (.pointer prr) RR)) (Ha : Aside0 (Rep S w (.pointer pa) A)) (Hb : Aside0 (Rep S w (.pointer pb) B)) :
  Calls Tryd.prog 26 #[.agg #[.bool m, .pointer p, .pointer pl, .pointer pr, .pointer pll, .pointer plr, .pointer prl, .pointer prr, .pointer pa, .pointer pb, .bool rt], .int .i64 10] w fun e w' => DoPost S w (putT m (keyT RL) (wt X) (putT m (keyT X) 1 (lessT L) A) (putT m (keyT R) 1 B RR)) e w' := by
 have hu111 := Tryd.underlying62
 have Ex := Am ex
 clear ex
 have El := Am el
 clear el
 have Er := Am er
 clear er
 have Erl := Am erl
 clear erl
 have HSS := Am hS
 clear hS
 have hfin := do_fin (S := S) w (putT m (keyT RL) (wt X) (putT m (keyT X) 1 (lessT L) A) (putT m (keyT R) 1 B RR))
 have HF := Am hfin
 clear hfin
 go_enter Tryd.func26, Tryd.ntmps26
 go_wp2_with (fail)
 refine (weight_any _ _ _ (Hx.out.below ((Below.refl _ _).alloc (Nat.le_refl _) _))).mono ?_
 rintro e w' ⟨rfl, rfl⟩
 go_wp2
 have HB0 : Aside0 (Below w.heap.size w (w.alloc (.cells #[.bool m, .pointer p, .pointer pl, .pointer pr, .pointer pll, .pointer plr, .pointer prl, .pointer prr, .pointer pa, .pointer pb, .bool rt] 62))) := ⟨(Below.refl _ _).alloc (Nat.le_refl _) _⟩
 have HV0 : Aside0 ((w.alloc (.cells #[.bool m, .pointer p, .pointer pl, .pointer pr, .pointer pll, .pointer plr, .pointer prl, .pointer prr, .pointer pa, .pointer pb, .bool rt] 62)).heap[w.heap.size]? = some (.cells #[.bool m, .pointer p, .pointer pl, .pointer pr, .pointer pll, .pointer plr, .pointer prl, .pointer prr, .pointer pa, .pointer pb, .bool rt] 62 (0, 0))) := ⟨heap_alloc_new w _⟩
 generalize w.alloc (.cells #[.bool m, .pointer p, .pointer pl, .pointer pr, .pointer pll, .pointer plr, .pointer prl, .pointer prr, .pointer pa, .pointer pb, .bool rt] 62) = w1 at HB0 HV0 ⊢
 obtain ⟨g, hg⟩ : ∃ g, g = w.heap.size := ⟨_, rfl⟩
 rw [← hg] at HV0 ⊢
 clear hg
 have HB0_ := Am (bd HB0.out)
 have HV0_ : Aside0 (w1.drew.heap[g]? = some (.cells #[.bool m, .pointer p, .pointer pl, .pointer pr, .pointer pll, .pointer plr, .pointer prl, .pointer prr, .pointer pa, .pointer pb, .bool rt] 62 (0, 0))) := ⟨HV0.out⟩
 clear HB0 HV0 
 have HB0 := HB0_
 have HV0 := HV0_
 clear HB0_ HV0_
 refine sT 23 [] (S := fun w' => w'.cell? ⟨g, 0, none⟩ = some (.bool m) ∧ w'.cell? ⟨g, 1, none⟩ = some (.pointer p) ∧ w'.cell? ⟨g, 2, none⟩ = some (.pointer pl) ∧ w'.cell? ⟨g, 3, none⟩ = some (.pointer pr) ∧ w'.cell? ⟨g, 4, none⟩ = some (.pointer pll) ∧ w'.cell? ⟨g, 5, none⟩ = some (.pointer plr) ∧ w'.cell? ⟨g, 6, none⟩ = some (.pointer prl) ∧ w'.cell? ⟨g, 7, none⟩ = some (.pointer prr) ∧ w'.cell? ⟨g, 8, none⟩ = some (.pointer pa) ∧ w'.cell? ⟨g, 9, none⟩ = some (.pointer pb) ∧ w'.cell? ⟨g, 10, none⟩ = some (.bool rt)) (vc11 HV0.out) fun hHeld => ?_
 refine pu 1 120 ?_
 refine pu 3 122 ?_
 refine pu 5 124 ?_
 refine pu 7 126 ?_
 refine pu 10 129 ?_
 refine pu 14 133 ?_
 refine pu 16 135 ?_
 refine pu 18 137 ?_
 refine ta 0 119 hHeld ?_
 refine ta 2 121 hHeld ?_
 refine ta 4 123 hHeld ?_
 refine ta 6 125 hHeld ?_
 refine ta 8 127 hHeld ?_
 refine ta 11 130 hHeld ?_
 refine ta 13 132 hHeld ?_
 refine ta 15 134 hHeld ?_
 refine ta 17 136 hHeld ?_
 refine ta 19 138 hHeld ?_
 refine on 9 128 fun K hK => ?_
 refine goes_ Tryd.func42 (by kernel_rfl) rfl #[.pointer pl] (by rfl) rfl rfl (by (try simp only [List.map_toArray, List.map_cons, List.map_nil]); first | done | rfl) ?_
 with_reducible refine (less_any _ _ _ _ _ _ (fun k hk => HSS.out k (Nat.le_trans HB0.out.size hk)) (by rw [← El.out]; exact (Hl.out.below HB0.out))).mono ?_
 rw [← El.out]
 rintro e w1_ ⟨v', rfl, h1, h2⟩
 obtain ⟨q1, rfl⟩ := h1.ptr
 have HB1 := Am (HB0.out.trans (h2.mono HB0.out.size))
 have HNq1 := Am (TopRep.rep h1 h2)
 have HV1 := Am ((h2.block _ (Array.getElem?_eq_some_iff.1 HV0.out).1).trans HV0.out)
 clear h1 h2 HB0 HV0
 refine ⟨_, rfl, ?_⟩
 refine hK.out _ _ (vc11 HV1.out) (fun hHeld => ?_)
 clear hK K
 refine nm 128 ?_
 refine on 12 131 fun K hK => ?_
 refine goes_ Tryd.func40 (by kernel_rfl) rfl #[.agg #[.bool m, .pointer p, .pointer pl, .pointer pr, .pointer pll, .pointer plr, .pointer prl, .pointer prr, .pointer pa, .pointer pb, .bool rt], .pointer p, .int .i64 1, .pointer q1, .pointer pa] (by rfl) rfl rfl (by (try simp only [List.map_toArray, List.map_cons, List.map_nil]); first | done | rfl) ?_
 with_reducible refine (put_any _ _ _ _ _ _ _ _ _ _ _ _ _ _ _ _ _ _ _ _ _ _ (fun k hk => HSS.out k (Nat.le_trans HB1.out.size hk)) (by rw [← Ex.out]; exact (Hx.out.below HB1.out)) HNq1.out (Ha.out.below HB1.out)).mono ?_
 rw [show nx.f0 = keyT X from by rw [Ex.out]; rfl]
 rintro e w2_ ⟨v', rfl, h1, h2⟩
 obtain ⟨q2, rfl⟩ := h1.ptr
 have HB2 := Am (HB1.out.trans (h2.mono HB1.out.size))
 have HNq2 := Am (TopRep.rep h1 h2)
 have HV2 := Am ((h2.block _ (Array.getElem?_eq_some_iff.1 HV1.out).1).trans HV1.out)
 replace HNq1 := Am (Rep.below HNq1.out h2)
 clear h1 h2 HB1 HV1
 refine ⟨_, rfl, ?_⟩
 refine hK.out _ _ (vc11 HV2.out) (fun hHeld => ?_)
 clear hK K
 refine nm 131 ?_
 refine on 20 139 fun K hK => ?_
 refine goes_ Tryd.func40 (by kernel_rfl) rfl #[.agg #[.bool m, .pointer p, .pointer pl, .pointer pr, .pointer pll, .pointer plr, .pointer prl, .pointer prr, .pointer pa, .pointer pb, .bool rt], .pointer pr, .int .i64 1, .pointer pb, .pointer prr] (by rfl) rfl rfl (by (try simp only [List.map_toArray, List.map_cons, List.map_nil]); first | done | rfl) ?_
 with_reducible refine (put_any _ _ _ _ _ _ _ _ _ _ _ _ _ _ _ _ _ _ _ _ _ _ (fun k hk => HSS.out k (Nat.le_trans HB2.out.size hk)) (by rw [← Er.out]; exact (Hr.out.below HB2.out)) (Hb.out.below HB2.out) (Hrr.out.below HB2.out)).mono ?_
 rw [show nr.f0 = keyT R from by rw [Er.out]; rfl]
 rintro e w3_ ⟨v', rfl, h1, h2⟩
 obtain ⟨q3, rfl⟩ := h1.ptr
 have HB3 := Am (HB2.out.trans (h2.mono HB2.out.size))
 have HNq3 := Am (TopRep.rep h1 h2)
 have HV3 := Am ((h2.block _ (Array.getElem?_eq_some_iff.1 HV2.out).1).trans HV2.out)
 replace HNq1 := Am (Rep.below HNq1.out h2)
 replace HNq2 := Am (Rep.below HNq2.out h2)
 clear h1 h2 HB2 HV2
 refine ⟨_, rfl, ?_⟩
 refine hK.out _ _ (vc11 HV3.out) (fun hHeld => ?_)
 clear hK K
 refine nm 139 ?_
 refine on 21 140 fun K hK => ?_
 refine goes_ Tryd.func40 (by kernel_rfl) rfl #[.agg #[.bool m, .pointer p, .pointer pl, .pointer pr, .pointer pll, .pointer plr, .pointer prl, .pointer prr, .pointer pa, .pointer pb, .bool rt], .pointer prl, .int .i64 (wt X), .pointer q2, .pointer q3] (by rfl) rfl rfl (by (try simp only [List.map_toArray, List.map_cons, List.map_nil]); first | done | rfl) ?_
 with_reducible refine (put_any _ _ _ _ _ _ _ _ _ _ _ _ _ _ _ _ _ _ _ _ _ _ (fun k hk => HSS.out k (Nat.le_trans HB3.out.size hk)) (by rw [← Erl.out]; exact (Hrl.out.below HB3.out)) HNq2.out HNq3.out).mono ?_
 rw [show nrl.f0 = keyT RL from by rw [Erl.out]; rfl]
 rintro e w4_ ⟨v', rfl, h1, h2⟩
 obtain ⟨q4, rfl⟩ := h1.ptr
 have HB4 := Am (HB3.out.trans (h2.mono HB3.out.size))
 have HNq4 := Am (TopRep.rep h1 h2)
 have HTOP := Am h1
 have HTB := Am h2
 have HTW := HB3
 have HV4 := Am ((h2.block _ (Array.getElem?_eq_some_iff.1 HV3.out).1).trans HV3.out)
 replace HNq1 := Am (Rep.below HNq1.out h2)
 replace HNq2 := Am (Rep.below HNq2.out h2)
 replace HNq3 := Am (Rep.below HNq3.out h2)
 clear h1 h2 HB3 HV3
 refine ⟨_, rfl, ?_⟩
 refine hK.out _ _ (vc11 HV4.out) (fun hHeld => ?_)
 clear hK K
 refine nm 140 ?_
 refine pu 22 4 ?_
 refine done_ (by kernel_rfl) ?_
 try clear hHeld
 go_wp2
 go_ret
 exact HF.out _ _ _ HTW.out HTB.out HTOP.out
end
section
variable {S : Nat → Prop}
theorem do5_any (m rt : Bool) (p pl pr pll plr prl prr pa pb : Option Addr) {nx : S34} {qx : Int} {lx rx : Tr} {nl : S34} {ql : Int} {ll rl : Tr} {nr : S34} {qr : Int} {lr rr : Tr} {nrl : S34} {qrl : Int} {lrl rrl : Tr} {X : Tr} {L : Tr} {R : Tr} {RL : Tr} {RR : Tr} (w : World) (hS : ∀ k, w.heap.size ≤ k → S k) (ex : X = .node nx qx lx rx) (el : L = .node nl ql ll rl) (er : R = .node nr qr lr rr) (erl : RL = .node nrl qrl lrl rrl) (Hx : Aside0 (Rep S w (.pointer p) X)) (Hl : Aside0 (Rep S w (.pointer pl) L)) (Hr : Aside0 (Rep S w (.pointer pr) R)) (Hrl : Aside0 (Rep S w (.pointer prl) RL)) (Hrr : Aside0 (Rep S w (.pointer prr) RR)) :
  Calls Tryd.prog 26 #[.agg #[.bool m, .pointer p, .pointer pl, .pointer pr, .pointer pll, .pointer plr, .pointer prl, .pointer prr, .pointer pa, .pointer pb, .bool rt], .int .i64 5] w fun e w' => DoPost S w (putT m (keyT R) (wt X) (putT m (keyT X) 1 (lessT L) (lessT RL)) RR) e w' := by
 have hu111 := Tryd.underlying62
 have Ex := Am ex
 clear ex
 have El := Am el
 clear el
 have Er := Am er
 clear er
 have Erl := Am erl
 clear erl
 have HSS := Am hS
 clear hS
 have hfin := do_fin (S := S) w (putT m (keyT R) (wt X) (putT m (keyT X) 1 (lessT L) (lessT RL)) RR)
 have HF := Am hfin
 clear hfin
 go_enter Tryd.func26, Tryd.ntmps26
 go_wp2_with (fail)
 refine (weight_any _ _ _ (Hx.out.below ((Below.refl _ _).alloc (Nat.le_refl _) _))).mono ?_
 rintro e w' ⟨rfl, rfl⟩
 go_wp2
 have HB0 : Aside0 (Below w.heap.size w (w.alloc (.cells #[.bool m, .pointer p, .pointer pl, .pointer pr, .pointer pll, .pointer plr, .pointer prl, .pointer prr, .pointer pa, .pointer pb, .bool rt] 62))) := ⟨(Below.refl _ _).alloc (Nat.le_refl _) _⟩
 have HV0 : Aside0 ((w.alloc (.cells #[.bool m, .pointer p, .pointer pl, .pointer pr, .pointer pll, .pointer plr, .pointer prl, .pointer prr, .pointer pa, .pointer pb, .bool rt] 62)).heap[w.heap.size]? = some (.cells #[.bool m, .pointer p, .pointer pl, .pointer pr, .pointer pll, .pointer plr, .pointer prl, .pointer prr, .pointer pa, .pointer pb, .bool rt] 62 (0, 0))) := ⟨heap_alloc_new w _⟩
 generalize w.alloc (.cells #[.bool m, .pointer p, .pointer pl, .pointer pr, .pointer pll, .pointer plr, .pointer prl, .pointer prr, .pointer pa, .pointer pb, .bool rt] 62) = w1 at HB0 HV0 ⊢
 obtain ⟨g, hg⟩ : ∃ g, g = w.heap.size := ⟨_, rfl⟩
 rw [← hg] at HV0 ⊢
 clear hg
 have HB0_ := Am (bd HB0.out)
 have HV0_ : Aside0 (w1.drew.heap[g]? = some (.cells #[.bool m, .pointer p, .pointer pl, .pointer pr, .pointer pll, .pointer plr, .pointer prl, .pointer prr, .pointer pa, .pointer pb, .bool rt] 62 (0, 0))) := ⟨HV0.out⟩
 clear HB0 HV0 
 have HB0 := HB0_
 have HV0 := HV0_
 clear HB0_ HV0_
 refine sT 18 [] (S := fun w' => w'.cell? ⟨g, 0, none⟩ = some (.bool m) ∧ w'.cell? ⟨g, 1, none⟩ = some (.pointer p) ∧ w'.cell? ⟨g, 2, none⟩ = some (.pointer pl) ∧ w'.cell? ⟨g, 3, none⟩ = some (.pointer pr) ∧ w'.cell? ⟨g, 4, none⟩ = some (.pointer pll) ∧ w'.cell? ⟨g, 5, none⟩ = some (.pointer plr) ∧ w'.cell? ⟨g, 6, none⟩ = some (.pointer prl) ∧ w'.cell? ⟨g, 7, none⟩ = some (.pointer prr) ∧ w'.cell? ⟨g, 8, none⟩ = some (.pointer pa) ∧ w'.cell? ⟨g, 9, none⟩ = some (.pointer pb) ∧ w'.cell? ⟨g, 10, none⟩ = some (.bool rt)) (vc11 HV0.out) fun hHeld => ?_
 refine pu 1 144 ?_
 refine pu 3 146 ?_
 refine pu 5 148 ?_
 refine pu 7 150 ?_
 refine pu 10 153 ?_
 refine pu 14 157 ?_
 refine ta 0 143 hHeld ?_
 refine ta 2 145 hHeld ?_
 refine ta 4 147 hHeld ?_
 refine ta 6 149 hHeld ?_
 refine ta 8 151 hHeld ?_
 refine ta 11 154 hHeld ?_
 refine ta 15 158 hHeld ?_
 refine on 9 152 fun K hK => ?_
 refine goes_ Tryd.func42 (by kernel_rfl) rfl #[.pointer pl] (by rfl) rfl rfl (by (try simp only [List.map_toArray, List.map_cons, List.map_nil]); first | done | rfl) ?_
 with_reducible refine (less_any _ _ _ _ _ _ (fun k hk => HSS.out k (Nat.le_trans HB0.out.size hk)) (by rw [← El.out]; exact (Hl.out.below HB0.out))).mono ?_
 rw [← El.out]
 rintro e w1_ ⟨v', rfl, h1, h2⟩
 obtain ⟨q1, rfl⟩ := h1.ptr
 have HB1 := Am (HB0.out.trans (h2.mono HB0.out.size))
 have HNq1 := Am (TopRep.rep h1 h2)
 have HV1 := Am ((h2.block _ (Array.getElem?_eq_some_iff.1 HV0.out).1).trans HV0.out)
 clear h1 h2 HB0 HV0
 refine ⟨_, rfl, ?_⟩
 refine hK.out _ _ (vc11 HV1.out) (fun hHeld => ?_)
 clear hK K
 refine nm 152 ?_
 refine on 12 155 fun K hK => ?_
 refine goes_ Tryd.func42 (by kernel_rfl) rfl #[.pointer prl] (by rfl) rfl rfl (by (try simp only [List.map_toArray, List.map_cons, List.map_nil]); first | done | rfl) ?_
 with_reducible refine (less_any _ _ _ _ _ _ (fun k hk => HSS.out k (Nat.le_trans HB1.out.size hk)) (by rw [← Erl.out]; exact (Hrl.out.below HB1.out))).mono ?_
 rw [← Erl.out]
 rintro e w2_ ⟨v', rfl, h1, h2⟩
 obtain ⟨q2, rfl⟩ := h1.ptr
 have HB2 := Am (HB1.out.trans (h2.mono HB1.out.size))
 have HNq2 := Am (TopRep.rep h1 h2)
 have HV2 := Am ((h2.block _ (Array.getElem?_eq_some_iff.1 HV1.out).1).trans HV1.out)
 replace HNq1 := Am (Rep.below HNq1.out h2)
 clear h1 h2 HB1 HV1
 refine ⟨_, rfl, ?_⟩
 refine hK.out _ _ (vc11 HV2.out) (fun hHeld => ?_)
 clear hK K
 refine nm 155 ?_
 refine on 13 156 fun K hK => ?_
 refine goes_ Tryd.func40 (by kernel_rfl) rfl #[.agg #[.bool m, .pointer p, .pointer pl, .pointer pr, .pointer pll, .pointer plr, .pointer prl, .pointer prr, .pointer pa, .pointer pb, .bool rt], .pointer p, .int .i64 1, .pointer q1, .pointer q2] (by rfl) rfl rfl (by (try simp only [List.map_toArray, List.map_cons, List.map_nil]); first | done | rfl) ?_
 with_reducible refine (put_any _ _ _ _ _ _ _ _ _ _ _ _ _ _ _ _ _ _ _ _ _ _ (fun k hk => HSS.out k (Nat.le_trans HB2.out.size hk)) (by rw [← Ex.out]; exact (Hx.out.below HB2.out)) HNq1.out HNq2.out).mono ?_
 rw [show nx.f0 = keyT X from by rw [Ex.out]; rfl]
 rintro e w3_ ⟨v', rfl, h1, h2⟩
 obtain ⟨q3, rfl⟩ := h1.ptr
 have HB3 := Am (HB2.out.trans (h2.mono HB2.out.size))
 have HNq3 := Am (TopRep.rep h1 h2)
 have HV3 := Am ((h2.block _ (Array.getElem?_eq_some_iff.1 HV2.out).1).trans HV2.out)
 replace HNq1 := Am (Rep.below HNq1.out h2)
 replace HNq2 := Am (Rep.below HNq2.out h2)
 clear h1 h2 HB2 HV2
 refine ⟨_, rfl, ?_⟩
 refine hK.out _ _ (vc11 HV3.out) (fun hHeld => ?_)
 clear hK K
 refine nm 156 ?_
 refine on 16 159 fun K hK => ?_
 refine goes_ Tryd.func40 (by kernel_rfl) rfl #[.agg #[.bool m, .pointer p, .pointer pl, .pointer pr, .pointer pll, .pointer plr, .pointer prl, .pointer prr, .pointer pa, .pointer pb, .bool rt], .pointer pr, .int .i64 (wt X), .pointer q3, .pointer prr] (by rfl) rfl rfl (by (try simp only [List.map_toArray, List.map_cons, List.map_nil]); first | done | rfl) ?_
 with_reducible refine (put_any _ _ _ _ _ _ _ _ _ _ _ _ _ _ _ _ _ _ _ _ _ _ (fun k hk => HSS.out k (Nat.le_trans HB3.out.size hk)) (by rw [← Er.out]; exact (Hr.out.below HB3.out)) HNq3.out (Hrr.out.below HB3.out)).mono ?_
 rw [show nr.f0 = keyT R from by rw [Er.out]; rfl]
 rintro e w4_ ⟨v', rfl, h1, h2⟩
 obtain ⟨q4, rfl⟩ := h1.ptr
 have HB4 := Am (HB3.out.trans (h2.mono HB3.out.size))
 have HNq4 := Am (TopRep.rep h1 h2)
 have HTOP := Am h1
 have HTB := Am h2
 have HTW := HB3
 have HV4 := Am ((h2.block _ (Array.getElem?_eq_some_iff.1 HV3.out).1).trans HV3.out)
 replace HNq1 := Am (Rep.below HNq1.out h2)
 replace HNq2 := Am (Rep.below HNq2.out h2)
 replace HNq3 := Am (Rep.below HNq3.out h2)
 clear h1 h2 HB3 HV3
 refine ⟨_, rfl, ?_⟩
 refine hK.out _ _ (vc11 HV4.out) (fun hHeld => ?_)
 clear hK K
 refine nm 159 ?_
 refine pu 17 4 ?_
 refine done_ (by kernel_rfl) ?_
 try clear hHeld
 go_wp2
 go_ret
 exact HF.out _ _ _ HTW.out HTB.out HTOP.out
theorem do6_any (m rt : Bool) (p pl pr pll plr prl prr pa pb : Option Addr) {nx : S34} {qx : Int} {lx rx : Tr} {nl : S34} {ql : Int} {ll rl : Tr} {nr : S34} {qr : Int} {lr rr : Tr} {nrl : S34} {qrl : Int} {lrl rrl : Tr} {X : Tr} {L : Tr} {R : Tr} {RL : Tr} {RR : Tr} (w : World) (hS : ∀ k, w.heap.size ≤ k → S k) (ex : X = .node nx qx lx rx) (el : L = .node nl ql ll rl) (er : R = .node nr qr lr rr) (erl : RL = .node nrl qrl lrl rrl) (Hx : Aside0 (Rep S w (.pointer p) X)) (Hl : Aside0 (Rep S w (.pointer pl) L)) (Hr : Aside0 (Rep S w (.pointer pr) R)) (Hrl : Aside0 (Rep S w (.pointer prl) RL)) (Hrr : Aside0 (Rep S w (.pointer prr) RR)) :
  Calls Tryd.prog 26 #[.agg #[.bool m, .pointer p, .pointer pl, .pointer pr, .pointer pll, .pointer plr, .pointer prl, .pointer prr, .pointer pa, .pointer pb, .bool rt], .int .i64 6] w fun e w' => DoPost S w (putT m (keyT R) (wt X) (putT m (keyT X) 1 (lessT L) (asT 0 RL)) RR) e w' := by
 have hu111 := Tryd.underlying62
 have Ex := Am ex
 clear ex
 have El := Am el
 clear el
 have Er := Am er
 clear er
 have Erl := Am erl
 clear erl
 have HSS := Am hS
 clear hS
 have hfin := do_fin (S := S) w (putT m (keyT R) (wt X) (putT m (keyT X) 1 (lessT L) (asT 0 RL)) RR)
 have HF := Am hfin
 clear hfin
 go_enter Tryd.func26, Tryd.ntmps26
 go_wp2_with (fail)
 refine (weight_any _ _ _ (Hx.out.below ((Below.refl _ _).alloc (Nat.le_refl _) _))).mono ?_
 rintro e w' ⟨rfl, rfl⟩
 go_wp2
 have HB0 : Aside0 (Below w.heap.size w (w.alloc (.cells #[.bool m, .pointer p, .pointer pl, .pointer pr, .pointer pll, .pointer plr, .pointer prl, .pointer prr, .pointer pa, .pointer pb, .bool rt] 62))) := ⟨(Below.refl _ _).alloc (Nat.le_refl _) _⟩
 have HV0 : Aside0 ((w.alloc (.cells #[.bool m, .pointer p, .pointer pl, .pointer pr, .pointer pll, .pointer plr, .pointer prl, .pointer prr, .pointer pa, .pointer pb, .bool rt] 62)).heap[w.heap.size]? = some (.cells #[.bool m, .pointer p, .pointer pl, .pointer pr, .pointer pll, .pointer plr, .pointer prl, .pointer prr, .pointer pa, .pointer pb, .bool rt] 62 (0, 0))) := ⟨heap_alloc_new w _⟩
 generalize w.alloc (.cells #[.bool m, .pointer p, .pointer pl, .pointer pr, .pointer pll, .pointer plr, .pointer prl, .pointer prr, .pointer pa, .pointer pb, .bool rt] 62) = w1 at HB0 HV0 ⊢
 obtain ⟨g, hg⟩ : ∃ g, g = w.heap.size := ⟨_, rfl⟩
 rw [← hg] at HV0 ⊢
 clear hg
 have HB0_ := Am (bd HB0.out)
 have HV0_ : Aside0 (w1.drew.heap[g]? = some (.cells #[.bool m, .pointer p, .pointer pl, .pointer pr, .pointer pll, .pointer plr, .pointer prl, .pointer prr, .pointer pa, .pointer pb, .bool rt] 62 (0, 0))) := ⟨HV0.out⟩
 clear HB0 HV0 
 have HB0 := HB0_
 have HV0 := HV0_
 clear HB0_ HV0_
 refine sT 18 [] (S := fun w' => w'.cell? ⟨g, 0, none⟩ = some (.bool m) ∧ w'.cell? ⟨g, 1, none⟩ = some (.pointer p) ∧ w'.cell? ⟨g, 2, none⟩ = some (.pointer pl) ∧ w'.cell? ⟨g, 3, none⟩ = some (.pointer pr) ∧ w'.cell? ⟨g, 4, none⟩ = some (.pointer pll) ∧ w'.cell? ⟨g, 5, none⟩ = some (.pointer plr) ∧ w'.cell? ⟨g, 6, none⟩ = some (.pointer prl) ∧ w'.cell? ⟨g, 7, none⟩ = some (.pointer prr) ∧ w'.cell? ⟨g, 8, none⟩ = some (.pointer pa) ∧ w'.cell? ⟨g, 9, none⟩ = some (.pointer pb) ∧ w'.cell? ⟨g, 10, none⟩ = some (.bool rt)) (vc11 HV0.out) fun hHeld => ?_
 refine pu 1 163 ?_
 refine pu 3 165 ?_
 refine pu 5 167 ?_
 refine pu 7 169 ?_
 refine pu 10 172 ?_
 refine pu 14 176 ?_
 refine ta 0 162 hHeld ?_
 refine ta 2 164 hHeld ?_
 refine ta 4 166 hHeld ?_
 refine ta 6 168 hHeld ?_
 refine ta 8 170 hHeld ?_
 refine ta 11 173 hHeld ?_
 refine ta 15 177 hHeld ?_
 refine on 9 171 fun K hK => ?_
 refine goes_ Tryd.func42 (by kernel_rfl) rfl #[.pointer pl] (by rfl) rfl rfl (by (try simp only [List.map_toArray, List.map_cons, List.map_nil]); first | done | rfl) ?_
 with_reducible refine (less_any _ _ _ _ _ _ (fun k hk => HSS.out k (Nat.le_trans HB0.out.size hk)) (by rw [← El.out]; exact (Hl.out.below HB0.out))).mono ?_
 rw [← El.out]
 rintro e w1_ ⟨v', rfl, h1, h2⟩
 obtain ⟨q1, rfl⟩ := h1.ptr
 have HB1 := Am (HB0.out.trans (h2.mono HB0.out.size))
 have HNq1 := Am (TopRep.rep h1 h2)
 have HV1 := Am ((h2.block _ (Array.getElem?_eq_some_iff.1 HV0.out).1).trans HV0.out)
 clear h1 h2 HB0 HV0
 refine ⟨_, rfl, ?_⟩
 refine hK.out _ _ (vc11 HV1.out) (fun hHeld => ?_)
 clear hK K
 refine nm 171 ?_
 refine on 12 174 fun K hK => ?_
 refine goes_ Tryd.func41 (by kernel_rfl) rfl #[.pointer prl, .int .i64 0] (by rfl) rfl rfl (by (try simp only [List.map_toArray, List.map_cons, List.map_nil]); first | done | rfl) ?_
 with_reducible refine (as_any _ _ _ _ _ _ _ (fun k hk => HSS.out k (Nat.le_trans HB1.out.size hk)) (by rw [← Erl.out]; exact (Hrl.out.below HB1.out))).mono ?_
 rw [← Erl.out]
 rintro e w2_ ⟨v', rfl, h1, h2⟩
 obtain ⟨q2, rfl⟩ := h1.ptr
 have HB2 := Am (HB1.out.trans (h2.mono HB1.out.size))
 have HNq2 := Am (TopRep.rep h1 h2)
 have HV2 := Am ((h2.block _ (Array.getElem?_eq_some_iff.1 HV1.out).1).trans HV1.out)
 replace HNq1 := Am (Rep.below HNq1.out h2)
 clear h1 h2 HB1 HV1
 refine ⟨_, rfl, ?_⟩
 refine hK.out _ _ (vc11 HV2.out) (fun hHeld => ?_)
 clear hK K
 refine nm 174 ?_
 refine on 13 175 fun K hK => ?_
 refine goes_ Tryd.func40 (by kernel_rfl) rfl #[.agg #[.bool m, .pointer p, .pointer pl, .pointer pr, .pointer pll, .pointer plr, .pointer prl, .pointer prr, .pointer pa, .pointer pb, .bool rt], .pointer p, .int .i64 1, .pointer q1, .pointer q2] (by rfl) rfl rfl (by (try simp only [List.map_toArray, List.map_cons, List.map_nil]); first | done | rfl) ?_
 with_reducible refine (put_any _ _ _ _ _ _ _ _ _ _ _ _ _ _ _ _ _ _ _ _ _ _ (fun k hk => HSS.out k (Nat.le_trans HB2.out.size hk)) (by rw [← Ex.out]; exact (Hx.out.below HB2.out)) HNq1.out HNq2.out).mono ?_
 rw [show nx.f0 = keyT X from by rw [Ex.out]; rfl]
 rintro e w3_ ⟨v', rfl, h1, h2⟩
 obtain ⟨q3, rfl⟩ := h1.ptr
 have HB3 := Am (HB2.out.trans (h2.mono HB2.out.size))
 have HNq3 := Am (TopRep.rep h1 h2)
 have HV3 := Am ((h2.block _ (Array.getElem?_eq_some_iff.1 HV2.out).1).trans HV2.out)
 replace HNq1 := Am (Rep.below HNq1.out h2)
 replace HNq2 := Am (Rep.below HNq2.out h2)
 clear h1 h2 HB2 HV2
 refine ⟨_, rfl, ?_⟩
 refine hK.out _ _ (vc11 HV3.out) (fun hHeld => ?_)
 clear hK K
 refine nm 175 ?_
 refine on 16 178 fun K hK => ?_
 refine goes_ Tryd.func40 (by kernel_rfl) rfl #[.agg #[.bool m, .pointer p, .pointer pl, .pointer pr, .pointer pll, .pointer plr, .pointer prl, .pointer prr, .pointer pa, .pointer pb, .bool rt], .pointer pr, .int .i64 (wt X), .pointer q3, .pointer prr] (by rfl) rfl rfl (by (try simp only [List.map_toArray, List.map_cons, List.map_nil]); first | done | rfl) ?_
 with_reducible refine (put_any _ _ _ _ _ _ _ _ _ _ _ _ _ _ _ _ _ _ _ _ _ _ (fun k hk => HSS.out k (Nat.le_trans HB3.out.size hk)) (by rw [← Er.out]; exact (Hr.out.below HB3.out)) HNq3.out (Hrr.out.below HB3.out)).mono ?_
 rw [show nr.f0 = keyT R from by rw [Er.out]; rfl]
 rintro e w4_ ⟨v', rfl, h1, h2⟩
 obtain ⟨q4, rfl⟩ := h1.ptr
 have HB4 := Am (HB3.out.trans (h2.mono HB3.out.size))
 have HNq4 := Am (TopRep.rep h1 h2)
 have HTOP := Am h1
 have HTB := Am h2
 have HTW := HB3
 have HV4 := Am ((h2.block _ (Array.getElem?_eq_some_iff.1 HV3.out).1).trans HV3.out)
 replace HNq1 := Am (Rep.below HNq1.out h2)
 replace HNq2 := Am (Rep.below HNq2.out h2)
 replace HNq3 := Am (Rep.below HNq3.out h2)
 clear h1 h2 HB3 HV3
 refine ⟨_, rfl, ?_⟩
 refine hK.out _ _ (vc11 HV4.out) (fun hHeld => ?_)
 clear hK K
 refine nm 178 ?_
 refine pu 17 4 ?_
 refine done_ (by kernel_rfl) ?_
 try clear hHeld
 go_wp2
 go_ret
 exact HF.out _ _ _ HTW.out HTB.out HTOP.out
end
section
variable {S : Nat → Prop}
theorem do7_any (m rt : Bool) (p pl pr pll plr prl prr pa pb : Option Addr) {nx : S34} {qx : Int} {lx rx : Tr} {nl : S34} {ql : Int} {ll rl : Tr} {nr : S34} {qr : Int} {lr rr : Tr} {nrl : S34} {qrl : Int} {lrl rrl : Tr} {na : S34} {qa : Int} {la ra : Tr} {X : Tr} {L : Tr} {R : Tr} {RL : Tr} {RR : Tr} {A : Tr} {B : Tr} (w : World) (hS : ∀ k, w.heap.size ≤ k → S k) (ex : X = .node nx qx lx rx) (el : L = .node nl ql ll rl) (er : R = .node nr qr lr rr) (erl : RL = .node nrl qrl lrl rrl) (ea : A = .node na qa la ra) (Hx : Aside0 (Rep S w (.pointer p) X)) (Hl : Aside0 (Rep S w (.pointer pl) L)) (Hr : Aside0 (Rep S w (.pointer pr) R)) (Hrl : Aside0 (Rep S w (.pointer prl) RL)) (Hrr : Aside0 (Rep S w (.pointer prr) RR)) (Ha : Aside0 (Rep S w (.pointer pa) A)) (Hb : Aside0 (Rep S w (.pointer pb) B)) :
  Calls Tryd.prog 26 #[.agg #[.bool m, .pointer p, .pointer pl, .pointer pr, .pointer pll, .pointer plr, .pointer prl, .pointer prr, .pointer pa, .pointer pb, .bool rt], .int .i64 7] w fun e w' => DoPost S w (putT m (keyT R) (wt X) (putT m (keyT A) 0 (putT m (keyT X) 1 (lessT L) (lT m A)) (putT m (keyT RL) 1 (rT m A) B)) RR) e w' := by
 have hu111 := Tryd.underlying62
 have Ex := Am ex
 clear ex
 have El := Am el
 clear el
 have Er := Am er
 clear er
 have Erl := Am erl
 clear erl
 have Ea := Am ea
 clear ea
 have HSS := Am hS
 clear hS
 have hfin := do_fin (S := S) w (putT m (keyT R) (wt X) (putT m (keyT A) 0 (putT m (keyT X) 1 (lessT L) (lT m A)) (putT m (keyT RL) 1 (rT m A) B)) RR)
 have HF := Am hfin
 clear hfin
 go_enter Tryd.func26, Tryd.ntmps26
 go_wp2_with (fail)
 refine (weight_any _ _ _ (Hx.out.below ((Below.refl _ _).alloc (Nat.le_refl _) _))).mono ?_
 rintro e w' ⟨rfl, rfl⟩
 go_wp2
 have HB0 : Aside0 (Below w.heap.size w (w.alloc (.cells #[.bool m, .pointer p, .pointer pl, .pointer pr, .pointer pll, .pointer plr, .pointer prl, .pointer prr, .pointer pa, .pointer pb, .bool rt] 62))) := ⟨(Below.refl _ _).alloc (Nat.le_refl _) _⟩
 have HV0 : Aside0 ((w.alloc (.cells #[.bool m, .pointer p, .pointer pl, .pointer pr, .pointer pll, .pointer plr, .pointer prl, .pointer prr, .pointer pa, .pointer pb, .bool rt] 62)).heap[w.heap.size]? = some (.cells #[.bool m, .pointer p, .pointer pl, .pointer pr, .pointer pll, .pointer plr, .pointer prl, .pointer prr, .pointer pa, .pointer pb, .bool rt] 62 (0, 0))) := ⟨heap_alloc_new w _⟩
 generalize w.alloc (.cells #[.bool m, .pointer p, .pointer pl, .pointer pr, .pointer pll, .pointer plr, .pointer prl, .pointer prr, .pointer pa, .pointer pb, .bool rt] 62) = w1 at HB0 HV0 ⊢
 obtain ⟨g, hg⟩ : ∃ g, g = w.heap.size := ⟨_, rfl⟩
 rw [← hg] at HV0 ⊢
 clear hg
 have HB0_ := Am (bd HB0.out)
 have HV0_ : Aside0 (w1.drew.heap[g]? = some (.cells #[.bool m, .pointer p, .pointer pl, .pointer pr, .pointer pll, .pointer plr, .pointer prl, .pointer prr, .pointer pa, .pointer pb, .bool rt] 62 (0, 0))) := ⟨HV0.out⟩
 clear HB0 HV0 
 have HB0 := HB0_
 have HV0 := HV0_
 clear HB0_ HV0_
 refine sT 12 [] (S := fun w' => w'.cell? ⟨g, 0, none⟩ = some (.bool m) ∧ w'.cell? ⟨g, 1, none⟩ = some (.pointer p) ∧ w'.cell? ⟨g, 2, none⟩ = some (.pointer pl) ∧ w'.cell? ⟨g, 3, none⟩ = some (.pointer pr) ∧ w'.cell? ⟨g, 4, none⟩ = some (.pointer pll) ∧ w'.cell? ⟨g, 5, none⟩ = some (.pointer plr) ∧ w'.cell? ⟨g, 6, none⟩ = some (.pointer prl) ∧ w'.cell? ⟨g, 7, none⟩ = some (.pointer prr) ∧ w'.cell? ⟨g, 8, none⟩ = some (.pointer pa) ∧ w'.cell? ⟨g, 9, none⟩ = some (.pointer pb) ∧ w'.cell? ⟨g, 10, none⟩ = some (.bool rt)) (vc11 HV0.out) fun hHeld => ?_
 refine pu 1 182 ?_
 refine pu 3 184 ?_
 refine pu 7 188 ?_
 refine ta 0 181 hHeld ?_
 refine ta 2 183 hHeld ?_
 refine ta 4 185 hHeld ?_
 refine ta 6 187 hHeld ?_
 refine ta 8 189 hHeld ?_
 refine on 5 186 fun K hK => ?_
 refine goes_ Tryd.func42 (by kernel_rfl) rfl #[.pointer pl] (by rfl) rfl rfl (by (try simp only [List.map_toArray, List.map_cons, List.map_nil]); first | done | rfl) ?_
 with_reducible refine (less_any _ _ _ _ _ _ (fun k hk => HSS.out k (Nat.le_trans HB0.out.size hk)) (by rw [← El.out]; exact (Hl.out.below HB0.out))).mono ?_
 rw [← El.out]
 rintro e w1_ ⟨v', rfl, h1, h2⟩
 obtain ⟨q1, rfl⟩ := h1.ptr
 have HB1 := Am (HB0.out.trans (h2.mono HB0.out.size))
 have HNq1 := Am (TopRep.rep h1 h2)
 have HV1 := Am ((h2.block _ (Array.getElem?_eq_some_iff.1 HV0.out).1).trans HV0.out)
 clear h1 h2 HB0 HV0
 refine ⟨_, rfl, ?_⟩
 refine hK.out _ _ (vc11 HV1.out) (fun hHeld => ?_)
 clear hK K
 refine nm 186 ?_
 refine on 9 190 fun K hK => ?_
 refine goes_ Tryd.func32 (by kernel_rfl) rfl #[.agg #[.bool m, .pointer p, .pointer pl, .pointer pr, .pointer pll, .pointer plr, .pointer prl, .pointer prr, .pointer pa, .pointer pb, .bool rt], .pointer pa] (by rfl) rfl rfl (by (try simp only [List.map_toArray, List.map_cons, List.map_nil]); first | done | rfl) ?_
 with_reducible refine (left_any _ _ _ _ _ _ _ _ _ _ _ _ _ w _ Ha.out HB1.out).mono ?_
 rintro e w2_ ⟨v', rfl, h1, h2⟩
 obtain ⟨q2, rfl⟩ := h1.ptr
 have HB2 := Am (HB1.out.trans (h2.mono HB1.out.size))
 have HNq2 := Am (Rep.below h1 HB2.out)
 have HV2 := Am ((h2.block _ (Array.getElem?_eq_some_iff.1 HV1.out).1).trans HV1.out)
 replace HNq1 := Am (Rep.below HNq1.out h2)
 clear h1 h2 HB1 HV1
 refine ⟨_, rfl, ?_⟩
 refine hK.out _ _ (vc11 HV2.out) (fun hHeld => ?_)
 clear hK K
 refine nm 190 ?_
 refine on 10 191 fun K hK => ?_
 refine goes_ Tryd.func40 (by kernel_rfl) rfl #[.agg #[.bool m, .pointer p, .pointer pl, .pointer pr, .pointer pll, .pointer plr, .pointer prl, .pointer prr, .pointer pa, .pointer pb, .bool rt], .pointer p, .int .i64 1, .pointer q1, .pointer q2] (by rfl) rfl rfl (by (try simp only [List.map_toArray, List.map_cons, List.map_nil]); first | done | rfl) ?_
 with_reducible refine (put_any _ _ _ _ _ _ _ _ _ _ _ _ _ _ _ _ _ _ _ _ _ _ (fun k hk => HSS.out k (Nat.le_trans HB2.out.size hk)) (by rw [← Ex.out]; exact (Hx.out.below HB2.out)) HNq1.out HNq2.out).mono ?_
 rw [show nx.f0 = keyT X from by rw [Ex.out]; rfl]
 rintro e w3_ ⟨v', rfl, h1, h2⟩
 obtain ⟨q3, rfl⟩ := h1.ptr
 have HB3 := Am (HB2.out.trans (h2.mono HB2.out.size))
 have HNq3 := Am (TopRep.rep h1 h2)
 have HV3 := Am ((h2.block _ (Array.getElem?_eq_some_iff.1 HV2.out).1).trans HV2.out)
 replace HNq1 := Am (Rep.below HNq1.out h2)
 replace HNq2 := Am (Rep.below HNq2.out h2)
 clear h1 h2 HB2 HV2
 refine ⟨_, rfl, ?_⟩
 refine hK.out _ _ (vc11 HV3.out) (fun hHeld => ?_)
 clear hK K
 refine nm 191 ?_
 refine pu 11 6 ?_
 refine done_ (by kernel_rfl) ?_
 try clear hHeld
 go_wp2
 have HB3_ := Am (bd HB3.out)
 have HV3_ : Aside0 (w3_.drew.heap[g]? = some (.cells #[.bool m, .pointer p, .pointer pl, .pointer pr, .pointer pll, .pointer plr, .pointer prl, .pointer prr, .pointer pa, .pointer pb, .bool rt] 62 (0, 0))) := ⟨HV3.out⟩
 have HNq1_ : Aside0 (Rep S w3_.drew (.pointer q1) (lessT L)) := ⟨Rep.kept (w := w3_) (w' := w3_.drew) (fun _ _ => rfl) HNq1.out⟩
 have HNq2_ : Aside0 (Rep S w3_.drew (.pointer q2) (lT m A)) := ⟨Rep.kept (w := w3_) (w' := w3_.drew) (fun _ _ => rfl) HNq2.out⟩
 have HNq3_ : Aside0 (Rep S w3_.drew (.pointer q3) (putT m (keyT X) 1 (lessT L) (lT m A))) := ⟨Rep.kept (w := w3_) (w' := w3_.drew) (fun _ _ => rfl) HNq3.out⟩
 clear HB3 HV3 HNq1 HNq2 HNq3
 have HB3 := HB3_
 have HV3 := HV3_
 clear HB3_ HV3_
 have HNq1 := HNq1_
 clear HNq1_
 have HNq2 := HNq2_
 clear HNq2_
 have HNq3 := HNq3_
 clear HNq3_
 refine sT 11 [] (S := fun w' => w'.cell? ⟨g, 0, none⟩ = some (.bool m) ∧ w'.cell? ⟨g, 1, none⟩ = some (.pointer p) ∧ w'.cell? ⟨g, 2, none⟩ = some (.pointer pl) ∧ w'.cell? ⟨g, 3, none⟩ = some (.pointer pr) ∧ w'.cell? ⟨g, 4, none⟩ = some (.pointer pll) ∧ w'.cell? ⟨g, 5, none⟩ = some (.pointer plr) ∧ w'.cell? ⟨g, 6, none⟩ = some (.pointer prl) ∧ w'.cell? ⟨g, 7, none⟩ = some (.pointer prr) ∧ w'.cell? ⟨g, 8, none⟩ = some (.pointer pa) ∧ w'.cell? ⟨g, 9, none⟩ = some (.pointer pb) ∧ w'.cell? ⟨g, 10, none⟩ = some (.bool rt)) (vc11 HV3.out) fun hHeld => ?_
 refine pu 1 193 ?_
 refine pu 4 196 ?_
 refine pu 7 199 ?_
 refine ta 0 192 hHeld ?_
 refine ta 2 194 hHeld ?_
 refine ta 3 195 hHeld ?_
 refine ta 5 197 hHeld ?_
 refine ta 8 200 hHeld ?_
 refine on 6 198 fun K hK => ?_
 refine goes_ Tryd.func33 (by kernel_rfl) rfl #[.agg #[.bool m, .pointer p, .pointer pl, .pointer pr, .pointer pll, .pointer plr, .pointer prl, .pointer prr, .pointer pa, .pointer pb, .bool rt], .pointer pa] (by rfl) rfl rfl (by (try simp only [List.map_toArray, List.map_cons, List.map_nil]); first | done | rfl) ?_
 with_reducible refine (right_any _ _ _ _ _ _ _ _ _ _ _ _ _ w _ Ha.out HB3.out).mono ?_
 rintro e w4_ ⟨v', rfl, h1, h2⟩
 obtain ⟨q4, rfl⟩ := h1.ptr
 have HB4 := Am (HB3.out.trans (h2.mono HB3.out.size))
 have HNq4 := Am (Rep.below h1 HB4.out)
 have HV4 := Am ((h2.block _ (Array.getElem?_eq_some_iff.1 HV3.out).1).trans HV3.out)
 replace HNq1 := Am (Rep.below HNq1.out h2)
 replace HNq2 := Am (Rep.below HNq2.out h2)
 replace HNq3 := Am (Rep.below HNq3.out h2)
 clear h1 h2 HB3 HV3
 refine ⟨_, rfl, ?_⟩
 refine hK.out _ _ (vc11 HV4.out) (fun hHeld => ?_)
 clear hK K
 refine nm 198 ?_
 refine on 9 201 fun K hK => ?_
 refine goes_ Tryd.func40 (by kernel_rfl) rfl #[.agg #[.bool m, .pointer p, .pointer pl, .pointer pr, .pointer pll, .pointer plr, .pointer prl, .pointer prr, .pointer pa, .pointer pb, .bool rt], .pointer prl, .int .i64 1, .pointer q4, .pointer pb] (by rfl) rfl rfl (by (try simp only [List.map_toArray, List.map_cons, List.map_nil]); first | done | rfl) ?_
 with_reducible refine (put_any _ _ _ _ _ _ _ _ _ _ _ _ _ _ _ _ _ _ _ _ _ _ (fun k hk => HSS.out k (Nat.le_trans HB4.out.size hk)) (by rw [← Erl.out]; exact (Hrl.out.below HB4.out)) HNq4.out (Hb.out.below HB4.out)).mono ?_
 rw [show nrl.f0 = keyT RL from by rw [Erl.out]; rfl]
 rintro e w5_ ⟨v', rfl, h1, h2⟩
 obtain ⟨q5, rfl⟩ := h1.ptr
 have HB5 := Am (HB4.out.trans (h2.mono HB4.out.size))
 have HNq5 := Am (TopRep.rep h1 h2)
 have HV5 := Am ((h2.block _ (Array.getElem?_eq_some_iff.1 HV4.out).1).trans HV4.out)
 replace HNq1 := Am (Rep.below HNq1.out h2)
 replace HNq2 := Am (Rep.below HNq2.out h2)
 replace HNq3 := Am (Rep.below HNq3.out h2)
 replace HNq4 := Am (Rep.below HNq4.out h2)
 clear h1 h2 HB4 HV4
 refine ⟨_, rfl, ?_⟩
 refine hK.out _ _ (vc11 HV5.out) (fun hHeld => ?_)
 clear hK K
 refine nm 201 ?_
 refine pu 10 7 ?_
 refine done_ (by kernel_rfl) ?_
 try clear hHeld
 go_wp2
 have HB5_ := Am (bd HB5.out)
 have HV5_ : Aside0 (w5_.drew.heap[g]? = some (.cells #[.bool m, .pointer p, .pointer pl, .pointer pr, .pointer pll, .pointer plr, .pointer prl, .pointer prr, .pointer pa, .pointer pb, .bool rt] 62 (0, 0))) := ⟨HV5.out⟩
 have HNq1_ : Aside0 (Rep S w5_.drew (.pointer q1) (lessT L)) := ⟨Rep.kept (w := w5_) (w' := w5_.drew) (fun _ _ => rfl) HNq1.out⟩
 have HNq2_ : Aside0 (Rep S w5_.drew (.pointer q2) (lT m A)) := ⟨Rep.kept (w := w5_) (w' := w5_.drew) (fun _ _ => rfl) HNq2.out⟩
 have HNq3_ : Aside0 (Rep S w5_.drew (.pointer q3) (putT m (keyT X) 1 (lessT L) (lT m A))) := ⟨Rep.kept (w := w5_) (w' := w5_.drew) (fun _ _ => rfl) HNq3.out⟩
 have HNq4_ : Aside0 (Rep S w5_.drew (.pointer q4) (rT m A)) := ⟨Rep.kept (w := w5_) (w' := w5_.drew) (fun _ _ => rfl) HNq4.out⟩
 have HNq5_ : Aside0 (Rep S w5_.drew (.pointer q5) (putT m (keyT RL) 1 (rT m A) B)) := ⟨Rep.kept (w := w5_) (w' := w5_.drew) (fun _ _ => rfl) HNq5.out⟩
 clear HB5 HV5 HNq1 HNq2 HNq3 HNq4 HNq5
 have HB5 := HB5_
 have HV5 := HV5_
 clear HB5_ HV5_
 have HNq1 := HNq1_
 clear HNq1_
 have HNq2 := HNq2_
 clear HNq2_
 have HNq3 := HNq3_
 clear HNq3_
 have HNq4 := HNq4_
 clear HNq4_
 have HNq5 := HNq5_
 clear HNq5_
 refine sT 14 [] (S := fun w' => w'.cell? ⟨g, 0, none⟩ = some (.bool m) ∧ w'.cell? ⟨g, 1, none⟩ = some (.pointer p) ∧ w'.cell? ⟨g, 2, none⟩ = some (.pointer pl) ∧ w'.cell? ⟨g, 3, none⟩ = some (.pointer pr) ∧ w'.cell? ⟨g, 4, none⟩ = some (.pointer pll) ∧ w'.cell? ⟨g, 5, none⟩ = some (.pointer plr) ∧ w'.cell? ⟨g, 6, none⟩ = some (.pointer prl) ∧ w'.cell? ⟨g, 7, none⟩ = some (.pointer prr) ∧ w'.cell? ⟨g, 8, none⟩ = some (.pointer pa) ∧ w'.cell? ⟨g, 9, none⟩ = some (.pointer pb) ∧ w'.cell? ⟨g, 10, none⟩ = some (.bool rt)) (vc11 HV5.out) fun hHeld => ?_
 refine pu 1 203 ?_
 refine pu 3 205 ?_
 refine pu 5 207 ?_
 refine pu 7 209 ?_
 refine pu 8 210 ?_
 refine pu 10 212 ?_
 refine ta 0 202 hHeld ?_
 refine ta 2 204 hHeld ?_
 refine ta 4 206 hHeld ?_
 refine ta 6 208 hHeld ?_
 refine ta 11 213 hHeld ?_
 refine on 9 211 fun K hK => ?_
 refine goes_ Tryd.func40 (by kernel_rfl) rfl #[.agg #[.bool m, .pointer p, .pointer pl, .pointer pr, .pointer pll, .pointer plr, .pointer prl, .pointer prr, .pointer pa, .pointer pb, .bool rt], .pointer pa, .int .i64 0, .pointer q3, .pointer q5] (by rfl) rfl rfl (by (try simp only [List.map_toArray, List.map_cons, List.map_nil]); first | done | rfl) ?_
 with_reducible refine (put_any _ _ _ _ _ _ _ _ _ _ _ _ _ _ _ _ _ _ _ _ _ _ (fun k hk => HSS.out k (Nat.le_trans HB5.out.size hk)) (by rw [← Ea.out]; exact (Ha.out.below HB5.out)) HNq3.out HNq5.out).mono ?_
 rw [show na.f0 = keyT A from by rw [Ea.out]; rfl]
 rintro e w6_ ⟨v', rfl, h1, h2⟩
 obtain ⟨q6, rfl⟩ := h1.ptr
 have HB6 := Am (HB5.out.trans (h2.mono HB5.out.size))
 have HNq6 := Am (TopRep.rep h1 h2)
 have HV6 := Am ((h2.block _ (Array.getElem?_eq_some_iff.1 HV5.out).1).trans HV5.out)
 replace HNq1 := Am (Rep.below HNq1.out h2)
 replace HNq2 := Am (Rep.below HNq2.out h2)
 replace HNq3 := Am (Rep.below HNq3.out h2)
 replace HNq4 := Am (Rep.below HNq4.out h2)
 replace HNq5 := Am (Rep.below HNq5.out h2)
 clear h1 h2 HB5 HV5
 refine ⟨_, rfl, ?_⟩
 refine hK.out _ _ (vc11 HV6.out) (fun hHeld => ?_)
 clear hK K
 refine nm 211 ?_
 refine on 12 214 fun K hK => ?_
 refine goes_ Tryd.func40 (by kernel_rfl) rfl #[.agg #[.bool m, .pointer p, .pointer pl, .pointer pr, .pointer pll, .pointer plr, .pointer prl, .pointer prr, .pointer pa, .pointer pb, .bool rt], .pointer pr, .int .i64 (wt X), .pointer q6, .pointer prr] (by rfl) rfl rfl (by (try simp only [List.map_toArray, List.map_cons, List.map_nil]); first | done | rfl) ?_
 with_reducible refine (put_any _ _ _ _ _ _ _ _ _ _ _ _ _ _ _ _ _ _ _ _ _ _ (fun k hk => HSS.out k (Nat.le_trans HB6.out.size hk)) (by rw [← Er.out]; exact (Hr.out.below HB6.out)) HNq6.out (Hrr.out.below HB6.out)).mono ?_
 rw [show nr.f0 = keyT R from by rw [Er.out]; rfl]
 rintro e w7_ ⟨v', rfl, h1, h2⟩
 obtain ⟨q7, rfl⟩ := h1.ptr
 have HB7 := Am (HB6.out.trans (h2.mono HB6.out.size))
 have HNq7 := Am (TopRep.rep h1 h2)
 have HTOP := Am h1
 have HTB := Am h2
 have HTW := HB6
 have HV7 := Am ((h2.block _ (Array.getElem?_eq_some_iff.1 HV6.out).1).trans HV6.out)
 replace HNq1 := Am (Rep.below HNq1.out h2)
 replace HNq2 := Am (Rep.below HNq2.out h2)
 replace HNq3 := Am (Rep.below HNq3.out h2)
 replace HNq4 := Am (Rep.below HNq4.out h2)
 replace HNq5 := Am (Rep.below HNq5.out h2)
 replace HNq6 := Am (Rep.below HNq6.out h2)
 clear h1 h2 HB6 HV6
 refine ⟨_, rfl, ?_⟩
 refine hK.out _ _ (vc11 HV7.out) (fun hHeld => ?_)
 clear hK K
 refine nm 214 ?_
 refine pu 13 4 ?_
 refine done_ (by kernel_rfl) ?_
 try clear hHeld
 go_wp2
 go_ret
 exact HF.out _ _ _ HTW.out HTB.out HTOP.out
end
section
variable {S : Nat → Prop}
theorem do8_any (m rt : Bool) (p pl pr pll plr prl prr pa pb : Option Addr) {nx : S34} {qx : Int} {lx rx : Tr} {nl : S34} {ql : Int} {ll rl : Tr} {nr : S34} {qr : Int} {lr rr : Tr} {nrl : S34} {qrl : Int} {lrl rrl : Tr} {nb : S34} {qb : Int} {lb rb : Tr} {X : Tr} {L : Tr} {R : Tr} {RL : Tr} {RR : Tr} {A : Tr} {B : Tr} (w : World) (hS : ∀ k, w.heap.size ≤ k → S k) (ex : X = .node nx qx lx rx) (el : L = .node nl ql ll rl) (er : R = .node nr qr lr rr) (erl : RL = .node nrl qrl lrl rrl) (eb : B = .node nb qb lb rb) (Hx : Aside0 (Rep S w (.pointer p) X)) (Hl : Aside0 (Rep S w (.pointer pl) L)) (Hr : Aside0 (Rep S w (.pointer pr) R)) (Hrl : Aside0 (Rep S w (.pointer prl) RL)) (Hrr : Aside0 (Rep S w (.pointer prr) RR)) (Ha : Aside0 (Rep S w (.pointer pa) A)) (Hb : Aside0 (Rep S w (.pointer pb) B)) :
  Calls Tryd.prog 26 #[.agg #[.bool m, .pointer p, .pointer pl, .pointer pr, .pointer pll, .pointer plr, .pointer prl, .pointer prr, .pointer pa, .pointer pb, .bool rt], .int .i64 8] w fun e w' => DoPost S w (putT m (keyT R) (wt X) (putT m (keyT RL) 0 (putT m (keyT X) 1 (lessT L) A) (asT 1 B)) RR) e w' := by
 have hu111 := Tryd.underlying62
 have Ex := Am ex
 clear ex
 have El := Am el
 clear el
 have Er := Am er
 clear er
 have Erl := Am erl
 clear erl
 have Eb := Am eb
 clear eb
 have HSS := Am hS
 clear hS
 have hfin := do_fin (S := S) w (putT m (keyT R) (wt X) (putT m (keyT RL) 0 (putT m (keyT X) 1 (lessT L) A) (asT 1 B)) RR)
 have HF := Am hfin
 clear hfin
 go_enter Tryd.func26, Tryd.ntmps26
 go_wp2_with (fail)
 refine (weight_any _ _ _ (Hx.out.below ((Below.refl _ _).alloc (Nat.le_refl _) _))).mono ?_
 rintro e w' ⟨rfl, rfl⟩
 go_wp2
 have HB0 : Aside0 (Below w.heap.size w (w.alloc (.cells #[.bool m, .pointer p, .pointer pl, .pointer pr, .pointer pll, .pointer plr, .pointer prl, .pointer prr, .pointer pa, .pointer pb, .bool rt] 62))) := ⟨(Below.refl _ _).alloc (Nat.le_refl _) _⟩
 have HV0 : Aside0 ((w.alloc (.cells #[.bool m, .pointer p, .pointer pl, .pointer pr, .pointer pll, .pointer plr, .pointer prl, .pointer prr, .pointer pa, .pointer pb, .bool rt] 62)).heap[w.heap.size]? = some (.cells #[.bool m, .pointer p, .pointer pl, .pointer pr, .pointer pll, .pointer plr, .pointer prl, .pointer prr, .pointer pa, .pointer pb, .bool rt] 62 (0, 0))) := ⟨heap_alloc_new w _⟩
 generalize w.alloc (.cells #[.bool m, .pointer p, .pointer pl, .pointer pr, .pointer pll, .pointer plr, .pointer prl, .pointer prr, .pointer pa, .pointer pb, .bool rt] 62) = w1 at HB0 HV0 ⊢
 obtain ⟨g, hg⟩ : ∃ g, g = w.heap.size := ⟨_, rfl⟩
 rw [← hg] at HV0 ⊢
 clear hg
 have HB0_ := Am (bd HB0.out)
 have HV0_ : Aside0 (w1.drew.heap[g]? = some (.cells #[.bool m, .pointer p, .pointer pl, .pointer pr, .pointer pll, .pointer plr, .pointer prl, .pointer prr, .pointer pa, .pointer pb, .bool rt] 62 (0, 0))) := ⟨HV0.out⟩
 clear HB0 HV0 
 have HB0 := HB0_
 have HV0 := HV0_
 clear HB0_ HV0_
 refine sT 24 [] (S := fun w' => w'.cell? ⟨g, 0, none⟩ = some (.bool m) ∧ w'.cell? ⟨g, 1, none⟩ = some (.pointer p) ∧ w'.cell? ⟨g, 2, none⟩ = some (.pointer pl) ∧ w'.cell? ⟨g, 3, none⟩ = some (.pointer pr) ∧ w'.cell? ⟨g, 4, none⟩ = some (.pointer pll) ∧ w'.cell? ⟨g, 5, none⟩ = some (.pointer plr) ∧ w'.cell? ⟨g, 6, none⟩ = some (.pointer prl) ∧ w'.cell? ⟨g, 7, none⟩ = some (.pointer prr) ∧ w'.cell? ⟨g, 8, none⟩ = some (.pointer pa) ∧ w'.cell? ⟨g, 9, none⟩ = some (.pointer pb) ∧ w'.cell? ⟨g, 10, none⟩ = some (.bool rt)) (vc11 HV0.out) fun hHeld => ?_
 refine pu 1 218 ?_
 refine pu 3 220 ?_
 refine pu 5 222 ?_
 refine pu 8 225 ?_
 refine pu 10 227 ?_
 refine pu 13 230 ?_
 refine pu 16 233 ?_
 refine pu 20 237 ?_
 refine ta 0 217 hHeld ?_
 refine ta 2 219 hHeld ?_
 refine ta 4 221 hHeld ?_
 refine ta 6 223 hHeld ?_
 refine ta 7 224 hHeld ?_
 refine ta 9 226 hHeld ?_
 refine ta 11 228 hHeld ?_
 refine ta 14 231 hHeld ?_
 refine ta 17 234 hHeld ?_
 refine ta 21 238 hHeld ?_
 refine on 12 229 fun K hK => ?_
 refine goes_ Tryd.func42 (by kernel_rfl) rfl #[.pointer pl] (by rfl) rfl rfl (by (try simp only [List.map_toArray, List.map_cons, List.map_nil]); first | done | rfl) ?_
 with_reducible refine (less_any _ _ _ _ _ _ (fun k hk => HSS.out k (Nat.le_trans HB0.out.size hk)) (by rw [← El.out]; exact (Hl.out.below HB0.out))).mono ?_
 rw [← El.out]
 rintro e w1_ ⟨v', rfl, h1, h2⟩
 obtain ⟨q1, rfl⟩ := h1.ptr
 have HB1 := Am (HB0.out.trans (h2.mono HB0.out.size))
 have HNq1 := Am (TopRep.rep h1 h2)
 have HV1 := Am ((h2.block _ (Array.getElem?_eq_some_iff.1 HV0.out).1).trans HV0.out)
 clear h1 h2 HB0 HV0
 refine ⟨_, rfl, ?_⟩
 refine hK.out _ _ (vc11 HV1.out) (fun hHeld => ?_)
 clear hK K
 refine nm 229 ?_
 refine on 15 232 fun K hK => ?_
 refine goes_ Tryd.func40 (by kernel_rfl) rfl #[.agg #[.bool m, .pointer p, .pointer pl, .pointer pr, .pointer pll, .pointer plr, .pointer prl, .pointer prr, .pointer pa, .pointer pb, .bool rt], .pointer p, .int .i64 1, .pointer q1, .pointer pa] (by rfl) rfl rfl (by (try simp only [List.map_toArray, List.map_cons, List.map_nil]); first | done | rfl) ?_
 with_reducible refine (put_any _ _ _ _ _ _ _ _ _ _ _ _ _ _ _ _ _ _ _ _ _ _ (fun k hk => HSS.out k (Nat.le_trans HB1.out.size hk)) (by rw [← Ex.out]; exact (Hx.out.below HB1.out)) HNq1.out (Ha.out.below HB1.out)).mono ?_
 rw [show nx.f0 = keyT X from by rw [Ex.out]; rfl]
 rintro e w2_ ⟨v', rfl, h1, h2⟩
 obtain ⟨q2, rfl⟩ := h1.ptr
 have HB2 := Am (HB1.out.trans (h2.mono HB1.out.size))
 have HNq2 := Am (TopRep.rep h1 h2)
 have HV2 := Am ((h2.block _ (Array.getElem?_eq_some_iff.1 HV1.out).1).trans HV1.out)
 replace HNq1 := Am (Rep.below HNq1.out h2)
 clear h1 h2 HB1 HV1
 refine ⟨_, rfl, ?_⟩
 refine hK.out _ _ (vc11 HV2.out) (fun hHeld => ?_)
 clear hK K
 refine nm 232 ?_
 refine on 18 235 fun K hK => ?_
 refine goes_ Tryd.func41 (by kernel_rfl) rfl #[.pointer pb, .int .i64 1] (by rfl) rfl rfl (by (try simp only [List.map_toArray, List.map_cons, List.map_nil]); first | done | rfl) ?_
 with_reducible refine (as_any _ _ _ _ _ _ _ (fun k hk => HSS.out k (Nat.le_trans HB2.out.size hk)) (by rw [← Eb.out]; exact (Hb.out.below HB2.out))).mono ?_
 rw [← Eb.out]
 rintro e w3_ ⟨v', rfl, h1, h2⟩
 obtain ⟨q3, rfl⟩ := h1.ptr
 have HB3 := Am (HB2.out.trans (h2.mono HB2.out.size))
 have HNq3 := Am (TopRep.rep h1 h2)
 have HV3 := Am ((h2.block _ (Array.getElem?_eq_some_iff.1 HV2.out).1).trans HV2.out)
 replace HNq1 := Am (Rep.below HNq1.out h2)
 replace HNq2 := Am (Rep.below HNq2.out h2)
 clear h1 h2 HB2 HV2
 refine ⟨_, rfl, ?_⟩
 refine hK.out _ _ (vc11 HV3.out) (fun hHeld => ?_)
 clear hK K
 refine nm 235 ?_
 refine on 19 236 fun K hK => ?_
 refine goes_ Tryd.func40 (by kernel_rfl) rfl #[.agg #[.bool m, .pointer p, .pointer pl, .pointer pr, .pointer pll, .pointer plr, .pointer prl, .pointer prr, .pointer pa, .pointer pb, .bool rt], .pointer prl, .int .i64 0, .pointer q2, .pointer q3] (by rfl) rfl rfl (by (try simp only [List.map_toArray, List.map_cons, List.map_nil]); first | done | rfl) ?_
 with_reducible refine (put_any _ _ _ _ _ _ _ _ _ _ _ _ _ _ _ _ _ _ _ _ _ _ (fun k hk => HSS.out k (Nat.le_trans HB3.out.size hk)) (by rw [← Erl.out]; exact (Hrl.out.below HB3.out)) HNq2.out HNq3.out).mono ?_
 rw [show nrl.f0 = keyT RL from by rw [Erl.out]; rfl]
 rintro e w4_ ⟨v', rfl, h1, h2⟩
 obtain ⟨q4, rfl⟩ := h1.ptr
 have HB4 := Am (HB3.out.trans (h2.mono HB3.out.size))
 have HNq4 := Am (TopRep.rep h1 h2)
 have HV4 := Am ((h2.block _ (Array.getElem?_eq_some_iff.1 HV3.out).1).trans HV3.out)
 replace HNq1 := Am (Rep.below HNq1.out h2)
 replace HNq2 := Am (Rep.below HNq2.out h2)
 replace HNq3 := Am (Rep.below HNq3.out h2)
 clear h1 h2 HB3 HV3
 refine ⟨_, rfl, ?_⟩
 refine hK.out _ _ (vc11 HV4.out) (fun hHeld => ?_)
 clear hK K
 refine nm 236 ?_
 refine on 22 239 fun K hK => ?_
 refine goes_ Tryd.func40 (by kernel_rfl) rfl #[.agg #[.bool m, .pointer p, .pointer pl, .pointer pr, .pointer pll, .pointer plr, .pointer prl, .pointer prr, .pointer pa, .pointer pb, .bool rt], .pointer pr, .int .i64 (wt X), .pointer q4, .pointer prr] (by rfl) rfl rfl (by (try simp only [List.map_toArray, List.map_cons, List.map_nil]); first | done | rfl) ?_
 with_reducible refine (put_any _ _ _ _ _ _ _ _ _ _ _ _ _ _ _ _ _ _ _ _ _ _ (fun k hk => HSS.out k (Nat.le_trans HB4.out.size hk)) (by rw [← Er.out]; exact (Hr.out.below HB4.out)) HNq4.out (Hrr.out.below HB4.out)).mono ?_
 rw [show nr.f0 = keyT R from by rw [Er.out]; rfl]
 rintro e w5_ ⟨v', rfl, h1, h2⟩
 obtain ⟨q5, rfl⟩ := h1.ptr
 have HB5 := Am (HB4.out.trans (h2.mono HB4.out.size))
 have HNq5 := Am (TopRep.rep h1 h2)
 have HTOP := Am h1
 have HTB := Am h2
 have HTW := HB4
 have HV5 := Am ((h2.block _ (Array.getElem?_eq_some_iff.1 HV4.out).1).trans HV4.out)
 replace HNq1 := Am (Rep.below HNq1.out h2)
 replace HNq2 := Am (Rep.below HNq2.out h2)
 replace HNq3 := Am (Rep.below HNq3.out h2)
 replace HNq4 := Am (Rep.below HNq4.out h2)
 clear h1 h2 HB4 HV4
 refine ⟨_, rfl, ?_⟩
 refine hK.out _ _ (vc11 HV5.out) (fun hHeld => ?_)
 clear hK K
 refine nm 239 ?_
 refine pu 23 4 ?_
 refine done_ (by kernel_rfl) ?_
 try clear hHeld
 go_wp2
 go_ret
 exact HF.out _ _ _ HTW.out HTB.out HTOP.out
end
section
variable {S : Nat → Prop}
theorem can12_0 (m : Bool) (p pl pr pll plr prl prr pa pb : Option Addr) (w : World) :
  Calls Tryd.prog 25 #[.agg #[.bool m, .pointer p, .pointer pl, .pointer pr, .pointer pll, .pointer plr, .pointer prl, .pointer prr, .pointer pa, .pointer pb, .bool false], .int .i64 12] w (RB w (.bool false)) := by
 have hu111 := Tryd.underlying62
 go_enter Tryd.func25, Tryd.ntmps25
 go_wp2
 go_ret
 exact ⟨rfl, (Below.refl _ _).alloc (Nat.le_refl _) _⟩
theorem can12_1 (m : Bool) (p pl pr pll plr prl prr pa pb : Option Addr) (T : Tr) (w : World) (Hx : Aside0 (Rep S w (.pointer p) T)) (b : Bool) (hb : (wt T != 1) = b) :
  Calls Tryd.prog 25 #[.agg #[.bool m, .pointer p, .pointer pl, .pointer pr, .pointer pll, .pointer plr, .pointer prl, .pointer prr, .pointer pa, .pointer pb, .bool true], .int .i64 12] w (RB w (.bool b)) := by
 have hu111 := Tryd.underlying62
 cases b with
 | true =>
  go_enter Tryd.func25, Tryd.ntmps25
  go_wp2_with (fail)
  refine (weight_any _ _ _ (Hx.out.below ((Below.refl _ _).alloc (Nat.le_refl _) _))).mono ?_
  rintro e w' ⟨rfl, rfl⟩
  go_wp2
  go_ret
  exact ⟨rfl, (Below.refl _ _).alloc (Nat.le_refl _) _⟩
 | false =>
  go_enter Tryd.func25, Tryd.ntmps25
  go_wp2_with (fail)
  refine (weight_any _ _ _ (Hx.out.below ((Below.refl _ _).alloc (Nat.le_refl _) _))).mono ?_
  rintro e w' ⟨rfl, rfl⟩
  go_wp2
  go_ret
  exact ⟨rfl, (Below.refl _ _).alloc (Nat.le_refl _) _⟩
def canT (m rt : Bool) (T : Tr) (kind : Int) : Bool :=
 if kind = 1 then can1 m T else if kind = 2 then can2 m T else if kind = 3 then can3 m T else if kind = 4 then can4 m T else if kind = 5 then can5 m T else if kind = 6 then can6 m T else if kind = 7 then can7 m T else if kind = 8 then can8 m T else if kind = 9 then can9 m T else if kind = 10 then can10 m T else if kind = 11 then can11 m T else (rt && wt T != 1)
theorem can_any (m rt : Bool) (p pl pr pll plr prl prr pa pb : Option Addr) (T : Tr) (w : World) (Hx : Aside0 (Rep S w (.pointer p) T)) (Hl : Aside0 (Rep S w (.pointer pl) (lT m T))) (Hr : Aside0 (Rep S w (.pointer pr) (rT m T))) (Hll : Aside0 (Rep S w (.pointer pll) (lT m (lT m T)))) (Hlr : Aside0 (Rep S w (.pointer plr) (rT m (lT m T)))) (Hrl : Aside0 (Rep S w (.pointer prl) (lT m (rT m T)))) (Hrr : Aside0 (Rep S w (.pointer prr) (rT m (rT m T)))) (Ha : Aside0 (Rep S w (.pointer pa) (lT m (lT m (rT m T))))) (Hb : Aside0 (Rep S w (.pointer pb) (rT m (lT m (rT m T))))) (kind : Int) (hk : 1 ≤ kind ∧ kind ≤ 12) :
  Calls Tryd.prog 25 #[.agg #[.bool m, .pointer p, .pointer pl, .pointer pr, .pointer pll, .pointer plr, .pointer prl, .pointer prr, .pointer pa, .pointer pb, .bool rt], .int .i64 kind] w (RB w (.bool (canT m rt T kind))) := by
 have hd : kind = 1 ∨ kind = 2 ∨ kind = 3 ∨ kind = 4 ∨ kind = 5 ∨ kind = 6 ∨ kind = 7 ∨ kind = 8 ∨ kind = 9 ∨ kind = 10 ∨ kind = 11 ∨ kind = 12 := by omega
 rcases hd with rfl | rfl | rfl | rfl | rfl | rfl | rfl | rfl | rfl | rfl | rfl | rfl
 ·exact can1_any m rt p pl pr pll plr prl prr pa pb T w Hl Hll Hlr Hr Hrl Hrr Hx
 ·exact can2_any m rt p pl pr pll plr prl prr pa pb T w Hl Hll Hr Hx
 ·exact can3_any m rt p pl pr pll plr prl prr pa pb T w Hl Hll Hlr Hr Hx
 ·exact can4_any m rt p pl pr pll plr prl prr pa pb T w Hl Hr Hrl Hrr
 ·exact can5_any m rt p pl pr pll plr prl prr pa pb T w Hl Hr Hrl
 ·exact can6_any m rt p pl pr pll plr prl prr pa pb T w Ha Hb Hl Hr Hrl
 ·exact can7_any m rt p pl pr pll plr prl prr pa pb T w Ha Hb Hl Hr Hrl
 ·exact can8_any m rt p pl pr pll plr prl prr pa pb T w Hb Hl Hr Hrl
 ·exact can9_any m rt p pl pr pll plr prl prr pa pb T w Hl Hr Hrr
 ·exact can10_any m rt p pl pr pll plr prl prr pa pb T w Hl Hr Hrl Hrr
 ·exact can11_any m rt p pl pr pll plr prl prr pa pb T w Hl Hr
 ·cases rt with
  | false => exact can12_0 m p pl pr pll plr prl prr pa pb w
  | true => exact can12_1 m p pl pr pll plr prl prr pa pb T w Hx _ rfl
def do1 (m : Bool) (X : Tr) : Tr := (putT m (keyT X) (wrap64 (wt X - 1)) (asT 1 (lT m X)) (asT 1 (rT m X)))
def do2 (m : Bool) (X : Tr) : Tr := (putT m (keyT (lT m X)) (wt X) (lT m (lT m X)) (putT m (keyT X) 0 (rT m (lT m X)) (rT m X)))
def do3 (m : Bool) (X : Tr) : Tr := (putT m (keyT (rT m (lT m X))) (wt X) (putT m (keyT (lT m X)) 0 (lT m (lT m X)) (lT m (rT m (lT m X)))) (putT m (keyT X) 0 (rT m (rT m (lT m X))) (rT m X)))
def do4 (m : Bool) (X : Tr) : Tr := (putT m (keyT X) (wrap64 (wt X + 1)) (lessT (lT m X)) (asT 0 (rT m X)))
def do11 (m : Bool) (X : Tr) : Tr := (putT m (keyT X) (wrap64 (wt X + 1)) (lessT (lT m X)) (lessT (rT m X)))
def do9 (m : Bool) (X : Tr) : Tr := (putT m (keyT (rT m X)) (wt X) (putT m (keyT X) 1 (lessT (lT m X)) (lT m (rT m X))) (asT 1 (rT m (rT m X))))
def do10 (m : Bool) (X : Tr) : Tr := (putT m (keyT (lT m (rT m X))) (wt X) (putT m (keyT X) 1 (lessT (lT m X)) (lT m (lT m (rT m X)))) (putT m (keyT (rT m X)) 1 (rT m (lT m (rT m X))) (rT m (rT m X))))
def do5 (m : Bool) (X : Tr) : Tr := (putT m (keyT (rT m X)) (wt X) (putT m (keyT X) 1 (lessT (lT m X)) (lessT (lT m (rT m X)))) (rT m (rT m X)))
def do6 (m : Bool) (X : Tr) : Tr := (putT m (keyT (rT m X)) (wt X) (putT m (keyT X) 1 (lessT (lT m X)) (asT 0 (lT m (rT m X)))) (rT m (rT m X)))
def do7 (m : Bool) (X : Tr) : Tr := (putT m (keyT (rT m X)) (wt X) (putT m (keyT (lT m (lT m (rT m X)))) 0 (putT m (keyT X) 1 (lessT (lT m X)) (lT m (lT m (lT m (rT m X))))) (putT m (keyT (lT m (rT m X))) 1 (rT m (lT m (lT m (rT m X)))) (rT m (lT m (rT m X))))) (rT m (rT m X)))
def do8 (m : Bool) (X : Tr) : Tr := (putT m (keyT (rT m X)) (wt X) (putT m (keyT (lT m (rT m X))) 0 (putT m (keyT X) 1 (lessT (lT m X)) (lT m (lT m (rT m X)))) (asT 1 (rT m (lT m (rT m X))))) (rT m (rT m X)))
def do12 (X : Tr) : Tr := asT 1 X
def doT (m : Bool) (X : Tr) (kind : Int) : Tr :=
 if kind = 1 then do1 m X else if kind = 2 then do2 m X else if kind = 3 then do3 m X else if kind = 4 then do4 m X else if kind = 5 then do5 m X else if kind = 6 then do6 m X else if kind = 7 then do7 m X else if kind = 8 then do8 m X else if kind = 9 then do9 m X else if kind = 10 then do10 m X else if kind = 11 then do11 m X else do12 X
theorem node_of {T : Tr} (h : T ≠ .nil) : ∃ n q l r, T = .node n q l r := by
 cases T with
 | nil => exact absurd rfl h
 | node n q l r => exact ⟨n, q, l, r, rfl⟩
theorem wt_ne {T : Tr} (h : wt T ≠ -1) : T ≠ .nil := fun e => h (by rw [e]; rfl)
theorem do_any (m rt : Bool) (p pl pr pll plr prl prr pa pb : Option Addr) (T : Tr) (w : World) (hS : ∀ k, w.heap.size ≤ k → S k) (Hx : Aside0 (Rep S w (.pointer p) T)) (Hl : Aside0 (Rep S w (.pointer pl) (lT m T))) (Hr : Aside0 (Rep S w (.pointer pr) (rT m T))) (Hll : Aside0 (Rep S w (.pointer pll) (lT m (lT m T)))) (Hlr : Aside0 (Rep S w (.pointer plr) (rT m (lT m T)))) (Hrl : Aside0 (Rep S w (.pointer prl) (lT m (rT m T)))) (Hrr : Aside0 (Rep S w (.pointer prr) (rT m (rT m T)))) (Ha : Aside0 (Rep S w (.pointer pa) (lT m (lT m (rT m T))))) (Hb : Aside0 (Rep S w (.pointer pb) (rT m (lT m (rT m T))))) (kind : Int) (hk : 1 ≤ kind ∧ kind ≤ 12) (hT : T ≠ .nil) (hc : canT m rt T kind = true) :
  Calls Tryd.prog 26 #[.agg #[.bool m, .pointer p, .pointer pl, .pointer pr, .pointer pll, .pointer plr, .pointer prl, .pointer prr, .pointer pa, .pointer pb, .bool rt], .int .i64 kind] w fun e w' => DoPost S w (doT m T kind) e w' := by
 have hd : kind = 1 ∨ kind = 2 ∨ kind = 3 ∨ kind = 4 ∨ kind = 5 ∨ kind = 6 ∨ kind = 7 ∨ kind = 8 ∨ kind = 9 ∨ kind = 10 ∨ kind = 11 ∨ kind = 12 := by omega
 obtain ⟨nx, qx, lx, rx, ex⟩ := node_of hT
 rcases hd with rfl | rfl | rfl | rfl | rfl | rfl | rfl | rfl | rfl | rfl | rfl | rfl
 ·replace hc : can1 m T = true := hc
  simp only [can1, Bool.and_eq_true, beq_iff_eq, decide_eq_true_eq] at hc
  obtain ⟨nl, ql, ll, rl, el⟩ := node_of (T := (lT m T)) (wt_ne (by omega))
  obtain ⟨nr, qr, lr, rr, er⟩ := node_of (T := (rT m T)) (wt_ne (by omega))
  exact do1_any m rt p pl pr pll plr prl prr pa pb w hS ex el er Hx Hl Hr
 ·replace hc : can2 m T = true := hc
  simp only [can2, Bool.and_eq_true, beq_iff_eq, decide_eq_true_eq] at hc
  obtain ⟨nl, ql, ll, rl, el⟩ := node_of (T := (lT m T)) (wt_ne (by omega))
  exact do2_any m rt p pl pr pll plr prl prr pa pb w hS ex el Hx Hl Hr Hll Hlr
 ·replace hc : can3 m T = true := hc
  simp only [can3, Bool.and_eq_true, beq_iff_eq, decide_eq_true_eq] at hc
  obtain ⟨nl, ql, ll, rl, el⟩ := node_of (T := (lT m T)) (wt_ne (by omega))
  obtain ⟨nlr, qlr, llr, rlr, elr⟩ := node_of (T := (rT m (lT m T))) (wt_ne (by omega))
  exact do3_any m rt p pl pr pll plr prl prr pa pb w hS ex el elr Hx Hl Hr Hll Hlr
 ·replace hc : can4 m T = true := hc
  simp only [can4, Bool.and_eq_true, beq_iff_eq, decide_eq_true_eq] at hc
  obtain ⟨nl, ql, ll, rl, el⟩ := node_of (T := (lT m T)) (wt_ne (by omega))
  obtain ⟨nr, qr, lr, rr, er⟩ := node_of (T := (rT m T)) (wt_ne (by omega))
  exact do4_any m rt p pl pr pll plr prl prr pa pb w hS ex el er Hx Hl Hr
 ·replace hc : can5 m T = true := hc
  simp only [can5, Bool.and_eq_true, beq_iff_eq, decide_eq_true_eq] at hc
  obtain ⟨nl, ql, ll, rl, el⟩ := node_of (T := (lT m T)) (wt_ne (by omega))
  obtain ⟨nr, qr, lr, rr, er⟩ := node_of (T := (rT m T)) (wt_ne (by omega))
  obtain ⟨nrl, qrl, lrl, rrl, erl⟩ := node_of (T := (lT m (rT m T))) (wt_ne (by omega))
  exact do5_any m rt p pl pr pll plr prl prr pa pb w hS ex el er erl Hx Hl Hr Hrl Hrr
 ·replace hc : can6 m T = true := hc
  simp only [can6, Bool.and_eq_true, beq_iff_eq, decide_eq_true_eq] at hc
  obtain ⟨nl, ql, ll, rl, el⟩ := node_of (T := (lT m T)) (wt_ne (by omega))
  obtain ⟨nr, qr, lr, rr, er⟩ := node_of (T := (rT m T)) (wt_ne (by omega))
  obtain ⟨nrl, qrl, lrl, rrl, erl⟩ := node_of (T := (lT m (rT m T))) (wt_ne (by omega))
  exact do6_any m rt p pl pr pll plr prl prr pa pb w hS ex el er erl Hx Hl Hr Hrl Hrr
 ·replace hc : can7 m T = true := hc
  simp only [can7, Bool.and_eq_true, beq_iff_eq, decide_eq_true_eq] at hc
  obtain ⟨nl, ql, ll, rl, el⟩ := node_of (T := (lT m T)) (wt_ne (by omega))
  obtain ⟨nr, qr, lr, rr, er⟩ := node_of (T := (rT m T)) (wt_ne (by omega))
  obtain ⟨nrl, qrl, lrl, rrl, erl⟩ := node_of (T := (lT m (rT m T))) (wt_ne (by omega))
  obtain ⟨na, qa, la, ra, ea⟩ := node_of (T := (lT m (lT m (rT m T)))) (wt_ne (by omega))
  exact do7_any m rt p pl pr pll plr prl prr pa pb w hS ex el er erl ea Hx Hl Hr Hrl Hrr Ha Hb
 ·replace hc : can8 m T = true := hc
  simp only [can8, Bool.and_eq_true, beq_iff_eq, decide_eq_true_eq] at hc
  obtain ⟨nl, ql, ll, rl, el⟩ := node_of (T := (lT m T)) (wt_ne (by omega))
  obtain ⟨nr, qr, lr, rr, er⟩ := node_of (T := (rT m T)) (wt_ne (by omega))
  obtain ⟨nrl, qrl, lrl, rrl, erl⟩ := node_of (T := (lT m (rT m T))) (wt_ne (by omega))
  obtain ⟨nb, qb, lb, rb, eb⟩ := node_of (T := (rT m (lT m (rT m T)))) (wt_ne (by omega))
  exact do8_any m rt p pl pr pll plr prl prr pa pb w hS ex el er erl eb Hx Hl Hr Hrl Hrr Ha Hb
 ·replace hc : can9 m T = true := hc
  simp only [can9, Bool.and_eq_true, beq_iff_eq, decide_eq_true_eq] at hc
  obtain ⟨nl, ql, ll, rl, el⟩ := node_of (T := (lT m T)) (wt_ne (by omega))
  obtain ⟨nr, qr, lr, rr, er⟩ := node_of (T := (rT m T)) (wt_ne (by omega))
  obtain ⟨nrr, qrr, lrr, rrr, err⟩ := node_of (T := (rT m (rT m T))) (wt_ne (by omega))
  exact do9_any m rt p pl pr pll plr prl prr pa pb w hS ex el er err Hx Hl Hr Hrl Hrr
 ·replace hc : can10 m T = true := hc
  simp only [can10, Bool.and_eq_true, beq_iff_eq, decide_eq_true_eq] at hc
  obtain ⟨nl, ql, ll, rl, el⟩ := node_of (T := (lT m T)) (wt_ne (by omega))
  obtain ⟨nr, qr, lr, rr, er⟩ := node_of (T := (rT m T)) (wt_ne (by omega))
  obtain ⟨nrl, qrl, lrl, rrl, erl⟩ := node_of (T := (lT m (rT m T))) (wt_ne (by omega))
  exact do10_any m rt p pl pr pll plr prl prr pa pb w hS ex el er erl Hx Hl Hr Hrl Hrr Ha Hb
 ·replace hc : can11 m T = true := hc
  simp only [can11, Bool.and_eq_true, beq_iff_eq, decide_eq_true_eq] at hc
  obtain ⟨nl, ql, ll, rl, el⟩ := node_of (T := (lT m T)) (wt_ne (by omega))
  obtain ⟨nr, qr, lr, rr, er⟩ := node_of (T := (rT m T)) (wt_ne (by omega))
  exact do11_any m rt p pl pr pll plr prl prr pa pb w hS ex el er Hx Hl Hr
 ·exact do12_any m rt p pl pr pll plr prl prr pa pb w hS ex Hx
end
def mkT (t : List S34) : Nat → Nat → Option Tr
 | 0, _ => none
 | k + 1, i => if i < t.length then (if 0 ≤ (t.getD i z34).f4 then (mkT t k (t.getD i z34).f4.toNat).bind fun l => (mkT t k (t.getD i z34).f5.toNat).bind fun r => some (.node (t.getD i z34) i l r) else some (.node (t.getD i z34) i .nil .nil)) else none
def mkR (t : List S34) (c : Nat) (R : Tr) : Nat → Nat → Option Tr
 | 0, _ => none
 | k + 1, i => if i < t.length then (if 0 ≤ (t.getD i z34).f4 then (if (t.getD i z34).f4.toNat = c then some R else mkR t c R k (t.getD i z34).f4.toNat).bind fun l => (if (t.getD i z34).f5.toNat = c then some R else mkR t c R k (t.getD i z34).f5.toNat).bind fun r => some (.node (t.getD i z34) i l r) else some (.node (t.getD i z34) i .nil .nil)) else none
theorem mkT_mono (t : List S34) : ∀ (k i : Nat) (T : Tr), mkT t k i = some T → mkT t (k + 1) i = some T := by
 intro k
 induction k with
 | zero => intro i T h; simp [mkT] at h
 | succ k ih =>
  intro i T h
  rw [mkT] at h ⊢
  split at h
  ·rename_i h1
   rw [if_pos h1]
   split at h
   ·rename_i h2
    rw [if_pos h2]
    obtain ⟨l, hl, h⟩ := Option.bind_eq_some_iff.1 h
    obtain ⟨r, hr, h⟩ := Option.bind_eq_some_iff.1 h
    rw [ih _ _ hl, Option.bind_some, ih _ _ hr, Option.bind_some]
    exact h
   ·rename_i h2
    rw [if_neg h2]
    exact h
  ·exact absurd h (by simp)
theorem mkT_le (t : List S34) {k k' i : Nat} {T : Tr} (hk : k ≤ k') (h : mkT t k i = some T) : mkT t k' i = some T := by
 induction hk with
 | refl => exact h
 | step _ ih => exact mkT_mono t _ _ _ ih
theorem mkT_fun (t : List S34) {k k' i : Nat} {T T' : Tr} (h : mkT t k i = some T) (h' : mkT t k' i = some T') : T = T' := by
 rcases Nat.le_total k k' with hk | hk
 ·have := mkT_le t hk h; rw [this] at h'; exact Option.some.inj h'
 ·have := mkT_le t hk h'; rw [this] at h; exact (Option.some.inj h).symm
def sizeN : Tr → Nat
 | .nil => 0
 | .node _ _ l r => 1 + sizeN l + sizeN r
def childOf (t : List S34) (i c : Nat) : Prop := 0 ≤ (t.getD i z34).f4 ∧ ((t.getD i z34).f4.toNat = c ∨ (t.getD i z34).f5.toNat = c)
def SetC (B : Nat) (t : List S34) (c : Nat) (b : Nat) : Prop := ∃ j, b = B + 2 + 2 * j ∧ j < t.length ∧ ¬ childOf t j c
theorem forest_rep {wg W : World} {t : List S34} (hf : Forest wg W t t.length t.length) {c K : Nat} {X : Tr} (hX : mkT t K c = some X) :
  ∀ (k i : Nat) (T : Tr), mkT t k i = some T → sizeN T ≤ sizeN X → Rep (SetC wg.heap.size t c) W (.pointer (nb wg.heap.size i)) T := by
 intro k
 induction k with
 | zero => intro i T h; simp [mkT] at h
 | succ k ih =>
  intro i T h hs
  have h0 := h
  rw [mkT] at h
  split at h
  ·rename_i h1
   have hn := hf.nodes i h1
   simp only [if_pos h1] at hn
   split at h
   ·rename_i h2
    obtain ⟨l, hl, h⟩ := Option.bind_eq_some_iff.1 h
    obtain ⟨r, hr, h⟩ := Option.bind_eq_some_iff.1 h
    obtain rfl := Option.some.inj h
    simp only [sizeN] at hs
    refine ⟨_, _, _, rfl, hn, ?_, ?_, i, rfl, h1, ?_⟩
    ·rw [lpV, if_pos h2]; exact ih _ _ hl (by omega)
    ·rw [rpV, if_pos h2]; exact ih _ _ hr (by omega)
    ·rintro ⟨_, hc | hc⟩
     ·rw [hc] at hl; have := mkT_fun t hl hX; subst this; omega
     ·rw [hc] at hr; have := mkT_fun t hr hX; subst this; omega
   ·rename_i h2
    obtain rfl := Option.some.inj h
    refine ⟨_, _, _, rfl, hn, ?_, ?_, i, rfl, h1, fun hc => h2 hc.1⟩
    ·rw [lpV, if_neg h2]; rfl
    ·rw [rpV, if_neg h2]; rfl
  ·exact absurd h (by simp)
structure Forest2 (w W : World) (t : List S34) (c : Nat) (q : Option Addr) (n2 : Nat) : Prop where
 ptrs : W.rowIs w.heap.size 60 t.length (fun j => .pointer (nb w.heap.size j))
 nodes : ∀ j, j < t.length → W.heap[w.heap.size + 2 + 2 * j]? = some (.cells (ndCells (t.getD j z34) j (.pointer (if j < n2 ∧ 0 ≤ (t.getD j z34).f4 ∧ (t.getD j z34).f4.toNat = c then q else lpV w.heap.size t j)) (.pointer (if j < n2 ∧ 0 ≤ (t.getD j z34).f4 ∧ (t.getD j z34).f5.toNat = c then q else rpV w.heap.size t j))) 66 (0, 0))
 bel : Below w.heap.size w W
theorem forest2_start {w W : World} {t : List S34} (h : Forest w W t t.length t.length) (c : Nat) (q : Option Addr) : Forest2 w W t c q 0 :=
 ⟨rowIs_congr h.ptrs (fun j hj => by simp only [if_pos hj]), fun j hj => by
  have := h.nodes j hj
  simp only [if_pos hj] at this
  rw [this, if_neg (fun h => Nat.not_lt_zero _ h.1), if_neg (fun h => Nat.not_lt_zero _ h.1)], h.bel⟩
theorem rep_repl {w W : World} {t : List S34} {c : Nat} {q : Option Addr} {R : Tr} {S : Nat → Prop} (hf : Forest2 w W t c q t.length) (hR : Rep S W (.pointer q) R) :
  ∀ (k i : Nat) (T : Tr), mkR t c R k i = some T → Rep (fun _ => True) W (.pointer (nb w.heap.size i)) T := by
 intro k
 induction k with
 | zero => intro i T h; simp [mkR] at h
 | succ k ih =>
  intro i T h
  rw [mkR] at h
  split at h
  ·rename_i h1
   have hn := hf.nodes i h1
   split at h
   ·rename_i h2
    obtain ⟨l, hl, h⟩ := Option.bind_eq_some_iff.1 h
    obtain ⟨r, hr, h⟩ := Option.bind_eq_some_iff.1 h
    obtain rfl := Option.some.inj h
    refine ⟨_, _, _, rfl, hn, ?_, ?_, trivial⟩
    ·by_cases e : (t.getD i z34).f4.toNat = c
     ·rw [if_pos e] at hl; obtain rfl := Option.some.inj hl
      rw [if_pos ⟨h1, h2, e⟩]; exact hR.mono (fun _ _ => trivial)
     ·rw [if_neg e] at hl
      rw [if_neg (fun h => e h.2.2), lpV, if_pos h2]; exact ih _ _ hl
    ·by_cases e : (t.getD i z34).f5.toNat = c
     ·rw [if_pos e] at hr; obtain rfl := Option.some.inj hr
      rw [if_pos ⟨h1, h2, e⟩]; exact hR.mono (fun _ _ => trivial)
     ·rw [if_neg e] at hr
      rw [if_neg (fun h => e h.2.2), rpV, if_pos h2]; exact ih _ _ hr
   ·rename_i h2
    obtain rfl := Option.some.inj h
    refine ⟨_, _, _, rfl, hn, ?_, ?_, trivial⟩
    ·rw [if_neg (fun h => h2 h.2.1), lpV, if_neg h2]; rfl
    ·rw [if_neg (fun h => h2 h.2.1), rpV, if_neg h2]; rfl
  ·exact absurd h (by simp)
theorem forest2_skip {w W : World} {t : List S34} {c : Nat} {q : Option Addr} {i : Nat} (h : Forest2 w W t c q i) (hc : ¬ childOf t i c) : Forest2 w W t c q (i + 1) := by
 refine ⟨h.ptrs, fun j hj => ?_, h.bel⟩
 rw [h.nodes j hj]
 by_cases e : j = i
 ·subst e
  have e1 : ¬ (0 ≤ (t.getD j z34).f4 ∧ (t.getD j z34).f4.toNat = c) := fun h => hc ⟨h.1, .inl h.2⟩
  have e2 : ¬ (0 ≤ (t.getD j z34).f4 ∧ (t.getD j z34).f5.toNat = c) := fun h => hc ⟨h.1, .inr h.2⟩
  simp only [e1, e2, and_false, if_false]
 ·have e3 : j < i + 1 ↔ j < i := by omega
  simp only [e3]
theorem forest2_left {w W : World} {t : List S34} {c : Nat} {q : Option Addr} {i : Nat} (h : Forest2 w W t c q i) (h4 : 0 ≤ (t.getD i z34).f4) (hl : (t.getD i z34).f4.toNat = c) (hr : (t.getD i z34).f5.toNat ≠ c) : Forest2 w (W.setCell ⟨w.heap.size + 2 + 2 * i, 7, none⟩ (.pointer q)) t c q (i + 1) := by
 refine ⟨rowIs_blk h.ptrs (Below.heap_setCell _ _ _ _ (by show _ ≠ _; simp; omega)), fun j hj => ?_, h.bel.setCell (p := ⟨w.heap.size + 2 + 2 * i, 7, none⟩) (by simp; omega) _⟩
 have hn := h.nodes j hj
 by_cases e : j = i
 ·subst e
  rw [put_blk hn 7 _]
  simp only [Nat.lt_irrefl, false_and, if_false, if_pos (show j < j + 1 ∧ 0 ≤ (t.getD j z34).f4 ∧ (t.getD j z34).f4.toNat = c from ⟨by omega, h4, hl⟩), if_neg (show ¬ (j < j + 1 ∧ 0 ≤ (t.getD j z34).f4 ∧ (t.getD j z34).f5.toNat = c) from fun h => hr h.2.2)]
  rfl
 ·rw [Below.heap_setCell _ _ _ _ (by show _ ≠ _; simp; omega), hn]
  have e3 : j < i + 1 ↔ j < i := by omega
  simp only [e3]
theorem forest2_right {w W : World} {t : List S34} {c : Nat} {q : Option Addr} {i : Nat} (h : Forest2 w W t c q i) (h4 : 0 ≤ (t.getD i z34).f4) (hl : (t.getD i z34).f4.toNat ≠ c) (hr : (t.getD i z34).f5.toNat = c) : Forest2 w (W.setCell ⟨w.heap.size + 2 + 2 * i, 8, none⟩ (.pointer q)) t c q (i + 1) := by
 refine ⟨rowIs_blk h.ptrs (Below.heap_setCell _ _ _ _ (by show _ ≠ _; simp; omega)), fun j hj => ?_, h.bel.setCell (p := ⟨w.heap.size + 2 + 2 * i, 8, none⟩) (by simp; omega) _⟩
 have hn := h.nodes j hj
 by_cases e : j = i
 ·subst e
  rw [put_blk hn 8 _]
  simp only [Nat.lt_irrefl, false_and, if_false, if_neg (show ¬ (j < j + 1 ∧ 0 ≤ (t.getD j z34).f4 ∧ (t.getD j z34).f4.toNat = c) from fun h => hl h.2.2), if_pos (show j < j + 1 ∧ 0 ≤ (t.getD j z34).f4 ∧ (t.getD j z34).f5.toNat = c from ⟨by omega, h4, hr⟩)]
  rfl
 ·rw [Below.heap_setCell _ _ _ _ (by show _ ≠ _; simp; omega), hn]
  have e3 : j < i + 1 ↔ j < i := by omega
  simp only [e3]
theorem forest_kept {w W W' : World} {t : List S34} {n1 n2 : Nat} (h : Forest w W t n1 n2) (hb : Below W.heap.size W W') : Forest w W' t n1 n2 :=
 ⟨rowIs_blk h.ptrs (hb.block _ (rowIs_lt h.ptrs)), fun j hj => (hb.block _ (Array.getElem?_eq_some_iff.1 (h.nodes j hj)).1).trans (h.nodes j hj), h.bel.trans (hb.mono h.bel.size)⟩
def setW : Tr → Int → Tr
 | .nil, _ => .nil
 | .node n p l r, x => .node ⟨n.f0, n.f1, x, n.f3, n.f4, n.f5⟩ p l r
theorem top_set {S : Nat → Prop} {W w' : World} {v : Value} {R : Tr} (h : TopRep S W w' v R) (hb : Below W.heap.size W w') (x : Int) :
  ∃ b, v = .pointer (some ⟨b, 0, none⟩) ∧ W.heap.size ≤ b ∧ (∃ u, w'.cell? ⟨b, 2, none⟩ = some u) ∧ w'.frozen? ⟨b, 2, none⟩ = false ∧ Rep S (w'.setCell ⟨b, 2, none⟩ (.int .i64 x)) v (setW R x) := by
 obtain ⟨b, n, pl, L, R', vl, vr, rfl, rfl, hge, h1, h2, h3, h4⟩ := h
 refine ⟨b, rfl, hge, ⟨_, (cell_of h1 2).trans rfl⟩, frz_of h1 2, b, vl, vr, rfl, put_blk h1 2 _, ?_, ?_, h4⟩
 ·exact ((h2.bound.below hb).keptS (fun k hk _ => Below.heap_setCell _ _ _ _ (by show k ≠ b; have := hk.2; omega))).mono (fun k hk => hk.1)
 ·exact ((h3.bound.below hb).keptS (fun k hk _ => Below.heap_setCell _ _ _ _ (by show k ≠ b; have := hk.2; omega))).mono (fun k hk => hk.1)
structure OkT (t : List S34) : Prop where
 len : t.length ≤ 100000
 kids : ∀ i, i < t.length → 0 ≤ (t.getD i z34).f4 → (t.getD i z34).f4 < t.length ∧ 0 ≤ (t.getD i z34).f5 ∧ (t.getD i z34).f5 < t.length ∧ (t.getD i z34).f4 ≠ (t.getD i z34).f5
def DoOK (w : World) (xs : List S34) (e : Ending) (w' : World) : Prop := ∃ v0, e = .returned (.tuple #[v0, .int .i64 0]) ∧ Kd.R k34 50 w' w.heap.size (fun _ => True) v0 xs ∧ Below w.heap.size w w'
theorem do_ok_fin (w : World) (T : Tr) : ∀ wg wr v0 w', Below w.heap.size w wg → Below wg.heap.size wg wr → FlatPost wr T (.returned v0) w' → DoOK w (flatT T 0) (.returned (.tuple #[v0, .int .i64 0])) w' := by
 rintro wg wr v0 w' h1 h2 ⟨v1, hv, h3, h4⟩
 injection hv with hv
 subst hv
 have h5 : Below w.heap.size w wr := h1.trans (h2.mono h1.size)
 exact ⟨_, rfl, Kd.R_lower h3 h5.size, h5.trans (h4.mono h5.size)⟩
theorem setc11 {w : World} {g k : Nat} (h : k ≠ g) (v0 v1 v2 v3 v4 v5 v6 v7 v8 v9 v10 : Value) : ((((((((((((w.setCell ⟨g, 0, none⟩ v0).setCell ⟨g, 1, none⟩ v1).setCell ⟨g, 2, none⟩ v2).setCell ⟨g, 3, none⟩ v3).setCell ⟨g, 4, none⟩ v4).setCell ⟨g, 5, none⟩ v5).setCell ⟨g, 6, none⟩ v6).setCell ⟨g, 7, none⟩ v7).setCell ⟨g, 8, none⟩ v8).setCell ⟨g, 9, none⟩ v9).setCell ⟨g, 10, none⟩ v10)).heap[k]? = w.heap[k]? := by
 rw [put_blk_ne h, put_blk_ne h, put_blk_ne h, put_blk_ne h, put_blk_ne h, put_blk_ne h, put_blk_ne h, put_blk_ne h, put_blk_ne h, put_blk_ne h, put_blk_ne h]
theorem size116 : (Tryd.prog.info? 66).map (fun i => i.size) = some 9 := by kernel_rfl
theorem eqp_same (w : World) (a : Addr) : (binOp .eql 60 (.pointer (some a)) (.pointer (some a))).run Tryd.prog w = .ok (.bool true) w := by
 obtain ⟨i, hi, _⟩ := Option.map_eq_some_iff.1 size116
 exact run_eql_ptr_same w a Tryd.underlying60 hi
theorem eqp_other (w : World) {a b : Addr} {ca cb : Array Value} {ta tb : TypeId} (hne : a ≠ b) (ha : w.heap[a.block]? = some (.cells ca ta (0, 0))) (hb : w.heap[b.block]? = some (.cells cb tb (0, 0))) : (binOp .eql 60 (.pointer (some a)) (.pointer (some b))).run Tryd.prog w = .ok (.bool false) w := by
 obtain ⟨i, hi, hs⟩ := Option.map_eq_some_iff.1 size116
 exact run_eql_ptr_other w Tryd.underlying60 hi (by rw [hs]; decide) hne ha hb
theorem mkT_nil {t : List S34} {k i : Nat} (h : mkT t k i = some .nil) : False := by
 cases k with
 | zero => simp [mkT] at h
 | succ k =>
  rw [mkT] at h
  split at h
  ·split at h
   ·obtain ⟨l, hl, h⟩ := Option.bind_eq_some_iff.1 h
    obtain ⟨r, hr, h⟩ := Option.bind_eq_some_iff.1 h
    injection h with h
    injection h
   ·injection h with h
    injection h
  ·exact absurd h (by simp)
end Go.Proofs.YtgleaefhflamnaaDoor.T
