/- A part of the proof: see YtaabbaemfnecgaaGreatLawSeqNexts. -/
import Derived.MapKept
import Derived.Test.YtaabbaemfnecgaaGreatC1
set_option linter.unusedVariables false
set_option linter.unusedSimpArgs false
set_option maxHeartbeats 32000000
set_option maxRecDepth 100000
namespace Go.Proofs.YtaabbaemfnecgaaGreatW.PrintWords
open Go.RowKit
namespace Kd
section
variable {P : Program} {α : Type} {ops : Array Oper} {rest : List Oper} {o : Oper} {a : Act} {Q : Exit → Act → World → Prop}
theorem R_makecap (d : Kd α) {w0 W : World} (base e : Nat) (hgd : o.guard = none) {N : Tmp} (_hd : o.dst = some N) (t : TypeId) (x y : Operand) (ho : o.op = .makeSlice t x y) (n : Int) (hx : a.eval x = .int .i64 0) (hy : a.eval y = .int .i64 n)
  (ht : P.underlying t = some (.slice e)) (z : Value) (bytes : Nat) (hinfo : (P.info? e).map (fun i => (i.zero, i.size, i.bytes)) = some (some z, d.sz, bytes)) (hz : z.cells.size = d.sz) (hs0 : 0 < d.sz) (hb0 : 0 < bytes)
  (z0 : α) {ok okp : Nat → Prop} (_hzero : d.M W base okp z0 z.cells.toList) (_hok : ∀ k, okp k → ok k) (hfresh : ok W.heap.size) (h0 : 0 ≤ n) (hl : n.toNat * bytes ≤ 281474976710656) (HB : Below base w0 W) (hbase : base ≤ W.heap.size)
  (h : ∀ v1 w1, d.R e w1 base ok v1 [] → Below base w0 w1 → W.grownBy w1 none → (∃ b, v1.ownBlock = some b ∧ W.heap.size ≤ b) → wpList P ops Q rest (a.put o.dst v1) w1) : wpList P ops Q (o :: rest) a W := by
 obtain ⟨m, rfl⟩ := Int.eq_ofNat_of_zero_le h0
 simp only [Int.toNat_natCast] at hl
 obtain ⟨i0, hi, hzz⟩ := Option.map_eq_some_iff.1 hinfo
 simp only [Prod.mk.injEq] at hzz
 obtain ⟨hz0, hz1, hz2⟩ := hzz
 have hm : m ≤ 281474976710656 := Nat.le_trans (Nat.le_mul_of_pos_right _ hb0) hl
 have hr := run_make (P := P) W t e i0 z ht hi hz0 .i64 .i64 (0 : Int) (m : Int) (by omega) (by omega)
  (by
   have h3 : ((i0.bytes * m : Nat) : Int) ≤ 281474976710656 := by rw [hz2, Nat.mul_comm]; omega
   rwa [Int.natCast_mul] at h3) (by omega)
 simp only [Int.toNat_natCast] at hr
 have hrun : (execOp a.eval o).run P W = .ok (.value (.slice (some ⟨W.heap.size, 0, none⟩) 0 m)) (W.alloc (.cells (madeCells z.cells (m * i0.size)) e)) := by
  simp [execOp, ho, hx, hy, hr]
 refine event_run hgd hrun (h _ _ ⟨fun k hk => ?_, [], ?_, ?_⟩ (HB.alloc hbase _) (World.grownBy_alloc W _ none) ⟨W.heap.size, by simp [Value.ownBlock], Nat.le_refl _⟩)
 ·have : W.heap.size = k := by simpa [Value.ownBlock] using hk
  subst this
  exact hfresh
 ·refine ⟨by simp, .inr ⟨W.heap.size, m, madeCells z.cells (m * i0.size), rfl, hbase, heap_alloc_new W _, Nat.zero_le _, by simp only [maxLen]; omega, ?_, by simp⟩⟩
  rw [size_madeCells, hz1]
 ·exact ⟨by simp, fun j p hj => by simp at hj⟩
end
end Kd
end Go.Proofs.YtaabbaemfnecgaaGreatW.PrintWords
namespace Go.Proofs.YtaabbaemfnecgaaGreat.T
open Go.RowKit Go.Proofs.YtaabbaemfnecgaaGreatW.PrintWords Go.Proofs.YtaabbaemfnecgaaGreatW.PrintLast Go.Proofs.YtaabbaemfnecgaaGreatW.PrintMore
section
attribute [local go_sem] max2_int min2_int max_two min_two max_three min_three max_four min_four
def weigh_keys.l0 : Nat → List (S69) → List Int → List Int → List Int → Option (List Int × List Int × Int)
 | 0, _, _, _, _ => none
 | k + 1, x0, x7, x9, x10 => if (x10.length : Int) > 0 then (if 0 ≤ (wrap64 ((x10.length : Int) - 1)) then (if (wrap64 ((x10.length : Int) - 1)) < (x10.length : Int) then (if (wrap64 ((x10.length : Int) - 1)) ≤ (x10.length : Int) then ((some (x10.take ((wrap64 ((x10.length : Int) - 1)) : Int).toNat : List Int)).bind fun y173 => (if x9.length < 17592186044416 then ((some (x9 ++ [rd x10 (wrap64 ((x10.length : Int) - 1))] : List Int)).bind fun y176 => (if 0 ≤ (rd x10 (wrap64 ((x10.length : Int) - 1))) then (if (rd x10 (wrap64 ((x10.length : Int) - 1))) < (x0.length : Int) then (if ((rd_T69 x0 (rd x10 (wrap64 ((x10.length : Int) - 1)))).f4) ≥ 0 then ((some (([(rd_T69 x0 (rd x10 (wrap64 ((x10.length : Int) - 1)))).f5, (rd_T69 x0 (rd x10 (wrap64 ((x10.length : Int) - 1)))).f4] : List Int) : List Int)).bind fun y182 => (if y173.length + y182.length < 17592186044416 then (weigh_keys.l0 k x0 x7 y176 (y173 ++ y182)) else (none))) else (weigh_keys.l0 k x0 x7 y176 y173)) else (none)) else (none))) else (none))) else (none)) else (none)) else (none)) else (some (x9, x7, 0))
def weigh_keys.f (k : Nat) (l0 : List (S69)) : Option (List Int × List Int × Int) := (table_Root.f k l0).bind fun bt163 => (if bt163.2 = 4 then (some (([] : List Int), ([] : List Int), 0)) else (if bt163.2 = 0 then ((table_Parents.f k l0).bind fun bt165 => (weigh_keys.l0 k l0 bt165.1 ([] : List Int) (([bt163.1] : List Int)))) else (some (([] : List Int), ([] : List Int), bt163.2))))
theorem weigh_keys.mono_l : ∀ k, (∀ y0 y1 y2 y3, LeO (weigh_keys.l0 k y0 y1 y2 y3) (weigh_keys.l0 (k + 1) y0 y1 y2 y3))
 | 0 => fun _ _ _ _ r h => by simp [weigh_keys.l0] at h
 | k + 1 => by
  have ih0 := weigh_keys.mono_l k
  ·intro y0 y1 y2 y3
   unfold weigh_keys.l0
   repeat' with_reducible first | exact ih0 _ _ _ _ | exact table_Parents.mono _ _ | exact table_Root.mono _ _ | exact LeO.refl _ | exact LeO.none _ | refine LeO.ite ?_ ?_ | refine LeO.bind ?_ (fun _ => ?_)
theorem weigh_keys.mono : ∀ a0 k, LeO (weigh_keys.f k a0) (weigh_keys.f (k + 1) a0) := by
 intro a0 k
 have ih0 := weigh_keys.mono_l k
 unfold weigh_keys.f
 repeat' with_reducible first | exact ih0 _ _ _ _ | exact table_Parents.mono _ _ | exact table_Root.mono _ _ | exact LeO.refl _ | exact LeO.none _ | refine LeO.ite ?_ ?_ | refine LeO.bind ?_ (fun _ => ?_)
def weigh_keys.T14 : Bool × List (List Nat × List Nat) := (true, [([], []), ([], []), ([], []), ([1, 2], [1, 2]), ([3], [3]), ([4], [4]), ([], []), ([], []), ([6, 7], [6, 7]), ([8], [8]), ([9], [9]), ([5, 10], [5, 10]), ([0, 11], [0, 11]), ([12, 12, 0, 1, 2, 3, 4, 5, 6, 7, 8, 9, 10, 11, 12], [0, 12])])
def weigh_keys.B14 : List Nat := [0, 0, 0, 6, 14, 30, 0, 0, 192, 448, 960, 2046, 4095, 8191]
theorem weigh_keys.tab14 : rtab .any (opsOf Tryz.f82 14) = weigh_keys.T14 := by kernel_rfl
theorem weigh_keys.bits14 : waitsOk weigh_keys.T14.2 weigh_keys.B14 = true := by kernel_rfl
theorem weigh_keys.calls (k : Nat) (A0 : Option Addr) (c0 : Nat) (l0 : List (S69)) (r1 : List Int) (r2 : List Int) (r3 : Int) (w : World) (hr0 : Kd.C k69 w A0 l0.length l0) (hc0 : l0.length ≤ c0) (h : weigh_keys.f k l0 = some (r1, r2, r3)) :
  Calls Tryz.prog 82 #[.slice A0 l0.length c0] w fun e w' => ∃ v0_ v1_ : Value, e = .returned (.tuple #[v0_, v1_, .int .i64 r3]) ∧ Kd.R (Kd.int .i64) 3 w' w.heap.size (fun k_ => some k_ ≠ (v1_ : Value).ownBlock) v0_ r1 ∧ Kd.R (Kd.int .i64) 3 w' w.heap.size (fun k_ => some k_ ≠ (v0_ : Value).ownBlock) v1_ r2 ∧ Below w.heap.size w w' := by
 have HR0 := Am hr0
 have HC0 := Am hc0
 clear hr0 hc0
 have HB := Br w
 have H := h
 unfold weigh_keys.f at H
 clear h
 obtain ⟨⟨t163, t164⟩, A2, H⟩ := bo H
 dsimp only at H
 by_cases c3 : t164 = 4
 ·rw [if_pos c3] at H
  obtain ⟨c3b0, c3b1⟩ := eq2 c3
  clear c3
  exact dd18
 ·rw [if_neg c3] at H
  obtain ⟨c3b0, c3b1⟩ := ne2 c3
  by_cases c5 : t164 = 0
  ·rw [if_pos c5] at H
   obtain ⟨c5b0, c5b1⟩ := eq2 c5
   clear c5
   obtain ⟨⟨t165, t166⟩, A6, H⟩ := bo H
   dsimp only at H
   obtain ⟨y169, hy169⟩ : ∃ y_ : List Int, y_ = (([t163] : List Int)) := ⟨_, rfl⟩
   rw [← hy169] at H
   have Ny169 := Am hy169
   clear hy169
   have H' := Am H
   clear H
   go_enter Tryz.func82, Tryz.ntmps82
   go_wp2_with (first | ((with_reducible refine Gc 142 rfl ?_); refine gL 14 Tryz.func142 #[.slice A0 l0.length c0] ?_; (with_reducible refine (table_Root.calls k _ _ l0 t163 t164 _ (kc HR0.out) HC0.out A2.out).mono ?_); rintro e w7 ⟨rfl, hb⟩; refine ⟨_, rfl, ?_⟩; replace HB := Am (below_step bq hb); (try clear hb)) | ((with_reducible refine Gc 114 rfl ?_); refine gL 24 Tryz.func114 #[.slice A0 l0.length c0] ?_; (with_reducible refine (table_Parents.calls k _ _ l0 t165 t166 _ (kc (Kd.C_below HR0.out HB.out)) HC0.out A6.out).mono ?_); rintro e w8 ⟨v167, rfl, ho0, hb⟩; refine ⟨_, rfl, ?_⟩; replace HO168 := Am (Kd.R_lower ho0 (below_size bq)); replace HB := Am (below_step bq hb); (try clear hb); (try clear hb2); (try clear hk); (try clear hi); (try clear ho0)) | ((with_reducible refine Gd 28 rfl ?_); refine Kd.R_lit (Kd.int .i64) _ 3 ?hg (N := 28) ?hd (xs := ([t163] : List Int)) (inner := [.int .i64 t163]) (ok := fun _ => True) (okp := fun _ => True) ?hr ?hp (fun _ hk => hk) trivial (Below.refl _ _) (Nat.le_refl _) (by simp) ?_; (case hd => rfl); (case hg => rfl); (case hr => first | (go_simp; done) | (go_simp; rfl)); (case hp => exact (Reps.one (show Kd.M (Kd.int .i64) _ _ _ t163 [.int .i64 t163] from rfl) (Reps.none _ _))); intro v170 w9 ho10 hb hg_ hnew_; clear hg_ hnew_; (first | rw [← Ny169.out] at ho10 | (simp only [Int.reduceToNat] at ho10; rw [← Ny169.out] at ho10)); have HO171 := Am (Kd.R_lower (Kd.R_new' ho10 (Kd.R_lt (kr HO168.out))) (below_size bq)); replace HO168 := Am (Kd.R_elder' (kr HO168.out) (Kd.R_base ho10) hb); replace HB := Am (below_step bq hb); clear hb ho10))
   go_loopg [9, 10] k (fun kq v9 v10 w' => ∃ (x9_1 : List Int) (x10_1 : List Int), Aside0 (weigh_keys.l0 kq l0 t165 x9_1 x10_1 = some (r1, r2, r3)) ∧ Aside0 (kq ≤ k) ∧ Aside0 (Kd.R (Kd.int .i64) 3 w' w.heap.size (fun k_ => some k_ ≠ (v9 : Value).ownBlock ∧ some k_ ≠ (v10 : Value).ownBlock) v167 t165) ∧ Aside0 (Kd.R (Kd.int .i64) 3 w' w.heap.size (fun k_ => some k_ ≠ (v167 : Value).ownBlock ∧ some k_ ≠ (v10 : Value).ownBlock) v9 x9_1) ∧ Aside0 (Kd.R (Kd.int .i64) 3 w' w.heap.size (fun k_ => some k_ ≠ (v167 : Value).ownBlock ∧ some k_ ≠ (v9 : Value).ownBlock) v10 x10_1) ∧ Aside0 (Below w.heap.size w w'))
   case atStart => exact ⟨(([] : List Int)), (y169), H', ⟨Nat.le_refl _⟩, ⟨by (with_reducible repeat (first | apply Kd.R_alloc | apply Kd.R_drewN | apply Kd.R_drew)); exact Kd.R_mono HO168.out (fun _ hk => ⟨(by simp [Value.ownBlock]), hk.2⟩)⟩, ⟨by first | exact Kd.R_nil _ _ _ _ _ | exact Kd.N_nil _ _ _ _ _ | exact Kd.V_nil _ _ _ _ _ | exact Kd.Q_nil _ _ _ _ _ | exact Kd.S_nil _ _ _ _ _⟩, ⟨by (with_reducible repeat (first | apply Kd.R_alloc | apply Kd.R_drewN | apply Kd.R_drew)); exact Kd.R_mono HO171.out (fun _ hk => ⟨hk.2, (by simp [Value.ownBlock])⟩)⟩, ⟨bq⟩⟩
   case round =>
    clear H'
    clear c3 c3b0 c3b1 c5b0 c5b1
    obtain ⟨x9_1, x10_1, HA, HK1, HO_7, HO_9, HO_10, HB⟩ := hrel
    cases gk with
    | zero => exact absurd HA.out (by simp [weigh_keys.l0])
    | succ k1 =>
     have H := HA.out
     clear HA
     simp only [weigh_keys.l0] at H
     by_cases c11 : (x10_1.length : Int) > 0
     ·rw [if_pos c11] at H
      have c11b0 : decide (0 < (x10_1.length : Int)) = true := decide_eq_true c11
      have c11b1 : decide (0 < x10_1.length) = true := decide_eq_true (by omega)
      clear c11
      obtain ⟨ji12, hji12⟩ : ∃ j_ : Int, (wrap64 ((x10_1.length : Int) - 1)) = j_ := ⟨_, rfl⟩
      first | rw [hji12] at H | simp only [hji12] at H
      have hji12w : (IntKind.i64.wrap ((x10_1.length : Int) - 1)) = ji12 := (i64_w _).trans hji12
      obtain ⟨c13b0, H⟩ := ge H
      obtain ⟨c14b0, H⟩ := ge H
      obtain ⟨c15, H⟩ := gd H
      have c15b0 := eq_true c15
      have c15b1 := decide_eq_true c15
      clear c15
      obtain ⟨y173, Ny173, H⟩ := gb H
      obtain ⟨c16, H⟩ := gd H
      have LMc16 := Am c16
      clear c16
      obtain ⟨y176, Ny176, H⟩ := gb H
      obtain ⟨c17b0, H⟩ := ge H
      obtain ⟨c18b0, H⟩ := ge H
      by_cases c19 : ((rd_T69 l0 (rd x10_1 (ji12))).f4) ≥ 0
      ·rw [if_pos c19] at H
       have c19b0 : decide (0 ≤ ((rd_T69 l0 (rd x10_1 (ji12))).f4)) = true := decide_eq_true c19
       clear c19
       obtain ⟨y182, Ny182, H⟩ := gb H
       obtain ⟨c20, H⟩ := gd H
       have LMc20 := Am c20
       clear c20
       obtain ⟨y185, hy185⟩ : ∃ y_ : List Int, y_ = (y173 ++ y182) := ⟨_, rfl⟩
       rw [← hy185] at H
       have Ny185 := Am hy185
       clear hy185
       have H' := Am H
       clear H
       obtain ⟨Ao21, co21, eo21⟩ := Kd.R_slice HO_10.out
       subst eo21
       have p172 : 0 ≤ ((ji12) : Int) := da
       have q172 : (ji12) < (x10_1.length : Int) := da
       obtain ⟨ad172, e172, hx172_0⟩ := Kd.at_int (Kd.R_reads' HO_10.out).2.2 (ji12) p172 q172
       cases e172
       replace p172 := eq_true p172
       replace q172 := eq_true q172
       have q22 : ((ji12) : Int) ≤ ((x10_1.length : Int) : Int) := da
       obtain ⟨i022, hi022, _, hsz22, _⟩ := info_parts info3
       have hcut22 := cut_to (P := Tryz.prog) 60 3 .i64 Tryz.underlying60 hi022 (some ad172) x10_1.length co21 (ji12) (da) q22 (Kd.R_reads' HO_10.out).2.1
       have hr22 := Kd.R_take (m := ((ji12) : Int).toNat) HO_10.out (by omega)
       have hy22 : y173.length = ((ji12) : Int).toNat := (by rw [Ny173.out, List.length_take]; omega)
       rw [← Ny173.out] at hr22
       rw [← hy22] at hr22 hcut22
       clear hy22 hi022 hsz22 HO_10
       have HO175 := Am hr22
       clear hr22
       replace q22 := eq_true q22
       try go_wp2_with (first | ((with_reducible refine gate_builtin (b := .append) (xs := #[.tmp 43, .tmp 45]) rfl ?_); at_builtin; refine Kd.R_append (Kd.int .i64) (w0 := w) w.heap.size rfl (.tmp 43) (.tmp 45) 60 3 (.int .i64 0) 8 rfl Tryz.underlying60 info3 rfl (by decide) (by omega) u9 x9_1 (rd x10_1 (ji12)) [.int .i64 (rd x10_1 (ji12))] (fun k_ => some k_ ≠ (v167 : Value).ownBlock ∧ some k_ ≠ (.slice (some ad172) y173.length co21 : Value).ownBlock) (fun _ => False) rfl rfl ?aP (fun _ hk => hk.elim) ?aF ?aO ?aB ?aS ?aL ?_; (case aP => exact rfl); (case aB => exact bq); (case aF => exact (fun k_ hk => ⟨Kd.fresh' (Kd.R_lt (kr HO_7.out)) k_ hk, Kd.fresh' (Kd.R_lt (kr HO175.out)) k_ hk⟩)); (case aO => exact (kr HO_9.out)); (case aS => exact (below_size bq)); (case aL => have := LMc16.out; omega); intro v177 w23 ho hb hg hat; rw [← Ny176.out] at ho; replace HO_7 := Am (Kd.R_after (ok := (fun k_ => some k_ ≠ (.slice (some ad172) y173.length co21 : Value).ownBlock)) (by (with_reducible repeat (first | apply Kd.R_alloc | apply Kd.R_drewN | apply Kd.R_drew)); exact Kd.R_mono HO_7.out (fun _ hk => ⟨hk.2, hk.1⟩)) hg hat); replace HO175 := Am (Kd.R_after (ok := (fun k_ => some k_ ≠ (v167 : Value).ownBlock)) (kr HO175.out) hg hat); replace HB := Am (hb); have HO178 := Am (ho); clear HO_9; clear ho hb hg hat; obtain ⟨ad179, e179, hx179_0, hx179_1, hx179_2, hx179_3, hx179_4, hx179_5, p179, q179⟩ := t6d HB.out HR0.out (rd x10_1 (ji12)); cases e179))
       replace HO_7 := Am (Kd.R_drew HO_7.out)
       replace HO175 := Am (Kd.R_drew HO175.out)
       replace HO178 := Am (Kd.R_drew HO178.out)
       replace HB := Am (bd HB.out)
       obtain ⟨ad180, e180, ⟨hw180_0, hw180_1, hw180_2, hw180_3, hw180_4, hw180_5⟩, hx180_0, hx180_1, hx180_2, hx180_3, hx180_4, hx180_5, p180, q180⟩ := t6e HB.out HR0.out (rd x10_1 (ji12))
       obtain rfl : ad179 = ad180 := (by injection e180)
       obtain ⟨ad181, e181, ⟨hw181_0, hw181_1, hw181_2, hw181_3, hw181_4, hw181_5⟩, hx181_0, hx181_1, hx181_2, hx181_3, hx181_4, hx181_5, p181, q181⟩ := t6e HB.out HR0.out (rd x10_1 (ji12))
       obtain rfl : ad179 = ad181 := (by injection e181)
       refine sT 14 [] (S := fun w' => w'.cell? (ad179.add (((rd x10_1 (ji12))).toNat * 6)) = some (.int .i64 ((rd_T69 l0 (rd x10_1 (ji12))).f0)) ∧ w'.cell? ⟨(ad179.add (((rd x10_1 (ji12))).toNat * 6)).block, (ad179.add (((rd x10_1 (ji12))).toNat * 6)).off + 1, none⟩ = some (.int .i64 ((rd_T69 l0 (rd x10_1 (ji12))).f1)) ∧ w'.cell? ⟨(ad179.add (((rd x10_1 (ji12))).toNat * 6)).block, (ad179.add (((rd x10_1 (ji12))).toNat * 6)).off + 2, none⟩ = some (.int .i64 ((rd_T69 l0 (rd x10_1 (ji12))).f2)) ∧ w'.cell? ⟨(ad179.add (((rd x10_1 (ji12))).toNat * 6)).block, (ad179.add (((rd x10_1 (ji12))).toNat * 6)).off + 3, none⟩ = some (.int .i64 ((rd_T69 l0 (rd x10_1 (ji12))).f3)) ∧ w'.cell? ⟨(ad179.add (((rd x10_1 (ji12))).toNat * 6)).block, (ad179.add (((rd x10_1 (ji12))).toNat * 6)).off + 4, none⟩ = some (.int .i64 ((rd_T69 l0 (rd x10_1 (ji12))).f4)) ∧ w'.cell? ⟨(ad179.add (((rd x10_1 (ji12))).toNat * 6)).block, (ad179.add (((rd x10_1 (ji12))).toNat * 6)).off + 5, none⟩ = some (.int .i64 ((rd_T69 l0 (rd x10_1 (ji12))).f5))) ⟨(hc hw180_0), (hc hw180_1), (hc hw180_2), (hc hw180_3), (hc hw180_4), (hc hw180_5)⟩ fun hHeld => ?_; refine with_tabW weigh_keys.tab14 weigh_keys.bits14 (fun HT_ HW_ => ?_)
       generalize w23.drew = w24 at HO_7 HO175 HO178 HB hx180_0 hx180_1 hx180_2 hx180_3 hx180_4 hx180_5 hx181_0 hx181_1 hx181_2 hx181_3 hx181_4 hx181_5 hHeld ⊢
       refine puT HT_.out 0 53 ?_
       refine puT HT_.out 1 54 ?_
       refine puT HT_.out 2 55 ?_
       refine puT HT_.out 3 56 ?_
       refine puT HT_.out 4 57 ?_
       refine puT HT_.out 6 59 ?_
       refine puT HT_.out 7 60 ?_
       refine puT HT_.out 8 61 ?_
       refine puT HT_.out 9 62 ?_
       refine taT HT_.out HW_.out 5 58 hHeld ?_
       refine taT HT_.out HW_.out 10 63 hHeld ?_
       refine onT HT_.out 11 64 fun K hK => ?_
       refine Kd.R_lit_step (Kd.int .i64) _ 3 ?hg (N := 64) ?hd (xs := ([(rd_T69 l0 (rd x10_1 (ji12))).f5, (rd_T69 l0 (rd x10_1 (ji12))).f4] : List Int)) (inner := [.int .i64 ((rd_T69 l0 (rd x10_1 (ji12))).f5), .int .i64 ((rd_T69 l0 (rd x10_1 (ji12))).f4)]) (ok := fun _ => True) (okp := fun _ => True) ?hr ?hp (fun _ hk => hk) trivial (Below.refl _ _) (Nat.le_refl _) (by simp) ?_; (case hd => rfl); (case hg => rfl); (case hr => first | (go_simp; done) | (go_simp; rfl)); (case hp => exact (Reps.one (show Kd.M (Kd.int .i64) _ _ _ ((rd_T69 l0 (rd x10_1 (ji12))).f5) [.int .i64 ((rd_T69 l0 (rd x10_1 (ji12))).f5)] from rfl) (Reps.one (show Kd.M (Kd.int .i64) _ _ _ ((rd_T69 l0 (rd x10_1 (ji12))).f4) [.int .i64 ((rd_T69 l0 (rd x10_1 (ji12))).f4)] from rfl) (Reps.none _ _))))
       intro v183 w25 ho26 hb hg_ hnew_
       clear hg_ hnew_
       (first | rw [← Ny182.out] at ho26 | (simp only [Int.reduceToNat] at ho26; rw [← Ny182.out] at ho26))
       have HO184 := Am (Kd.R_lower (Kd.R_new' (Kd.R_new' (Kd.R_new' ho26 (Kd.R_lt (kr HO_7.out))) (Kd.R_lt (kr HO175.out))) (Kd.R_lt (kr HO178.out))) (below_size bq))
       replace HO_7 := Am (Kd.R_elder' (kr HO_7.out) (Kd.R_base ho26) hb)
       replace HO175 := Am (Kd.R_elder' (kr HO175.out) (Kd.R_base ho26) hb)
       replace HO178 := Am (Kd.R_elder' (kr HO178.out) (Kd.R_base ho26) hb)
       replace HB := Am (below_step bq hb)
       clear hb ho26
       obtain ⟨Ao28, co28, eo28⟩ := Kd.R_slice HO184.out
       (first | subst eo28 | (injection eo28 with f1_ f2_ f3_; have f4_ := f1_.symm; have f5_ := f3_.symm; clear f1_ f2_ f3_; subst f4_; subst f5_))
       refine hK.out _ _ ⟨(hc hw180_0), (hc hw180_1), (hc hw180_2), (hc hw180_3), (hc hw180_4), (hc hw180_5)⟩ (fun hHeld => ?_)
       clear hK K
       refine nm 64 ?_
       refine onT HT_.out 12 65 fun K hK => ?_
       refine Kd.R_append_rows_step (Kd.int .i64) (w0 := w) w.heap.size (by rfl) (.tmp 53) (.tmp 64) 60 3 (.int .i64 0) 8 rfl Tryz.underlying60 info3 rfl (by decide) (by omega) (.slice (some ad172) y173.length co21) y173 y182 _ _ _ (fun k_ => some k_ ≠ (v167 : Value).ownBlock ∧ some k_ ≠ (v177 : Value).ownBlock ∧ some k_ ≠ (.slice Ao28 y182.length co28 : Value).ownBlock) (fun _ => False) rfl rfl ?aO ?aR (fun _ _ h => h) (fun _ h => h.elim) ?aF ?aB ?aS ?aL ?_
       (case aR => repeat (first | exact (Kd.R_reads' HO184.out).2.2 | (with_reducible refine Kd.C_alloc ?_ _) | (with_reducible refine Kd.C_drewN ?_ _) | (with_reducible refine Kd.C_drew ?_)))
       (case aB => exact bq)
       (case aF => exact (fun k_ hk => ⟨Kd.fresh' (Kd.R_lt (kr HO_7.out)) k_ hk, Kd.fresh' (Kd.R_lt (kr HO178.out)) k_ hk, Kd.fresh' (Kd.R_lt (kr HO184.out)) k_ hk⟩))
       (case aO => exact (by (with_reducible repeat (first | apply Kd.R_alloc | apply Kd.R_drewN | apply Kd.R_drew)); exact Kd.R_mono HO175.out (fun _ hk => ⟨hk.1.1, ⟨hk.1.2, hk.2⟩⟩)))
       (case aS => exact (below_size bq))
       (case aL => have := LMc20.out; omega)
       intro v186 w27 ho hb hg hat
       rw [← Ny185.out] at ho
       replace HO_7 := Am (Kd.R_after (ok := (fun k_ => some k_ ≠ (v177 : Value).ownBlock ∧ some k_ ≠ (.slice Ao28 y182.length co28 : Value).ownBlock)) (by (with_reducible repeat (first | apply Kd.R_alloc | apply Kd.R_drewN | apply Kd.R_drew)); exact Kd.R_mono HO_7.out (fun _ hk => ⟨⟨hk.1.2, hk.2⟩, hk.1.1⟩)) hg hat)
       replace HO178 := Am (Kd.R_after (ok := (fun k_ => some k_ ≠ (v167 : Value).ownBlock ∧ some k_ ≠ (.slice Ao28 y182.length co28 : Value).ownBlock)) (by (with_reducible repeat (first | apply Kd.R_alloc | apply Kd.R_drewN | apply Kd.R_drew)); exact Kd.R_mono HO178.out (fun _ hk => ⟨⟨hk.1.1, hk.2⟩, hk.1.2⟩)) hg hat)
       replace HO184 := Am (Kd.R_after (ok := (fun k_ => some k_ ≠ (v167 : Value).ownBlock ∧ some k_ ≠ (v177 : Value).ownBlock)) (by (with_reducible repeat (first | apply Kd.R_alloc | apply Kd.R_drewN | apply Kd.R_drew)); exact Kd.R_mono HO184.out (fun _ hk => ⟨⟨hk.1.1.2, hk.2⟩, hk.1.2⟩)) hg hat)
       replace HB := Am (hb)
       have HO187 := Am (ho)
       clear HO175
       clear ho hb hg hat
       refine hK.out _ _ ⟨(hc hw180_0), (hc hw180_1), (hc hw180_2), (hc hw180_3), (hc hw180_4), (hc hw180_5)⟩ (fun hHeld => ?_)
       clear hK K
       refine nm 65 ?_
       refine puT HT_.out 13 10 ?_
       refine done_ (done_of HT_.out (by kernel_rfl)) ?_
       try go_wp2
       go_roundg k1
       case measure => have := HK1.out; omega
       case rel => exact ⟨(y176), (y185), H', ⟨by have := HK1.out; omega⟩, ⟨by (with_reducible repeat (first | apply Kd.R_alloc | apply Kd.R_drewN | apply Kd.R_drew)); exact Kd.R_mono HO_7.out (fun _ hk => ⟨hk.1.1, hk.2⟩)⟩, ⟨by (with_reducible repeat (first | apply Kd.R_alloc | apply Kd.R_drewN | apply Kd.R_drew)); exact Kd.R_mono HO178.out (fun _ hk => ⟨hk.1.1, hk.2⟩)⟩, ⟨by (with_reducible repeat (first | apply Kd.R_alloc | apply Kd.R_drewN | apply Kd.R_drew)); exact Kd.R_mono HO187.out (fun _ hk => ⟨hk.1, hk.2.1⟩)⟩, ⟨bq⟩⟩
      ·rw [if_neg c19] at H
       have c19b0 : decide (0 ≤ ((rd_T69 l0 (rd x10_1 (ji12))).f4)) = false := decide_eq_false c19
       clear c19
       have H' := Am H
       clear H
       obtain ⟨Ao29, co29, eo29⟩ := Kd.R_slice HO_10.out
       subst eo29
       have p172 : 0 ≤ ((ji12) : Int) := da
       have q172 : (ji12) < (x10_1.length : Int) := da
       obtain ⟨ad172, e172, hx172_0⟩ := Kd.at_int (Kd.R_reads' HO_10.out).2.2 (ji12) p172 q172
       cases e172
       replace p172 := eq_true p172
       replace q172 := eq_true q172
       have q30 : ((ji12) : Int) ≤ ((x10_1.length : Int) : Int) := da
       obtain ⟨i030, hi030, _, hsz30, _⟩ := info_parts info3
       have hcut30 := cut_to (P := Tryz.prog) 60 3 .i64 Tryz.underlying60 hi030 (some ad172) x10_1.length co29 (ji12) (da) q30 (Kd.R_reads' HO_10.out).2.1
       have hr30 := Kd.R_take (m := ((ji12) : Int).toNat) HO_10.out (by omega)
       have hy30 : y173.length = ((ji12) : Int).toNat := (by rw [Ny173.out, List.length_take]; omega)
       rw [← Ny173.out] at hr30
       rw [← hy30] at hr30 hcut30
       clear hy30 hi030 hsz30 HO_10
       have HO175 := Am hr30
       clear hr30
       replace q30 := eq_true q30
       go_wp2_with (first | ((with_reducible refine gate_builtin (b := .append) (xs := #[.tmp 43, .tmp 45]) rfl ?_); at_builtin; refine Kd.R_append (Kd.int .i64) (w0 := w) w.heap.size rfl (.tmp 43) (.tmp 45) 60 3 (.int .i64 0) 8 rfl Tryz.underlying60 info3 rfl (by decide) (by omega) u9 x9_1 (rd x10_1 (ji12)) [.int .i64 (rd x10_1 (ji12))] (fun k_ => some k_ ≠ (v167 : Value).ownBlock ∧ some k_ ≠ (.slice (some ad172) y173.length co29 : Value).ownBlock) (fun _ => False) rfl rfl ?aP (fun _ hk => hk.elim) ?aF ?aO ?aB ?aS ?aL ?_; (case aP => exact rfl); (case aB => exact bq); (case aF => exact (fun k_ hk => ⟨Kd.fresh' (Kd.R_lt (kr HO_7.out)) k_ hk, Kd.fresh' (Kd.R_lt (kr HO175.out)) k_ hk⟩)); (case aO => exact (kr HO_9.out)); (case aS => exact (below_size bq)); (case aL => have := LMc16.out; omega); intro v177 w31 ho hb hg hat; rw [← Ny176.out] at ho; replace HO_7 := Am (Kd.R_after (ok := (fun k_ => some k_ ≠ (.slice (some ad172) y173.length co29 : Value).ownBlock)) (by (with_reducible repeat (first | apply Kd.R_alloc | apply Kd.R_drewN | apply Kd.R_drew)); exact Kd.R_mono HO_7.out (fun _ hk => ⟨hk.2, hk.1⟩)) hg hat); replace HO175 := Am (Kd.R_after (ok := (fun k_ => some k_ ≠ (v167 : Value).ownBlock)) (kr HO175.out) hg hat); replace HB := Am (hb); have HO178 := Am (ho); clear HO_9; clear ho hb hg hat; obtain ⟨ad179, e179, hx179_0, hx179_1, hx179_2, hx179_3, hx179_4, hx179_5, p179, q179⟩ := t6d HB.out HR0.out (rd x10_1 (ji12)); cases e179))
       go_roundg k1
       case measure => have := HK1.out; omega
       case rel => exact ⟨(y176), (y173), H', ⟨by have := HK1.out; omega⟩, ⟨by (with_reducible repeat (first | apply Kd.R_alloc | apply Kd.R_drewN | apply Kd.R_drew)); exact Kd.R_mono HO_7.out (fun _ hk => ⟨hk.2, hk.1⟩)⟩, ⟨kr HO178.out⟩, ⟨kr HO175.out⟩, ⟨bq⟩⟩
     ·rw [if_neg c11] at H
      have c11b0 : decide (0 < (x10_1.length : Int)) = false := decide_eq_false c11
      have c11b1 : decide (0 < x10_1.length) = false := decide_eq_false (by omega)
      clear c11
      simp only [Option.some.injEq, Prod.mk.injEq] at H
      obtain ⟨rfl, rfl, rfl⟩ := H
      obtain ⟨Ao32, co32, eo32⟩ := Kd.R_slice HO_10.out
      subst eo32
      go_wp2
      go_ret3
      exact ⟨_, _, er, by (with_reducible repeat (first | apply Kd.R_alloc | apply Kd.R_drewN | apply Kd.R_drew)); exact Kd.R_mono HO_9.out (fun _ hk => hk.1), by (with_reducible repeat (first | apply Kd.R_alloc | apply Kd.R_drewN | apply Kd.R_drew)); exact Kd.R_mono HO_7.out (fun _ hk => hk.1), bq⟩
  ·rw [if_neg c5] at H
   obtain ⟨c5b0, c5b1⟩ := ne2 c5
   exact dd18
end
end Go.Proofs.YtaabbaemfnecgaaGreat.T
namespace Go.Proofs.YtaabbaemfnecgaaGreat.V
open Go.Proofs.YtaabbaemfnecgaaGreat.T
open Go.RowKit Go.Proofs.YtaabbaemfnecgaaGreatW.PrintWords Go.Proofs.YtaabbaemfnecgaaGreatW.PrintLast Go.Proofs.YtaabbaemfnecgaaGreatW.PrintMore
set_option linter.unusedVariables false
set_option linter.unusedSimpArgs false
def keyOf : Value → Int
 | .int _ j => j
 | _ => 0
def getE : List MapEntry → Int → Option Value
 | [], _ => none
 | e :: es, k => if keyOf e.key = k then some e.val else getE es k
def Ks (es : List MapEntry) : Prop := ∀ e ∈ es, ∃ j, e.key = .int .i64 j
def updM (f : Int → Option Value) (k : Int) (v : Value) : Int → Option Value := fun x => if x = k then some v else f x
theorem find_i (k : Int) : ∀ (l : List MapEntry) (i : Nat), Ks l →
  (∃ j v, Instr.findNow (.int .i64) (.int .i64 k) l i = some (some (i + j, v)) ∧ getE l k = some v ∧ (l[j]?.map (·.key)).getD (.int .i64 k) = .int .i64 k ∧
   ∀ u, Ks (l.modify j (fun e => { e with key := .int .i64 k, val := u })) ∧ ∀ x, getE (l.modify j (fun e => { e with key := .int .i64 k, val := u })) x = updM (getE l) k u x) ∨
  (Instr.findNow (.int .i64) (.int .i64 k) l i = some none ∧ getE l k = none)
 | [], i, _ => .inr ⟨rfl, rfl⟩
 | e :: es, i, h => by
  obtain ⟨a, ha⟩ := h e List.mem_cons_self
  have hes : Ks es := fun x hx => h x (List.mem_cons_of_mem _ hx)
  have hs : Instr.sameNow (.int .i64) (.int .i64 k) e.key = some (k == a) := by rw [ha]; simp [Instr.sameNow]
  have hk : keyOf e.key = a := by rw [ha]; rfl
  by_cases hka : k = a
  ·subst hka
   refine .inl ⟨0, e.val, ?_, ?_, ?_, fun u => ⟨?_, fun x => ?_⟩⟩
   ·rw [Instr.findNow, hs]; simp
   ·rw [getE, if_pos hk]
   ·simp [ha]
   ·intro y hy
    rcases List.mem_cons.1 hy with rfl | hy
    ·exact ⟨k, rfl⟩
    ·exact hes y hy
   ·show getE (_ :: es) x = _
    rw [getE, updM, getE, hk]
    show (if k = x then some u else _) = _
    by_cases hx : x = k
    ·rw [if_pos hx.symm, if_pos hx]
    ·rw [if_neg (fun e => hx e.symm), if_neg hx, if_neg (fun e => hx e.symm)]
  ·have hb : (k == a) = false := by simpa using hka
   rcases find_i k es (i + 1) hes with ⟨j, v, h1, h2, h3, h4⟩ | ⟨h1, h2⟩
   ·refine .inl ⟨j + 1, v, ?_, ?_, ?_, fun u => ⟨?_, fun x => ?_⟩⟩
    ·rw [Instr.findNow, hs, hb]
     show Instr.findNow _ _ es (i + 1) = _
     rw [h1, show i + 1 + j = i + (j + 1) by omega]
    ·rw [getE, hk, if_neg (fun e => hka e.symm), h2]
    ·rw [List.getElem?_cons_succ]; exact h3
    ·intro y hy
     rw [List.modify_succ_cons] at hy
     rcases List.mem_cons.1 hy with rfl | hy
     ·exact ⟨a, ha⟩
     ·exact (h4 u).1 y hy
    ·rw [List.modify_succ_cons, getE, (h4 u).2, updM, updM, getE, hk]
     by_cases hx : x = k
     ·rw [if_pos hx, if_neg (fun e => hka (by omega)), if_pos hx]
     ·rw [if_neg hx, if_neg hx]
   ·refine .inr ⟨?_, ?_⟩
    ·rw [Instr.findNow, hs, hb]; exact h1
    ·rw [getE, hk, if_neg (fun e => hka e.symm), h2]
theorem getE_snoc (l : List MapEntry) (e : MapEntry) (x : Int) (h : getE l (keyOf e.key) = none) : getE (l ++ [e]) x = updM (getE l) (keyOf e.key) e.val x := by
 induction l with
 | nil => rw [List.nil_append, getE, getE, updM]; by_cases hx : x = keyOf e.key <;> simp [hx, getE]; intro hh; exact absurd hh.symm hx
 | cons a l ih =>
  rw [getE] at h
  by_cases ha : keyOf a.key = keyOf e.key
  ·rw [if_pos ha] at h; cases h
  ·rw [if_neg ha] at h
   rw [List.cons_append, getE, ih h, updM, updM, getE]
   by_cases hx : x = keyOf e.key
   ·rw [if_pos hx, if_neg (by rw [hx]; exact ha), if_pos hx]
   ·rw [if_neg hx, if_neg hx]
def MapI (W : World) (bm : Nat) (f : Int → Option Value) : Prop := ∃ es clock, W.heap[bm]? = some (.map es clock) ∧ Ks es.toList ∧ ∀ k, getE es.toList k = f k
theorem MapI.new (W : World) (bm : Nat) (hb : bm = W.heap.size := by rfl) : MapI (W.alloc (.map #[] 0)) bm (fun _ => none) := by
 subst hb
 exact ⟨#[], 0, blk_new W _, fun _ h => by simp at h, fun _ => rfl⟩
theorem MapI.below {W W' : World} {bm : Nat} {f : Int → Option Value} (h : MapI W bm f) (hb : Below W.heap.size W W') : MapI W' bm f := by
 obtain ⟨es, cl, h1, h2, h3⟩ := h
 exact ⟨es, cl, blkB hb h1, h2, h3⟩
theorem MapI.kept {α : Type} {d : Kd α} {e : Nat} {W W1 : World} {base bm : Nat} {ok : Nat → Prop} {v : Value} {xs : List α} {f : Int → Option Value} (hm : MapI W bm f) (h : Kd.R d e W base ok v xs) (hg : W.grownBy W1 v.ownBlock) : MapI W1 bm f := by
 obtain ⟨es, cl, h1, h2, h3⟩ := hm
 refine ⟨es, cl, (hg.block bm (blk_lt h1) (fun e' => ?_)).trans h1, h2, h3⟩
 obtain ⟨cells, hc⟩ := Kd.R_typed h bm e'.symm
 rw [h1] at hc
 simp at hc
theorem R_mapg {α : Type} {d : Kd α} {e : Nat} {W W1 : World} {base bm : Nat} {ok : Nat → Prop} {v : Value} {xs : List α} {f : Int → Option Value} (h : Kd.R d e W base ok v xs) (hm : MapI W bm f) (hg : W.grownBy W1 (some bm)) : Kd.R d e W1 base ok v xs := by
 refine Kd.R_mono (Kd.R_move (Kd.R_bound h) (fun k hk => hg.block k hk.2.2.1 (fun he => ?_))) (fun _ hk => hk.1)
 obtain ⟨_, _, _, q, _, cells, hc⟩ := hk
 obtain ⟨es, cl, h1, _⟩ := hm
 injection he with he
 subst he
 rw [h1] at hc
 simp at hc
theorem below_from {W W1 : World} {g B : Nat} (h : W.grownBy W1 (some g)) (hB : B ≤ g) (hs : B ≤ W.heap.size) : Below B W W1 :=
 ⟨h.os, h.tape, h.output, h.size, fun k hk => h.block k (by omega) (fun e => by injection e with e; omega)⟩
theorem underlying3 : Tryz.prog.underlying 3 = some (.int .i64) := by kernel_rfl
theorem run_get {W : World} {bm : Nat} {f : Int → Option Value} (h : MapI W bm f) (T et : TypeId) (hT : Tryz.prog.underlying T = some (.map 3 et)) (k : Int) (z : Value) (hz : (Tryz.prog.info? et).map (fun i => i.zero) = some (some z)) :
  (Instr.lookup T (.map (some bm)) (.int .i64 k) false).run Tryz.prog W = .ok ((f k).getD z) W := by
 obtain ⟨es, cl, hb, hk, hf⟩ := h
 have hc : ∀ b, (Instr.checkKey b 10000 3 (.int .i64 k)).run Tryz.prog W = .ok () W := fun b => MapKept.run_checkKey (k := .int .i64 k) underlying3 (by simp [MapKept.IsKey]) b 9999
 have hz' : (zeroValue et).run Tryz.prog W = .ok z W := by
  obtain ⟨i, hi, he⟩ := Option.map_eq_some_iff.1 hz
  simp [zeroValue, typeInfo, hi, he]
 rcases find_i k es.toList 0 hk with ⟨j, v, h1, h2, _, _⟩ | ⟨h1, h2⟩
 ·have hq := MapKept.run_findKey (w := W) underlying3 h1
  rw [← hf, h2]
  simp [Instr.lookup, run_underlying hT, MapKept.run_getObj_map hb, hc, hq, Result.andThen]
 ·have hq := MapKept.run_findKey (w := W) underlying3 h1
  rw [← hf, h2]
  simp [Instr.lookup, run_underlying hT, MapKept.run_getObj_map hb, hc, hq, Result.andThen, hz']
theorem run_put {W : World} {bm : Nat} {f : Int → Option Value} (h : MapI W bm f) (T et : TypeId) (hT : Tryz.prog.underlying T = some (.map 3 et)) (k : Int) (v : Value) :
  ∃ W', (Instr.mapUpdate T (.map (some bm)) (.int .i64 k) v).run Tryz.prog W = .ok () W' ∧ MapI W' bm (updM f k v) ∧ W.grownBy W' (some bm) := by
 obtain ⟨es, cl, hb, hk, hf⟩ := h
 have hc : ∀ b, (Instr.checkKey b 10000 3 (.int .i64 k)).run Tryz.prog W = .ok () W := fun b => MapKept.run_checkKey (k := .int .i64 k) underlying3 (by simp [MapKept.IsKey]) b 9999
 have hg : ∀ o, W.grownBy { W with heap := W.heap.setIfInBounds bm o } (some bm) := fun o => ⟨rfl, rfl, rfl, by simp, fun k hk hne => (MapKept.heap_set hb).2 k (fun e => hne (by rw [e]))⟩
 rcases find_i k es.toList 0 hk with ⟨j, v0, h1, h2, h3, h4⟩ | ⟨h1, h2⟩
 ·have hq := MapKept.run_findKey (w := W) underlying3 h1
  refine ⟨{ W with heap := W.heap.setIfInBounds bm (.map (es.modify j fun e => { e with key := .int .i64 k, val := v }) cl) }, ?_, ⟨_, _, (MapKept.heap_set hb).1, ?_, ?_⟩, hg _⟩
  ·have h3' : (Option.map (fun x => x.key) es[j]?).getD (Value.int .i64 k) = .int .i64 k := by rw [← Array.getElem?_toList]; exact h3
   have hs : (Instr.keyThatStays (.int .i64 k) (.int .i64 k)).run Tryz.prog W = .ok (.int .i64 k) W := MapKept.run_keyThatStays (d := .int .i64) (by simp [MapKept.IsKey])
   simp [Instr.mapUpdate, run_underlying hT, MapKept.run_getObj_map hb, hc, hq, Result.andThen, MapKept.run_setObj_map _ hb, h3', hs]
  ·rw [Array.toList_modify]; exact (h4 v).1
  ·intro x
   rw [Array.toList_modify, (h4 v).2, updM, updM, hf]
 ·have hq := MapKept.run_findKey (w := W) underlying3 h1
  refine ⟨{ W with heap := W.heap.setIfInBounds bm (.map (es.push { key := .int .i64 k, val := v, born := cl }) (cl + 1)) }, ?_, ⟨_, _, (MapKept.heap_set hb).1, ?_, ?_⟩, hg _⟩
  ·simp [Instr.mapUpdate, run_underlying hT, MapKept.run_getObj_map hb, hc, hq, Result.andThen, MapKept.run_setObj_map _ hb]
  ·rw [Array.toList_push]
   intro e he
   rcases List.mem_append.1 he with he | he
   ·exact hk e he
   ·rw [List.mem_singleton.1 he]; exact ⟨k, rfl⟩
  ·intro x
   rw [Array.toList_push, getE_snoc _ _ _ h2, updM, updM, hf]
   rfl
theorem ex_get (T : TypeId) {et : TypeId} (hT : Tryz.prog.underlying T = some (.map 3 et)) {z : Value} (hz : (Tryz.prog.info? et).map (fun i => i.zero) = some (some z)) {ev : Operand → Value} {o : Oper} (m x : Operand) (ho : o.op = .lookup T m x false) (bm : Nat) (hm : ev m = .map (some bm)) (k : Int) (hx : ev x = .int .i64 k) {W : World} {f : Int → Option Value} (hb : MapI W bm f) {v : Value} (hv : (f k).getD z = v) :
  (execOp ev o).run Tryz.prog W = .ok (.value v) W := by
 have hrun := run_get hb T et hT k z hz
 subst hv
 unfold execOp
 simp only [ho, hm, hx, Sem.run_bind, Sem.run_pure, Result.andThen_ok, hrun]
theorem ex_put (T : TypeId) {et : TypeId} (hT : Tryz.prog.underlying T = some (.map 3 et)) {ev : Operand → Value} {o : Oper} (m x y : Operand) (ho : o.op = .mapUpdate T m x y) (bm : Nat) (hm : ev m = .map (some bm)) (k : Int) (hx : ev x = .int .i64 k) (v : Value) (hy : ev y = v) {W : World} {f : Int → Option Value} (hb : MapI W bm f) :
  ∃ W1, (execOp ev o).run Tryz.prog W = .ok .skip W1 ∧ MapI W1 bm (updM f k v) ∧ W.grownBy W1 (some bm) := by
 obtain ⟨W1, hrun, h1, h2⟩ := run_put hb T et hT k v
 refine ⟨W1, ?_, h1, h2⟩
 unfold execOp
 simp only [ho, hm, hx, hy, Sem.run_bind, Sem.run_pure, Result.andThen_ok, hrun]
section
variable {ops : Array Oper} {rest : List Oper} {o : Oper} {a : Act} {Q : Exit → Act → World → Prop} {W : World}
theorem wp_get (T : TypeId) {et : TypeId} (hT : Tryz.prog.underlying T = some (.map 3 et)) {z : Value} (hz : (Tryz.prog.info? et).map (fun i => i.zero) = some (some z)) (hgd : o.guard = none) (m x : Operand) (ho : o.op = .lookup T m x false) (bm : Nat) (hm : a.eval m = .map (some bm)) (k : Int) (hx : a.eval x = .int .i64 k) {f : Int → Option Value} (hb : MapI W bm f)
  (h : wpList Tryz.prog ops Q rest (a.put o.dst ((f k).getD z)) W) : wpList Tryz.prog ops Q (o :: rest) a W := by
 refine wpList_plain hgd fun K hK => ?_
 have hrun := run_get hb T et hT k z hz
 unfold Oper.wp execOp
 simp only [ho, hm, hx, Sem.run_bind, Sem.run_pure, Result.andThen_ok, hrun]
 exact hK _ _ h
theorem wp_put (T : TypeId) {et : TypeId} (hT : Tryz.prog.underlying T = some (.map 3 et)) (hgd : o.guard = none) (hN : o.dst = none) (m x y : Operand) (ho : o.op = .mapUpdate T m x y) (bm : Nat) (hm : a.eval m = .map (some bm)) (k : Int) (hx : a.eval x = .int .i64 k) (v : Value) (hy : a.eval y = v) {f : Int → Option Value} (hb : MapI W bm f)
  (h : ∀ W1, MapI W1 bm (updM f k v) → W.grownBy W1 (some bm) → wpList Tryz.prog ops Q rest a W1) : wpList Tryz.prog ops Q (o :: rest) a W := by
 refine wpList_plain hgd fun K hK => ?_
 obtain ⟨W1, hrun, h1, h2⟩ := run_put hb T et hT k v
 unfold Oper.wp execOp
 simp only [ho, hm, hx, hy, Sem.run_bind, Sem.run_pure, Result.andThen_ok, hrun]
 show K (a.put o.dst undef) _
 rw [hN]
 exact hK a _ (h _ h1 h2)
theorem put_step (T : TypeId) {et : TypeId} (hT : Tryz.prog.underlying T = some (.map 3 et)) {K : Act → World → Prop} (hw : Region.wanted o (yielded ops a.tmps) = true) (hN : o.dst = none) (m x y : Operand) (ho : o.op = .mapUpdate T m x y) (bm : Nat) (hm : a.eval m = .map (some bm)) (k : Int) (hx : a.eval x = .int .i64 k) (v : Value) (hy : a.eval y = v) {f : Int → Option Value} (hb : MapI W bm f)
  (h : ∀ W1, MapI W1 bm (updM f k v) → W.grownBy W1 (some bm) → K a W1) : if Region.wanted o (yielded ops a.tmps) = true then Oper.wp Tryz.prog o a W K Q else K (a.put none undef) W := by
 obtain ⟨W1, hrun, h1, h2⟩ := ex_put T hT (ev := a.eval) m x y ho bm hm k hx v hy hb
 exact skip_ hw hN hrun (h W1 h1 h2)
theorem wp_makeM (T : TypeId) (hgd : o.guard = none) (ho : o.op = .makeMap T none) (h : ∀ bm W1, bm = W.heap.size → MapI W1 bm (fun _ => none) → Below W.heap.size W W1 → wpList Tryz.prog ops Q rest (a.put o.dst (.map (some bm))) W1) : wpList Tryz.prog ops Q (o :: rest) a W := by
 refine wpList_plain hgd fun K hK => ?_
 have hrun : (Instr.makeMap T none).run Tryz.prog W = .ok (.map (some W.heap.size)) (W.alloc (.map #[] 0)) := run_makeMap T W
 unfold Oper.wp execOp
 simp only [ho, Sem.run_bind, Sem.run_pure, Result.andThen_ok, hrun, Option.map_none]
 exact hK _ _ (h _ _ rfl (MapI.new W _) (below_alloc (Below.refl _ _) _))
end
end Go.Proofs.YtaabbaemfnecgaaGreat.V
