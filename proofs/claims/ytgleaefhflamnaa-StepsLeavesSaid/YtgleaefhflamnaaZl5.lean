/- A part of the proof: see YtgleaefhflamnaaLawStepsLeaves. -/
import Derived.Test.YtgleaefhflamnaaZl4
set_option linter.unusedVariables false
set_option linter.unusedSimpArgs false
/- table.Ordered. -/
namespace Go.Proofs.Ytgleaefhflamnaa.T
open Go.RowKit Go.Proofs.YtgleaefhflamnaaW.PrintWords Go.Proofs.YtgleaefhflamnaaW.PrintLast Go.Proofs.YtgleaefhflamnaaW.PrintMore
set_option linter.unusedVariables false
set_option linter.unusedSimpArgs false
set_option maxHeartbeats 40000000 in
set_option maxRecDepth 100000 in
theorem ordered_calls (k : Nat) (A0 : Option Addr) (c0 : Nat) (l0 : List S34) (ps : List Int) (w : World) (hr0 : Kd.C k34 w A0 l0.length l0) (hc0 : l0.length ≤ c0) (hck : table_Check.f k l0 = some 0) (ho : table_order.f k l0 0 = some ps)
  (hl0 : 0 < l0.length) (hl : l0.length ≤ 100000) (hpl : ps.length ≤ 1000000) (hps : ∀ p ∈ ps, ∃ j : Nat, p = j ∧ j < l0.length)
  (hkid : ∀ i, i < l0.length → ¬ ((l0.getD i z34).f4 = -1 ∧ (l0.getD i z34).f5 = -1) → ∃ a b : Nat, (l0.getD i z34).f4 = a ∧ (l0.getD i z34).f5 = b ∧ a < l0.length ∧ b < l0.length) :
  Calls Try.prog 37 #[.slice A0 l0.length c0] w fun e w' => e = .returned (.tuple #[.bool (ordL l0 ps (List.replicate l0.length z125) (List.replicate l0.length false)), .int .i64 0]) ∧ Below w.heap.size w w' := by
 have hu34 := Try.underlying34
 have hu125 := Try.underlying125
 have HR0 := Am hr0
 have HC0 := Am hc0
 have HCK := Am hck
 have HOR := Am ho
 have HL0 := Am hl0
 have HL := Am hl
 have HPL := Am hpl
 have HPS := Am hps
 have HKID := Am hkid
 clear hr0 hc0 hck ho hl0 hl hpl hps hkid
 go_enter Try.func37, Try.ntmps37
 go_wp2_with (fail)
 refine (table_Check.calls k A0 c0 l0 0 _ HR0.out HC0.out HCK.out).mono ?_
 rintro e w1 ⟨rfl, hb⟩
 have HB := Am hb
 clear hb
 go_wp2_with (first | ((with_reducible refine gate_dst (N := 20) rfl ?_); refine Kd.R_make k125 _ 125 rfl (N := 20) rfl 123 _ _ rfl (l0.length : Int) rfl rfl Try.underlying123 zB 24 info125 rfl (by decide) (by omega) z125 (ok := fun _ => True) (okp := fun _ => True) (k125_mkM _ _ _ z125) (fun _ hk => hk) trivial (by omega) (by have := HL.out; omega) (Below.refl _ _) (Nat.le_refl _) ?_; intro v5 w2 ho hb hg_ hnew_; rw [Int.toNat_natCast] at ho; have HO := Am (Kd.R_lower ho HB.out.size); have HB2 := Am (HB.out.trans (hb.mono HB.out.size)); clear ho hb hg_ hnew_ HB) | ((with_reducible refine gate_dst (N := 23) rfl ?_); refine Kd.R_make Kd.bool _ 4 rfl (N := 23) rfl 87 _ _ rfl (l0.length : Int) rfl rfl Try.underlying87 (.bool false) 1 info4 rfl (by decide) (by omega) false (ok := fun _ => True) (okp := fun _ => True) rfl (fun _ hk => hk) trivial (by omega) (by have := HL.out; omega) (Below.refl _ _) (Nat.le_refl _) ?_; intro v6 w3 ho hb hg_ hnew_; rw [Int.toNat_natCast] at ho; have HO6 := Am (Kd.R_lower ho HB2.out.size); have HO5 := Am (Kd.R_below HO.out hb); have HB3 := Am (HB2.out.trans (hb.mono HB2.out.size)); clear ho hb hg_ hnew_ HB2 HO))
 refine (table_order.calls k A0 c0 l0 0 ps _ (Kd.C_below HR0.out HB3.out) HC0.out HOR.out).mono ?_
 rintro e w4 ⟨v25, rfl, ho, hb⟩
 obtain ⟨Ap, cp, rfl⟩ := Kd.R_slice ho
 have HP := Am (Kd.R_lower ho HB3.out.size)
 have HO5' := Am (Kd.R_below HO5.out hb)
 have HO6' := Am (Kd.R_below HO6.out hb)
 have HB4 := Am (HB3.out.trans (hb.mono HB3.out.size))
 clear ho hb HO5 HO6 HB3 HCK HOR
 obtain ⟨ga, ca, rfl, -, -, -⟩ := Kd.R_form HO5'.out (by rw [List.length_replicate]; exact HL0.out)
 obtain ⟨gs, cs, rfl, -, -, -⟩ := Kd.R_form HO6'.out (by rw [List.length_replicate]; exact HL0.out)
 have HS : Aside0 (Os w l0.length ga ca gs cs Ap cp ps (List.replicate l0.length z125) (List.replicate l0.length false) w4) := ⟨⟨HB4.out, List.length_replicate, List.length_replicate, by simpa only [List.length_replicate] using HO5'.out, by simpa only [List.length_replicate] using HO6'.out, HP.out⟩⟩
 rw [List.length_replicate, List.length_replicate]
 clear HB4 HO5' HO6' HP
 obtain ⟨E, hE⟩ : ∃ E, ordL l0 ps (List.replicate l0.length z125) (List.replicate l0.length false) = E := ⟨_, rfl⟩
 have HE00 := Am hE
 have HE := Am hE
 clear hE
 go_wp2
 go_loopg [27] (ps.length + 1) (fun kq v27 w' => ∃ (i : Nat) (A : List S125) (B : List Bool), v27 = .int .i64 i ∧ Aside0 (i ≤ ps.length ∧ kq + i = ps.length + 1) ∧ Aside0 (Os w l0.length ga ca gs cs Ap cp ps A B w') ∧ Aside0 (ordL l0 (ps.drop i) A B = E))
 case atStart => exact ⟨0, _, _, rfl, ⟨Nat.zero_le _, rfl⟩, HS, HE⟩
 case round =>
  clear HS HE
  obtain ⟨i, A, B, rfl, HI, HS, HE⟩ := hrel
  have hpl := HPL.out
  obtain ⟨kq1, rfl⟩ : ∃ x, gk = x + 1 := ⟨gk - 1, by have := HI.out; omega⟩
  by_cases q1 : i < ps.length
  ·obtain ⟨j, hj, hjl⟩ := HPS.out _ (List.getElem_mem q1)
   have hd : ps.drop i = (j : Int) :: ps.drop (i + 1) := by rw [← hj]; exact List.drop_eq_getElem_cons q1
   have HE1 := HE.out
   rw [hd] at HE1
   obtain ⟨ad, ead, hz⟩ := rd_cells HR0.out hjl
   obtain ⟨z0, z1, z2, z3, z4, z5⟩ := hz _ HS.out.b
   obtain ⟨ap, eap, hp0⟩ := Kd.at_int (Kd.R_reads' HS.out.rp).2.2 (i : Int) (by omega) (by omega)
   have p5 : (0 ≤ (i : Int)) = True := eq_true (by omega)
   have p6 : ((i : Int) < (ps.length : Int)) = True := eq_true (by omega)
   have p7 : decide ((i : Int) < (ps.length : Int)) = true := decide_eq_true (by omega)
   have p8 : (0 ≤ (j : Int)) = True := eq_true (by omega)
   have p9 : ((j : Int) < (l0.length : Int)) = True := eq_true (by omega)
   have hp1 : rd ps (i : Int) = j := by rw [← hj]; simp [rd, List.getD, q1]
   rw [hp1, Int.toNat_natCast] at hp0
   cases ead
   cases eap
   have HJ := Am hjl
   have HE2 := Am HE1
   have HI1 := Am (show i < ps.length from q1)
   clear HE hj hd HE1 q1 hp1 hjl
   go_wp2
   obtain ⟨n, hn⟩ : ∃ n, l0.getD j z34 = n := ⟨_, rfl⟩
   obtain ⟨b, hbb⟩ : ∃ b, A.getD j z125 = b := ⟨_, rfl⟩
   obtain ⟨s, hss⟩ : ∃ s, B.getD j false = s := ⟨_, rfl⟩
   have hk := HKID.out j HJ.out
   have hE := ordL_at HE2.out hn hbb hss
   rw [hn] at hz hk
   have HSO := HS.out
   have HZ := Am hz
   have HBB := Am hbb
   have HSS := Am hss
   have HK := Am hk
   have HE3 := Am hE
   clear z0 z1 z2 z3 z4 z5 hz hn hbb hss hk hE HE2
   refine start_ (n := 12) (S := fun w' => Os w l0.length ga ca gs cs (some ap) cp ps A B w') (ds := [11]) #[false, false, false, false, false, false, false, false, false, false, false, false] (by kernel_rfl) rfl rfl (os_below HSO ((Below.refl _ _).drew)) (fun hHeld => ?_)
   have hO := hHeld
   refine pu 0 31 ?_
   refine pu 1 32 ?_
   refine pu 2 33 ?_
   refine ta 3 34 hHeld (hy := by
    intro w' hs
    obtain ⟨z0, z1, z2, z3, z4, z5⟩ := HZ.out _ hs.b
    go_simp
    with_reducible rfl) ?_
   refine pu 4 35 ?_
   refine pu 5 36 ?_
   refine pu 6 37 ?_
   refine ta 7 38 hHeld (hy := by
    intro w' hs
    obtain ⟨a0, a1, a2, a3⟩ := os_ab hs HJ.out HBB.out
    go_simp
    with_reducible rfl) ?_
   refine join_ (σ := Nat × Nat) 2 #[true, true, true, true, true, true, true, true, true, true, false, false] (fun s => [(9, .pointer (some ⟨s.1, 0, none⟩)), (10, .pointer (some ⟨s.2, 0, none⟩))]) (fun s w' => Ob w l0.length ga ca gs cs (some ap) cp ps A B s.1 s.2 #[.int .i64 0, .int .i64 0, .int .i64 0, .int .i64 0, .int .i64 0, .int .i64 0] #[.int .i64 0, .int .i64 0, .bool false, .bool false] w') ?_ ?_
   rotate_left
   ·intro hCont
    refine two_ (i := 8) (j := 9) (Ni := some 9) (Nj := some 10) #[true, true, true, true, true, true, true, true, true, false, false, false] #[true, true, true, true, true, true, true, true, false, true, false, false] rfl rfl rfl rfl (by kernel_rfl) (by decide) (by decide) (fun K hK => ?_) (fun K hK => ?_)
    ·refine box_step (by rfl) (N := 9) rfl (cs := #[.int .i64 0, .int .i64 0, .int .i64 0, .int .i64 0, .int .i64 0, .int .i64 0]) (t := 34) ?hr ?_
     case hr => first | (go_simp; done) | (go_simp; rfl)
     intro g9 hg9 wA kg9 bg9
     refine hK.out _ _ (os_below hHeld bg9) (fun hHeld => ?_)
     clear hK K
     refine norm_ (a' := ?_) ?_ ?_
     rotate_left
     ·show Act.put _ (some 9) _ = _
      simp only [Act.put, sI, sZ, sS, i64_w, i32_w]
      rfl
     refine one_ (i := 9) (N := some 10) #[true, true, true, true, true, true, true, true, true, true, false, false] rfl rfl (by kernel_rfl) (by decide) (fun K hK => ?_)
     refine box_step (by rfl) (N := 10) rfl (cs := #[.int .i64 0, .int .i64 0, .bool false, .bool false]) (t := 125) ?hr ?_
     case hr => first | (go_simp; done) | (go_simp; rfl)
     intro g10 hg10 wB kg10 bg10
     refine hK.out _ _ (os_below hHeld bg10) (fun hHeld => ?_)
     clear hK K
     refine norm_ (a' := ?_) ?_ ?_
     rotate_left
     ·show Act.put _ (some 10) _ = _
      simp only [Act.put, sI, sZ, sS, i64_w, i32_w]
      rfl
     exact norm_ (by simp only [putAll, Act.put, sI, sZ, sS]) (hCont (g9, g10) _ (ob_two hO HL0.out (bg9.trans (bg10.mono bg9.size)) (blk_below kg9 bg10) (kg10) (by have := bg9.size; omega) (by have := bg9.size; omega)))
    ·refine box_step (by rfl) (N := 10) rfl (cs := #[.int .i64 0, .int .i64 0, .bool false, .bool false]) (t := 125) ?hr ?_
     case hr => first | (go_simp; done) | (go_simp; rfl)
     intro g10 hg10 wA kg10 bg10
     refine hK.out _ _ (os_below hHeld bg10) (fun hHeld => ?_)
     clear hK K
     refine norm_ (a' := ?_) ?_ ?_
     rotate_left
     ·show Act.put _ (some 10) _ = _
      simp only [Act.put, sI, sZ, sS, i64_w, i32_w]
      rfl
     refine one_ (i := 8) (N := some 9) #[true, true, true, true, true, true, true, true, true, true, false, false] rfl rfl (by kernel_rfl) (by decide) (fun K hK => ?_)
     refine box_step (by rfl) (N := 9) rfl (cs := #[.int .i64 0, .int .i64 0, .int .i64 0, .int .i64 0, .int .i64 0, .int .i64 0]) (t := 34) ?hr ?_
     case hr => first | (go_simp; done) | (go_simp; rfl)
     intro g9 hg9 wB kg9 bg9
     refine hK.out _ _ (os_below hHeld bg9) (fun hHeld => ?_)
     clear hK K
     refine norm_ (a' := ?_) ?_ ?_
     rotate_left
     ·show Act.put _ (some 9) _ = _
      simp only [Act.put, sI, sZ, sS, i64_w, i32_w]
      rfl
     exact norm_ (by simp only [putAll, Act.put, sI, sZ, sS]) (hCont (g9, g10) _ (ob_two hO HL0.out (bg10.trans (bg9.mono bg10.size)) (kg9) (blk_below kg10 bg9) (by have := bg10.size; omega) (by have := bg10.size; omega)))
   rintro ⟨g9, g10⟩ w5 hOb
   replace hOb : Ob w l0.length ga ca gs cs (some ap) cp ps A B g9 g10 #[.int .i64 0, .int .i64 0, .int .i64 0, .int .i64 0, .int .i64 0, .int .i64 0] #[.int .i64 0, .int .i64 0, .bool false, .bool false] w5 := hOb
   obtain ⟨y0, y1, y2, y3, y4, y5, f0, f1, f2, f3, f4, f5⟩ := ob_cells9 hOb
   have HOb := Am hOb
   clear hOb
   refine norm_ (a' := ?_) ?_ ?_
   rotate_left
   ·simp only [putAll, Act.put, sI, sZ, sS]
    rfl
   refine one_ (i := 10) (N := none) #[true, true, true, true, true, true, true, true, true, true, true, false] rfl rfl (by kernel_rfl) (by decide) (fun K hK => ?_)
   refine skip_ (w1 := ?_) (by rfl) rfl ?_ ?_
   rotate_left
   ·go_simp
    rfl
   have hOb : Ob w l0.length ga ca gs cs (some ap) cp ps A B g9 g10 #[.int .i64 n.f0, .int .i64 n.f1, .int .i64 n.f2, .int .i64 n.f3, .int .i64 n.f4, .int .i64 n.f5] #[.int .i64 0, .int .i64 0, .bool false, .bool false] _ := ob_9 (ob_9 (ob_9 (ob_9 (ob_9 (ob_9 HOb.out 0 (.int .i64 n.f0)) 1 (.int .i64 n.f1)) 2 (.int .i64 n.f2)) 3 (.int .i64 n.f3)) 4 (.int .i64 n.f4)) 5 (.int .i64 n.f5)
   refine hK.out _ _ hOb.os (fun hHeld => ?_)
   clear hK K y0 y1 y2 y3 y4 y5 f0 f1 f2 f3 f4 f5 HOb hHeld
   refine gen_any (fun W => Ob w l0.length ga ca gs cs (some ap) cp ps A B g9 g10 #[.int .i64 n.f0, .int .i64 n.f1, .int .i64 n.f2, .int .i64 n.f3, .int .i64 n.f4, .int .i64 n.f5] #[.int .i64 0, .int .i64 0, .bool false, .bool false] W) hOb (fun w6 hOb => ?_)
   obtain ⟨y0, y1, y2, y3, f0, f1, f2, f3⟩ := ob_cells10 hOb
   have HOb := Am hOb
   clear hOb
   refine last_ (i := 11) (N := none) #[true, true, true, true, true, true, true, true, true, true, true, true] rfl rfl (by kernel_rfl) (by decide) (fun K hK => ?_)
   refine skip_ (w1 := ?_) (by rfl) rfl ?_ ?_
   rotate_left
   ·go_simp
    rfl
   have hOb : Ob w l0.length ga ca gs cs (some ap) cp ps A B g9 g10 #[.int .i64 n.f0, .int .i64 n.f1, .int .i64 n.f2, .int .i64 n.f3, .int .i64 n.f4, .int .i64 n.f5] #[.int .i64 b.f0, .int .i64 b.f1, .bool b.f2, .bool b.f3] _ := ob_10 (ob_10 (ob_10 (ob_10 HOb.out 0 (.int .i64 b.f0)) 1 (.int .i64 b.f1)) 2 (.bool b.f2)) 3 (.bool b.f3)
   refine hK.out _ _ ?_
   clear hK K y0 y1 y2 y3 f0 f1 f2 f3 HOb hO HS HSO
   refine done_ (by kernel_rfl) ?_
   refine gen_q (fun W => Ob w l0.length ga ca gs cs (some ap) cp ps A B g9 g10 #[.int .i64 n.f0, .int .i64 n.f1, .int .i64 n.f2, .int .i64 n.f3, .int .i64 n.f4, .int .i64 n.f5] #[.int .i64 b.f0, .int .i64 b.f1, .bool b.f2, .bool b.f3] W) hOb (fun w7 hOb => ?_)
   obtain ⟨y0, y1, y2, y3, y4, y5, -⟩ := ob_cells9 hOb
   obtain ⟨x0, x1, x2, x3, -⟩ := ob_cells10 hOb
   have HOb := Am hOb
   clear hOb
   go_wp2_with (fail)
   refine (table_isLeaf.calls _ _ _ _ _ _ _ _ (leaf_f n)).mono ?_
   rintro e w8 ⟨rfl, hb⟩
   have hOb := ob_below HOb.out hb
   clear hb y0 y1 y2 y3 y4 y5 x0 x1 x2 x3 HOb
   obtain ⟨y0, y1, y2, y3, y4, y5, -⟩ := ob_cells9 hOb
   obtain ⟨x0, x1, x2, x3, -⟩ := ob_cells10 hOb
   have sh := os_bb hOb.os HJ.out HSS.out
   have HOb := Am hOb
   clear hOb
   by_cases hlf : n.f4 = -1 ∧ n.f5 = -1
   ·rw [show decide (n.f4 = -1 ∧ n.f5 = -1) = true from decide_eq_true hlf]
    have hE := HE3.out.1 hlf
    clear HE3 HK
    cases h1 : (n.f1 == 0)
    ·have HE4 := Am (hE.2 (by simp [outB, h1]))
     go_wp2
     clear hE y0 y1 y2 y3 y4 y5 x0 x1 x2 x3 sh
     go_roundg kq1
     case measure => omega
     case rel => exact ⟨i + 1, A, B, by have := HI1.out; rw [Go.IntWalk.wrap64_in _ (by omega)]; rfl, ⟨by have := HI1.out; omega, by have := HI.out.2; omega⟩, ⟨HOb.out.os⟩, HE4⟩
    ·cases s
     ·cases h2 : b.f2
      ·rw [h2] at x2
       cases h3 : b.f3
       ·rw [h3] at x3
        have HE4 := Am (hE.2 (by simp [outB, h1, h3, h2]))
        go_wp2
        clear hE y0 y1 y2 y3 y4 y5 x0 x1 x2 x3 sh
        go_roundg kq1
        case measure => omega
        case rel => exact ⟨i + 1, A, B, by have := HI1.out; rw [Go.IntWalk.wrap64_in _ (by omega)]; rfl, ⟨by have := HI1.out; omega, by have := HI.out.2; omega⟩, ⟨HOb.out.os⟩, HE4⟩
       ·rw [h3] at x3
        cases h4 : decide (n.f0 ≥ b.f1)
        ·have HE4 := Am (hE.2 (by simp [outB, h1, h3, h2, of_decide_eq_false h4]))
         go_wp2
         clear hE y0 y1 y2 y3 y4 y5 x0 x1 x2 x3 sh
         go_roundg kq1
         case measure => omega
         case rel => exact ⟨i + 1, A, B, by have := HI1.out; rw [Go.IntWalk.wrap64_in _ (by omega)]; rfl, ⟨by have := HI1.out; omega, by have := HI.out.2; omega⟩, ⟨HOb.out.os⟩, HE4⟩
        ·have hE0 := hE.1 (by simp [outB, h1, h3, h2, of_decide_eq_true h4])
         clear hE
         go_wp2
         go_ret2
         exact ⟨by rw [HE00.out, hE0]; rfl, HOb.out.os.b⟩
      ·rw [h2] at x2
       cases h5 : decide (n.f0 < b.f0)
       ·cases h3 : b.f3
        ·rw [h3] at x3
         have HE4 := Am (hE.2 (by simp [outB, h1, h3, h2, of_decide_eq_false h5]))
         go_wp2
         clear hE y0 y1 y2 y3 y4 y5 x0 x1 x2 x3 sh
         go_roundg kq1
         case measure => omega
         case rel => exact ⟨i + 1, A, B, by have := HI1.out; rw [Go.IntWalk.wrap64_in _ (by omega)]; rfl, ⟨by have := HI1.out; omega, by have := HI.out.2; omega⟩, ⟨HOb.out.os⟩, HE4⟩
        ·rw [h3] at x3
         cases h4 : decide (n.f0 ≥ b.f1)
         ·have HE4 := Am (hE.2 (by simp [outB, h1, h3, h2, of_decide_eq_false h5, of_decide_eq_false h4]))
          go_wp2
          clear hE y0 y1 y2 y3 y4 y5 x0 x1 x2 x3 sh
          go_roundg kq1
          case measure => omega
          case rel => exact ⟨i + 1, A, B, by have := HI1.out; rw [Go.IntWalk.wrap64_in _ (by omega)]; rfl, ⟨by have := HI1.out; omega, by have := HI.out.2; omega⟩, ⟨HOb.out.os⟩, HE4⟩
         ·have hE0 := hE.1 (by simp [outB, h1, h3, h2, of_decide_eq_false h5, of_decide_eq_true h4])
          clear hE
          go_wp2
          go_ret2
          exact ⟨by rw [HE00.out, hE0]; rfl, HOb.out.os.b⟩
       ·have hE0 := hE.1 (by simp [outB, h1, h2, of_decide_eq_true h5])
        clear hE
        go_wp2
        go_ret2
        exact ⟨by rw [HE00.out, hE0]; rfl, HOb.out.os.b⟩
     ·have hE0 := hE.1 (by simp [outB, h1])
      clear hE
      go_wp2
      go_ret2
      exact ⟨by rw [HE00.out, hE0]; rfl, HOb.out.os.b⟩
   ·rw [show decide (n.f4 = -1 ∧ n.f5 = -1) = false from decide_eq_false hlf]
    have hE := HE3.out.2 hlf
    obtain ⟨ka, kb, e4, e5, la, lb⟩ := HK.out hlf
    rw [e4, e5, Int.toNat_natCast, Int.toNat_natCast] at hE
    have HE4 := Am hE
    have E4 := Am e4
    have E5 := Am e5
    have LA := Am la
    have LB := Am lb
    clear HE3 HK hE e4 e5 la lb hlf
    go_wp2
    clear y0 y1 y2 y3 y4 y5 x0 x1 x2 x3 sh
    refine start_ (n := 6) (S := fun w' => Ob w l0.length ga ca gs cs (some ap) cp ps A B g9 g10 #[.int .i64 n.f0, .int .i64 n.f1, .int .i64 n.f2, .int .i64 n.f3, .int .i64 n.f4, .int .i64 n.f5] #[.int .i64 b.f0, .int .i64 b.f1, .bool b.f2, .bool b.f3] w') (ds := [5]) #[false, false, false, false, false, false] (by kernel_rfl) rfl rfl (ob_below HOb.out ((Below.refl _ _).drew)) (fun hHeld => ?_)
    have hO := hHeld
    refine ta 0 72 hHeld (hy := by
     intro w' hs
     obtain ⟨x0, x1, x2, x3, -⟩ := ob_cells10 hs
     go_simp
     with_reducible rfl) ?_
    refine ta 1 73 hHeld (hy := by
     intro w' hs
     obtain ⟨x0, x1, x2, x3, -⟩ := ob_cells10 hs
     go_simp
     with_reducible rfl) ?_
    refine join_ (σ := Nat × Nat) 2 #[true, true, true, true, false, false] (fun s => [(11, .pointer (some ⟨s.1, 0, none⟩)), (12, .pointer (some ⟨s.2, 0, none⟩))]) (fun s w' => Oc w l0.length ga ca gs cs (some ap) cp ps A B g9 g10 s.1 s.2 #[.int .i64 n.f0, .int .i64 n.f1, .int .i64 n.f2, .int .i64 n.f3, .int .i64 n.f4, .int .i64 n.f5] #[.int .i64 b.f0, .int .i64 b.f1, .bool b.f2, .bool b.f3] #[.int .i64 0, .int .i64 0, .bool false, .bool false] #[.int .i64 0, .int .i64 0, .bool false, .bool false] w') ?_ ?_
    rotate_left
    ·intro hCont
     refine two_ (i := 2) (j := 3) (Ni := some 11) (Nj := some 12) #[true, true, true, false, false, false] #[true, true, false, true, false, false] rfl rfl rfl rfl (by kernel_rfl) (by decide) (by decide) (fun K hK => ?_) (fun K hK => ?_)
     ·refine box_step (by rfl) (N := 11) rfl (cs := #[.int .i64 0, .int .i64 0, .bool false, .bool false]) (t := 125) ?hr ?_
      case hr => first | (go_simp; done) | (go_simp; rfl)
      intro g11 hg11 wA kg11 bg11
      refine hK.out _ _ (ob_below hHeld bg11) (fun hHeld => ?_)
      clear hK K
      refine norm_ (a' := ?_) ?_ ?_
      rotate_left
      ·show Act.put _ (some 11) _ = _
       simp only [Act.put, sI, sZ, sS, i64_w, i32_w]
       rfl
      refine one_ (i := 3) (N := some 12) #[true, true, true, true, false, false] rfl rfl (by kernel_rfl) (by decide) (fun K hK => ?_)
      refine box_step (by rfl) (N := 12) rfl (cs := #[.int .i64 0, .int .i64 0, .bool false, .bool false]) (t := 125) ?hr ?_
      case hr => first | (go_simp; done) | (go_simp; rfl)
      intro g12 hg12 wB kg12 bg12
      refine hK.out _ _ (ob_below hHeld bg12) (fun hHeld => ?_)
      clear hK K
      refine norm_ (a' := ?_) ?_ ?_
      rotate_left
      ·show Act.put _ (some 12) _ = _
       simp only [Act.put, sI, sZ, sS, i64_w, i32_w]
       rfl
      exact norm_ (by simp only [putAll, Act.put, sI, sZ, sS]) (hCont (g11, g12) _ (oc_two hO HL0.out (bg11.trans (bg12.mono bg11.size)) (blk_below kg11 bg12) (kg12) (by have := bg11.size; omega) (by have := bg11.size; omega) (by have := blk_lt kg11; omega)))
     ·refine box_step (by rfl) (N := 12) rfl (cs := #[.int .i64 0, .int .i64 0, .bool false, .bool false]) (t := 125) ?hr ?_
      case hr => first | (go_simp; done) | (go_simp; rfl)
      intro g12 hg12 wA kg12 bg12
      refine hK.out _ _ (ob_below hHeld bg12) (fun hHeld => ?_)
      clear hK K
      refine norm_ (a' := ?_) ?_ ?_
      rotate_left
      ·show Act.put _ (some 12) _ = _
       simp only [Act.put, sI, sZ, sS, i64_w, i32_w]
       rfl
      refine one_ (i := 2) (N := some 11) #[true, true, true, true, false, false] rfl rfl (by kernel_rfl) (by decide) (fun K hK => ?_)
      refine box_step (by rfl) (N := 11) rfl (cs := #[.int .i64 0, .int .i64 0, .bool false, .bool false]) (t := 125) ?hr ?_
      case hr => first | (go_simp; done) | (go_simp; rfl)
      intro g11 hg11 wB kg11 bg11
      refine hK.out _ _ (ob_below hHeld bg11) (fun hHeld => ?_)
      clear hK K
      refine norm_ (a' := ?_) ?_ ?_
      rotate_left
      ·show Act.put _ (some 11) _ = _
       simp only [Act.put, sI, sZ, sS, i64_w, i32_w]
       rfl
      exact norm_ (by simp only [putAll, Act.put, sI, sZ, sS]) (hCont (g11, g12) _ (oc_two hO HL0.out (bg12.trans (bg11.mono bg12.size)) (kg11) (blk_below kg12 bg11) (by have := bg12.size; omega) (by have := bg12.size; omega) (by have := blk_lt kg12; omega)))
    rintro ⟨g11, g12⟩ w9 hOc
    replace hOc : Oc w l0.length ga ca gs cs (some ap) cp ps A B g9 g10 g11 g12 #[.int .i64 n.f0, .int .i64 n.f1, .int .i64 n.f2, .int .i64 n.f3, .int .i64 n.f4, .int .i64 n.f5] #[.int .i64 b.f0, .int .i64 b.f1, .bool b.f2, .bool b.f3] #[.int .i64 0, .int .i64 0, .bool false, .bool false] #[.int .i64 0, .int .i64 0, .bool false, .bool false] w9 := hOc
    obtain ⟨y0, y1, y2, y3, f0, f1, f2, f3⟩ := c4_of hOc.k11
    have HOc := Am hOc
    clear hOc
    refine norm_ (a' := ?_) ?_ ?_
    rotate_left
    ·simp only [putAll, Act.put, sI, sZ, sS]
     rfl
    refine one_ (i := 4) (N := none) #[true, true, true, true, true, false] rfl rfl (by kernel_rfl) (by decide) (fun K hK => ?_)
    refine skip_ (w1 := ?_) (by rfl) rfl ?_ ?_
    rotate_left
    ·go_simp
     rfl
    have hOc : Oc w l0.length ga ca gs cs (some ap) cp ps A B g9 g10 g11 g12 #[.int .i64 n.f0, .int .i64 n.f1, .int .i64 n.f2, .int .i64 n.f3, .int .i64 n.f4, .int .i64 n.f5] #[.int .i64 b.f0, .int .i64 b.f1, .bool b.f2, .bool b.f3] #[.int .i64 b.f0, .int .i64 b.f1, .bool b.f2, .bool b.f3] #[.int .i64 0, .int .i64 0, .bool false, .bool false] _ := oc_11 (oc_11 (oc_11 (oc_11 HOc.out 0 (.int .i64 b.f0)) 1 (.int .i64 b.f1)) 2 (.bool b.f2)) 3 (.bool b.f3)
    refine hK.out _ _ hOc.ob (fun hHeld => ?_)
    clear hK K y0 y1 y2 y3 f0 f1 f2 f3 HOc hHeld
    refine gen_any (fun W => Oc w l0.length ga ca gs cs (some ap) cp ps A B g9 g10 g11 g12 #[.int .i64 n.f0, .int .i64 n.f1, .int .i64 n.f2, .int .i64 n.f3, .int .i64 n.f4, .int .i64 n.f5] #[.int .i64 b.f0, .int .i64 b.f1, .bool b.f2, .bool b.f3] #[.int .i64 b.f0, .int .i64 b.f1, .bool b.f2, .bool b.f3] #[.int .i64 0, .int .i64 0, .bool false, .bool false] W) hOc (fun w10 hOc => ?_)
    obtain ⟨y0, y1, y2, y3, f0, f1, f2, f3⟩ := c4_of hOc.k12
    have HOc := Am hOc
    clear hOc
    refine last_ (i := 5) (N := none) #[true, true, true, true, true, true] rfl rfl (by kernel_rfl) (by decide) (fun K hK => ?_)
    refine skip_ (w1 := ?_) (by rfl) rfl ?_ ?_
    rotate_left
    ·go_simp
     rfl
    have hOc : Oc w l0.length ga ca gs cs (some ap) cp ps A B g9 g10 g11 g12 #[.int .i64 n.f0, .int .i64 n.f1, .int .i64 n.f2, .int .i64 n.f3, .int .i64 n.f4, .int .i64 n.f5] #[.int .i64 b.f0, .int .i64 b.f1, .bool b.f2, .bool b.f3] #[.int .i64 b.f0, .int .i64 b.f1, .bool b.f2, .bool b.f3] #[.int .i64 b.f0, .int .i64 b.f1, .bool b.f2, .bool b.f3] _ := oc_12 (oc_12 (oc_12 (oc_12 HOc.out 0 (.int .i64 b.f0)) 1 (.int .i64 b.f1)) 2 (.bool b.f2)) 3 (.bool b.f3)
    refine hK.out _ _ ?_
    clear hK K y0 y1 y2 y3 f0 f1 f2 f3 HOc hO HOb
    refine done_ (by kernel_rfl) ?_
    refine gen_q (fun W => Oc w l0.length ga ca gs cs (some ap) cp ps A B g9 g10 g11 g12 #[.int .i64 n.f0, .int .i64 n.f1, .int .i64 n.f2, .int .i64 n.f3, .int .i64 n.f4, .int .i64 n.f5] #[.int .i64 b.f0, .int .i64 b.f1, .bool b.f2, .bool b.f3] #[.int .i64 b.f0, .int .i64 b.f1, .bool b.f2, .bool b.f3] #[.int .i64 b.f0, .int .i64 b.f1, .bool b.f2, .bool b.f3] W) hOc (fun w11 hOc => ?_)
    obtain ⟨y0, y1, y2, y3, y4, y5, -⟩ := ob_cells9 hOc.ob
    obtain ⟨x0, x1, x2, x3, -⟩ := ob_cells10 hOc.ob
    obtain ⟨-, u1, -, u3, -, r1, -, r3⟩ := c4_of hOc.k11
    obtain ⟨v0, -, v2, -, s0, -, s2, -⟩ := c4_of hOc.k12
    have HOc := Am hOc
    clear hOc
    cases h1 : (n.f1 == 0)
    ·obtain ⟨hLB, hRB⟩ := lrB_no b h1
     go_wp2
     refine gen_wp (fun W => Oc w l0.length ga ca gs cs (some ap) cp ps A B g9 g10 g11 g12 #[.int .i64 n.f0, .int .i64 n.f1, .int .i64 n.f2, .int .i64 n.f3, .int .i64 n.f4, .int .i64 n.f5] #[.int .i64 b.f0, .int .i64 b.f1, .bool b.f2, .bool b.f3] #[.int .i64 (lB n b).f0, .int .i64 (lB n b).f1, .bool (lB n b).f2, .bool (lB n b).f3] #[.int .i64 (rB n b).f0, .int .i64 (rB n b).f1, .bool (rB n b).f2, .bool (rB n b).f3] W) (by
      rw [hLB, hRB]
      first | exact HOc.out | exact oc_11 (oc_11 HOc.out 1 _) 3 _ | exact oc_12 (oc_12 HOc.out 0 _) 2 _ | exact oc_12 (oc_12 (oc_11 (oc_11 HOc.out 1 _) 3 _) 0 _) 2 _) (fun w12 hOc => ?_)
     clear y0 y1 y2 y3 y4 y5 x0 x1 x2 x3 u1 u3 r1 r3 v0 v2 s0 s2 HOc hLB hRB
     have q1 : (0 ≤ (ka : Int)) = True := eq_true (by omega)
     have q2 : ((ka : Int) < (l0.length : Int)) = True := eq_true (by have := LA.out; omega)
     have q3 : (0 ≤ (kb : Int)) = True := eq_true (by omega)
     have q4 : ((kb : Int) < (l0.length : Int)) = True := eq_true (by have := LB.out; omega)
     as_aux_lemma =>
      refine start_ (n := 12) (S := fun w' => ∃ A', Oc w l0.length ga ca gs cs (some ap) cp ps A' B g9 g10 g11 g12 #[.int .i64 n.f0, .int .i64 n.f1, .int .i64 n.f2, .int .i64 n.f3, .int .i64 n.f4, .int .i64 n.f5] #[.int .i64 b.f0, .int .i64 b.f1, .bool b.f2, .bool b.f3] #[.int .i64 (lB n b).f0, .int .i64 (lB n b).f1, .bool (lB n b).f2, .bool (lB n b).f3] #[.int .i64 (rB n b).f0, .int .i64 (rB n b).f1, .bool (rB n b).f2, .bool (rB n b).f3] w') (ds := [11]) #[false, false, false, false, false, false, false, false, false, false, false, false] (by kernel_rfl) rfl rfl ⟨A, oc_below hOc ((Below.refl _ _).drew)⟩ (fun _ => ?_)
      refine gen_any (fun W => Oc w l0.length ga ca gs cs (some ap) cp ps A B g9 g10 g11 g12 #[.int .i64 n.f0, .int .i64 n.f1, .int .i64 n.f2, .int .i64 n.f3, .int .i64 n.f4, .int .i64 n.f5] #[.int .i64 b.f0, .int .i64 b.f1, .bool b.f2, .bool b.f3] #[.int .i64 (lB n b).f0, .int .i64 (lB n b).f1, .bool (lB n b).f2, .bool (lB n b).f3] #[.int .i64 (rB n b).f0, .int .i64 (rB n b).f1, .bool (rB n b).f2, .bool (rB n b).f3] W) (oc_below hOc ((Below.refl _ _).drew)) (fun wA hOc => ?_)
      have hHeld : ∃ A', Oc w l0.length ga ca gs cs (some ap) cp ps A' B g9 g10 g11 g12 #[.int .i64 n.f0, .int .i64 n.f1, .int .i64 n.f2, .int .i64 n.f3, .int .i64 n.f4, .int .i64 n.f5] #[.int .i64 b.f0, .int .i64 b.f1, .bool b.f2, .bool b.f3] #[.int .i64 (lB n b).f0, .int .i64 (lB n b).f1, .bool (lB n b).f2, .bool (lB n b).f3] #[.int .i64 (rB n b).f0, .int .i64 (rB n b).f1, .bool (rB n b).f2, .bool (rB n b).f3] wA := ⟨_, hOc⟩
      refine pu 0 105 ?_
      refine pu 1 106 ?_
      refine ta 2 107 hHeld (hy := by
       intro w' hs
       obtain ⟨_, hs⟩ := hs
       obtain ⟨-, -, -, -, y4, y5, -⟩ := ob_cells9 hs.ob
       rw [E4.out] at y4
       rw [E5.out] at y5
       go_simp
       with_reducible rfl) ?_
      refine pu 3 108 ?_
      refine pu 4 109 ?_
      refine ta 5 110 hHeld (hy := by
       intro w' hs
       obtain ⟨_, hs⟩ := hs
       obtain ⟨-, -, -, -, y4, y5, -⟩ := ob_cells9 hs.ob
       rw [E4.out] at y4
       rw [E5.out] at y5
       go_simp
       with_reducible rfl) ?_
      refine ta 6 111 hHeld (hy := by
       intro w' hs
       obtain ⟨_, hs⟩ := hs
       obtain ⟨x0, x1, x2, x3, -⟩ := c4_of hs.k11
       go_simp
       with_reducible rfl) ?_
      refine ta 7 112 hHeld (hy := by
       intro w' hs
       obtain ⟨_, hs⟩ := hs
       obtain ⟨x0, x1, x2, x3, -⟩ := c4_of hs.k12
       go_simp
       with_reducible rfl) ?_
      refine pu 8 113 ?_
      obtain ⟨a0, a1, a2, a3, f0, f1, f2, f3⟩ := os_a hOc.ob.os LA.out
      refine one_ (i := 9) (N := none) #[true, true, true, true, true, true, true, true, true, true, false, false] rfl rfl (by kernel_rfl) (by decide) (fun K hK => ?_)
      refine skip_ (w1 := ?_) (by rfl) rfl ?_ ?_
      rotate_left
      ·go_simp
       rfl
      replace hOc := oc_setA hOc LA.out (lB n b)
      refine hK.out _ _ ⟨_, hOc⟩ (fun hHeld => ?_)
      clear hK K a0 a1 a2 a3 f0 f1 f2 f3 hHeld
      refine gen_any (fun W => Oc w l0.length ga ca gs cs (some ap) cp ps (A.set ka (lB n b)) B g9 g10 g11 g12 #[.int .i64 n.f0, .int .i64 n.f1, .int .i64 n.f2, .int .i64 n.f3, .int .i64 n.f4, .int .i64 n.f5] #[.int .i64 b.f0, .int .i64 b.f1, .bool b.f2, .bool b.f3] #[.int .i64 (lB n b).f0, .int .i64 (lB n b).f1, .bool (lB n b).f2, .bool (lB n b).f3] #[.int .i64 (rB n b).f0, .int .i64 (rB n b).f1, .bool (rB n b).f2, .bool (rB n b).f3] W) hOc (fun w13 hOc => ?_)
      refine pu 10 114 ?_
      obtain ⟨a0, a1, a2, a3, f0, f1, f2, f3⟩ := os_a hOc.ob.os LB.out
      refine last_ (i := 11) (N := none) #[true, true, true, true, true, true, true, true, true, true, true, true] rfl rfl (by kernel_rfl) (by decide) (fun K hK => ?_)
      refine skip_ (w1 := ?_) (by rfl) rfl ?_ ?_
      rotate_left
      ·go_simp
       rfl
      replace hOc := oc_setA hOc LB.out (rB n b)
      refine hK.out _ _ ?_
      clear hK K a0 a1 a2 a3 f0 f1 f2 f3
      refine done_ (by kernel_rfl) ?_
      refine gen_q (fun W => Oc w l0.length ga ca gs cs (some ap) cp ps ((A.set ka (lB n b)).set kb (rB n b)) B g9 g10 g11 g12 #[.int .i64 n.f0, .int .i64 n.f1, .int .i64 n.f2, .int .i64 n.f3, .int .i64 n.f4, .int .i64 n.f5] #[.int .i64 b.f0, .int .i64 b.f1, .bool b.f2, .bool b.f3] #[.int .i64 (lB n b).f0, .int .i64 (lB n b).f1, .bool (lB n b).f2, .bool (lB n b).f3] #[.int .i64 (rB n b).f0, .int .i64 (rB n b).f1, .bool (rB n b).f2, .bool (rB n b).f3] W) hOc (fun w14 hOc => ?_)
      go_wp2
      refine start_ (n := 23) (S := fun w' => ∃ A' B', Oc w l0.length ga ca gs cs (some ap) cp ps A' B' g9 g10 g11 g12 #[.int .i64 n.f0, .int .i64 n.f1, .int .i64 n.f2, .int .i64 n.f3, .int .i64 n.f4, .int .i64 n.f5] #[.int .i64 b.f0, .int .i64 b.f1, .bool b.f2, .bool b.f3] #[.int .i64 (lB n b).f0, .int .i64 (lB n b).f1, .bool (lB n b).f2, .bool (lB n b).f3] #[.int .i64 (rB n b).f0, .int .i64 (rB n b).f1, .bool (rB n b).f2, .bool (rB n b).f3] w' ∧ B'.getD j false = s) (ds := [22]) #[false, false, false, false, false, false, false, false, false, false, false, false, false, false, false, false, false, false, false, false, false, false, false] (by kernel_rfl) rfl rfl ⟨_, B, oc_below hOc ((Below.refl _ _).drew), HSS.out⟩ (fun _ => ?_)
      refine gen_any (fun W => Oc w l0.length ga ca gs cs (some ap) cp ps ((A.set ka (lB n b)).set kb (rB n b)) B g9 g10 g11 g12 #[.int .i64 n.f0, .int .i64 n.f1, .int .i64 n.f2, .int .i64 n.f3, .int .i64 n.f4, .int .i64 n.f5] #[.int .i64 b.f0, .int .i64 b.f1, .bool b.f2, .bool b.f3] #[.int .i64 (lB n b).f0, .int .i64 (lB n b).f1, .bool (lB n b).f2, .bool (lB n b).f3] #[.int .i64 (rB n b).f0, .int .i64 (rB n b).f1, .bool (rB n b).f2, .bool (rB n b).f3] W) (oc_below hOc ((Below.refl _ _).drew)) (fun wB hOc => ?_)
      have hHeld : ∃ A' B', Oc w l0.length ga ca gs cs (some ap) cp ps A' B' g9 g10 g11 g12 #[.int .i64 n.f0, .int .i64 n.f1, .int .i64 n.f2, .int .i64 n.f3, .int .i64 n.f4, .int .i64 n.f5] #[.int .i64 b.f0, .int .i64 b.f1, .bool b.f2, .bool b.f3] #[.int .i64 (lB n b).f0, .int .i64 (lB n b).f1, .bool (lB n b).f2, .bool (lB n b).f3] #[.int .i64 (rB n b).f0, .int .i64 (rB n b).f1, .bool (rB n b).f2, .bool (rB n b).f3] wB ∧ B'.getD j false = s := ⟨_, B, hOc, HSS.out⟩
      refine pu 0 115 ?_
      refine pu 1 116 ?_
      refine ta 2 117 hHeld (hy := by
       intro w' hs
       obtain ⟨_, _, hs, hs2⟩ := hs
       obtain ⟨-, -, -, -, y4, y5, -⟩ := ob_cells9 hs.ob
       rw [E4.out] at y4
       rw [E5.out] at y5
       go_simp
       with_reducible rfl) ?_
      refine pu 3 118 ?_
      refine pu 4 119 ?_
      refine ta 5 120 hHeld (hy := by
       intro w' hs
       obtain ⟨_, _, hs, hs2⟩ := hs
       obtain ⟨-, -, -, -, y4, y5, -⟩ := ob_cells9 hs.ob
       rw [E4.out] at y4
       rw [E5.out] at y5
       go_simp
       with_reducible rfl) ?_
      refine pu 6 121 ?_
      refine pu 7 122 ?_
      refine pu 8 123 ?_
      refine ta 9 124 hHeld (hy := by
       intro w' hs
       obtain ⟨_, _, hs, hs2⟩ := hs
       have sh := os_bb hs.ob.os HJ.out hs2
       go_simp
       with_reducible rfl) ?_
      refine pu 10 125 ?_
      refine pu 11 126 ?_
      refine pu 12 127 ?_
      refine ta 13 128 hHeld (hy := by
       intro w' hs
       obtain ⟨_, _, hs, hs2⟩ := hs
       have sh := os_bb hs.ob.os HJ.out hs2
       go_simp
       with_reducible rfl) ?_
      refine pu 14 129 ?_
      cases s
      ·refine pu 15 130 ?_
       refine ta 16 131 hHeld (hy := by
        intro w' hs
        obtain ⟨_, _, hs, hs2⟩ := hs
        obtain ⟨-, y1, -⟩ := ob_cells9 hs.ob
        go_simp
        with_reducible rfl) ?_
       refine pu 17 132 ?_
       refine pu 18 133 ?_
       refine pu 19 134 ?_
       obtain ⟨a0, f0⟩ := os_b hOc.ob.os LA.out
       refine one_ (i := 20) (N := none) #[true, true, true, true, true, true, true, true, true, true, true, true, true, true, true, true, true, true, true, true, true, false, false] rfl rfl (by kernel_rfl) (by decide) (fun K hK => ?_)
       refine skip_ (w1 := ?_) (by rfl) rfl ?_ ?_
       rotate_left
       ·go_simp
        rfl
       replace hOc := oc_setB hOc LA.out false
       refine hK.out _ _ ⟨_, _, hOc, gd_set HSS.out⟩ (fun hHeld => ?_)
       clear hK K a0 f0 hHeld
       refine gen_any (fun W => Oc w l0.length ga ca gs cs (some ap) cp ps ((A.set ka (lB n b)).set kb (rB n b)) (B.set ka false) g9 g10 g11 g12 #[.int .i64 n.f0, .int .i64 n.f1, .int .i64 n.f2, .int .i64 n.f3, .int .i64 n.f4, .int .i64 n.f5] #[.int .i64 b.f0, .int .i64 b.f1, .bool b.f2, .bool b.f3] #[.int .i64 (lB n b).f0, .int .i64 (lB n b).f1, .bool (lB n b).f2, .bool (lB n b).f3] #[.int .i64 (rB n b).f0, .int .i64 (rB n b).f1, .bool (rB n b).f2, .bool (rB n b).f3] W) hOc (fun w15 hOc => ?_)
       refine pu 21 135 ?_
       obtain ⟨a0, f0⟩ := os_b hOc.ob.os LB.out
       refine last_ (i := 22) (N := none) #[true, true, true, true, true, true, true, true, true, true, true, true, true, true, true, true, true, true, true, true, true, true, true] rfl rfl (by kernel_rfl) (by decide) (fun K hK => ?_)
       refine skip_ (w1 := ?_) (by rfl) rfl ?_ ?_
       rotate_left
       ·go_simp
        rfl
       replace hOc := oc_setB hOc LB.out (n.f1 == 1)
       refine hK.out _ _ ?_
       clear hK K a0 f0
       refine done_ (by kernel_rfl) ?_
       refine gen_q (fun W => Oc w l0.length ga ca gs cs (some ap) cp ps ((A.set ka (lB n b)).set kb (rB n b)) ((B.set ka false).set kb (n.f1 == 1)) g9 g10 g11 g12 #[.int .i64 n.f0, .int .i64 n.f1, .int .i64 n.f2, .int .i64 n.f3, .int .i64 n.f4, .int .i64 n.f5] #[.int .i64 b.f0, .int .i64 b.f1, .bool b.f2, .bool b.f3] #[.int .i64 (lB n b).f0, .int .i64 (lB n b).f1, .bool (lB n b).f2, .bool (lB n b).f3] #[.int .i64 (rB n b).f0, .int .i64 (rB n b).f1, .bool (rB n b).f2, .bool (rB n b).f3] W) hOc (fun w16 hOc => ?_)
       go_wp2
       go_roundg kq1
       case measure => omega
       case rel => exact ⟨i + 1, _, _, by have := HI1.out; rw [Go.IntWalk.wrap64_in _ (by omega)]; rfl, ⟨by have := HI1.out; omega, by have := HI.out.2; omega⟩, ⟨hOc.ob.os⟩, HE4⟩
      ·refine po 15 130 ?_
       refine po 16 131 ?_
       refine po 17 132 ?_
       refine pu 18 133 ?_
       refine pu 19 134 ?_
       obtain ⟨a0, f0⟩ := os_b hOc.ob.os LA.out
       refine one_ (i := 20) (N := none) #[true, true, true, true, true, true, true, true, true, true, true, true, true, true, true, true, true, true, true, true, true, false, false] rfl rfl (by kernel_rfl) (by decide) (fun K hK => ?_)
       refine skip_ (w1 := ?_) (by rfl) rfl ?_ ?_
       rotate_left
       ·go_simp
        rfl
       replace hOc := oc_setB hOc LA.out true
       refine hK.out _ _ ⟨_, _, hOc, gd_set HSS.out⟩ (fun hHeld => ?_)
       clear hK K a0 f0 hHeld
       refine gen_any (fun W => Oc w l0.length ga ca gs cs (some ap) cp ps ((A.set ka (lB n b)).set kb (rB n b)) (B.set ka true) g9 g10 g11 g12 #[.int .i64 n.f0, .int .i64 n.f1, .int .i64 n.f2, .int .i64 n.f3, .int .i64 n.f4, .int .i64 n.f5] #[.int .i64 b.f0, .int .i64 b.f1, .bool b.f2, .bool b.f3] #[.int .i64 (lB n b).f0, .int .i64 (lB n b).f1, .bool (lB n b).f2, .bool (lB n b).f3] #[.int .i64 (rB n b).f0, .int .i64 (rB n b).f1, .bool (rB n b).f2, .bool (rB n b).f3] W) hOc (fun w15 hOc => ?_)
       refine pu 21 135 ?_
       obtain ⟨a0, f0⟩ := os_b hOc.ob.os LB.out
       refine last_ (i := 22) (N := none) #[true, true, true, true, true, true, true, true, true, true, true, true, true, true, true, true, true, true, true, true, true, true, true] rfl rfl (by kernel_rfl) (by decide) (fun K hK => ?_)
       refine skip_ (w1 := ?_) (by rfl) rfl ?_ ?_
       rotate_left
       ·go_simp
        rfl
       replace hOc := oc_setB hOc LB.out true
       refine hK.out _ _ ?_
       clear hK K a0 f0
       refine done_ (by kernel_rfl) ?_
       refine gen_q (fun W => Oc w l0.length ga ca gs cs (some ap) cp ps ((A.set ka (lB n b)).set kb (rB n b)) ((B.set ka true).set kb true) g9 g10 g11 g12 #[.int .i64 n.f0, .int .i64 n.f1, .int .i64 n.f2, .int .i64 n.f3, .int .i64 n.f4, .int .i64 n.f5] #[.int .i64 b.f0, .int .i64 b.f1, .bool b.f2, .bool b.f3] #[.int .i64 (lB n b).f0, .int .i64 (lB n b).f1, .bool (lB n b).f2, .bool (lB n b).f3] #[.int .i64 (rB n b).f0, .int .i64 (rB n b).f1, .bool (rB n b).f2, .bool (rB n b).f3] W) hOc (fun w16 hOc => ?_)
       go_wp2
       go_roundg kq1
       case measure => omega
       case rel => exact ⟨i + 1, _, _, by have := HI1.out; rw [Go.IntWalk.wrap64_in _ (by omega)]; rfl, ⟨by have := HI1.out; omega, by have := HI.out.2; omega⟩, ⟨hOc.ob.os⟩, HE4⟩
    ·rcases lB_cases h1 b with ⟨h3, hLB⟩ | ⟨h3, h4, hLB⟩ | ⟨h3, h4, hLB⟩ <;> rcases rB_cases h1 b with ⟨h2, hRB⟩ | ⟨h2, h5, hRB⟩ | ⟨h2, h5, hRB⟩
     all_goals
      rw [h3] at x3
      rw [h2] at x2
      go_wp2
      refine gen_wp (fun W => Oc w l0.length ga ca gs cs (some ap) cp ps A B g9 g10 g11 g12 #[.int .i64 n.f0, .int .i64 n.f1, .int .i64 n.f2, .int .i64 n.f3, .int .i64 n.f4, .int .i64 n.f5] #[.int .i64 b.f0, .int .i64 b.f1, .bool b.f2, .bool b.f3] #[.int .i64 (lB n b).f0, .int .i64 (lB n b).f1, .bool (lB n b).f2, .bool (lB n b).f3] #[.int .i64 (rB n b).f0, .int .i64 (rB n b).f1, .bool (rB n b).f2, .bool (rB n b).f3] W) (by
       rw [hLB, hRB]
       first | exact HOc.out | exact oc_11 (oc_11 HOc.out 1 _) 3 _ | exact oc_12 (oc_12 HOc.out 0 _) 2 _ | exact oc_12 (oc_12 (oc_11 (oc_11 HOc.out 1 _) 3 _) 0 _) 2 _) (fun w12 hOc => ?_)
      clear y0 y1 y2 y3 y4 y5 x0 x1 x2 x3 u1 u3 r1 r3 v0 v2 s0 s2 HOc hLB hRB
      have q1 : (0 ≤ (ka : Int)) = True := eq_true (by omega)
      have q2 : ((ka : Int) < (l0.length : Int)) = True := eq_true (by have := LA.out; omega)
      have q3 : (0 ≤ (kb : Int)) = True := eq_true (by omega)
      have q4 : ((kb : Int) < (l0.length : Int)) = True := eq_true (by have := LB.out; omega)
      as_aux_lemma =>
       refine start_ (n := 12) (S := fun w' => ∃ A', Oc w l0.length ga ca gs cs (some ap) cp ps A' B g9 g10 g11 g12 #[.int .i64 n.f0, .int .i64 n.f1, .int .i64 n.f2, .int .i64 n.f3, .int .i64 n.f4, .int .i64 n.f5] #[.int .i64 b.f0, .int .i64 b.f1, .bool b.f2, .bool b.f3] #[.int .i64 (lB n b).f0, .int .i64 (lB n b).f1, .bool (lB n b).f2, .bool (lB n b).f3] #[.int .i64 (rB n b).f0, .int .i64 (rB n b).f1, .bool (rB n b).f2, .bool (rB n b).f3] w') (ds := [11]) #[false, false, false, false, false, false, false, false, false, false, false, false] (by kernel_rfl) rfl rfl ⟨A, oc_below hOc ((Below.refl _ _).drew)⟩ (fun _ => ?_)
       refine gen_any (fun W => Oc w l0.length ga ca gs cs (some ap) cp ps A B g9 g10 g11 g12 #[.int .i64 n.f0, .int .i64 n.f1, .int .i64 n.f2, .int .i64 n.f3, .int .i64 n.f4, .int .i64 n.f5] #[.int .i64 b.f0, .int .i64 b.f1, .bool b.f2, .bool b.f3] #[.int .i64 (lB n b).f0, .int .i64 (lB n b).f1, .bool (lB n b).f2, .bool (lB n b).f3] #[.int .i64 (rB n b).f0, .int .i64 (rB n b).f1, .bool (rB n b).f2, .bool (rB n b).f3] W) (oc_below hOc ((Below.refl _ _).drew)) (fun wA hOc => ?_)
       have hHeld : ∃ A', Oc w l0.length ga ca gs cs (some ap) cp ps A' B g9 g10 g11 g12 #[.int .i64 n.f0, .int .i64 n.f1, .int .i64 n.f2, .int .i64 n.f3, .int .i64 n.f4, .int .i64 n.f5] #[.int .i64 b.f0, .int .i64 b.f1, .bool b.f2, .bool b.f3] #[.int .i64 (lB n b).f0, .int .i64 (lB n b).f1, .bool (lB n b).f2, .bool (lB n b).f3] #[.int .i64 (rB n b).f0, .int .i64 (rB n b).f1, .bool (rB n b).f2, .bool (rB n b).f3] wA := ⟨_, hOc⟩
       refine pu 0 105 ?_
       refine pu 1 106 ?_
       refine ta 2 107 hHeld (hy := by
        intro w' hs
        obtain ⟨_, hs⟩ := hs
        obtain ⟨-, -, -, -, y4, y5, -⟩ := ob_cells9 hs.ob
        rw [E4.out] at y4
        rw [E5.out] at y5
        go_simp
        with_reducible rfl) ?_
       refine pu 3 108 ?_
       refine pu 4 109 ?_
       refine ta 5 110 hHeld (hy := by
        intro w' hs
        obtain ⟨_, hs⟩ := hs
        obtain ⟨-, -, -, -, y4, y5, -⟩ := ob_cells9 hs.ob
        rw [E4.out] at y4
        rw [E5.out] at y5
        go_simp
        with_reducible rfl) ?_
       refine ta 6 111 hHeld (hy := by
        intro w' hs
        obtain ⟨_, hs⟩ := hs
        obtain ⟨x0, x1, x2, x3, -⟩ := c4_of hs.k11
        go_simp
        with_reducible rfl) ?_
       refine ta 7 112 hHeld (hy := by
        intro w' hs
        obtain ⟨_, hs⟩ := hs
        obtain ⟨x0, x1, x2, x3, -⟩ := c4_of hs.k12
        go_simp
        with_reducible rfl) ?_
       refine pu 8 113 ?_
       obtain ⟨a0, a1, a2, a3, f0, f1, f2, f3⟩ := os_a hOc.ob.os LA.out
       refine one_ (i := 9) (N := none) #[true, true, true, true, true, true, true, true, true, true, false, false] rfl rfl (by kernel_rfl) (by decide) (fun K hK => ?_)
       refine skip_ (w1 := ?_) (by rfl) rfl ?_ ?_
       rotate_left
       ·go_simp
        rfl
       replace hOc := oc_setA hOc LA.out (lB n b)
       refine hK.out _ _ ⟨_, hOc⟩ (fun hHeld => ?_)
       clear hK K a0 a1 a2 a3 f0 f1 f2 f3 hHeld
       refine gen_any (fun W => Oc w l0.length ga ca gs cs (some ap) cp ps (A.set ka (lB n b)) B g9 g10 g11 g12 #[.int .i64 n.f0, .int .i64 n.f1, .int .i64 n.f2, .int .i64 n.f3, .int .i64 n.f4, .int .i64 n.f5] #[.int .i64 b.f0, .int .i64 b.f1, .bool b.f2, .bool b.f3] #[.int .i64 (lB n b).f0, .int .i64 (lB n b).f1, .bool (lB n b).f2, .bool (lB n b).f3] #[.int .i64 (rB n b).f0, .int .i64 (rB n b).f1, .bool (rB n b).f2, .bool (rB n b).f3] W) hOc (fun w13 hOc => ?_)
       refine pu 10 114 ?_
       obtain ⟨a0, a1, a2, a3, f0, f1, f2, f3⟩ := os_a hOc.ob.os LB.out
       refine last_ (i := 11) (N := none) #[true, true, true, true, true, true, true, true, true, true, true, true] rfl rfl (by kernel_rfl) (by decide) (fun K hK => ?_)
       refine skip_ (w1 := ?_) (by rfl) rfl ?_ ?_
       rotate_left
       ·go_simp
        rfl
       replace hOc := oc_setA hOc LB.out (rB n b)
       refine hK.out _ _ ?_
       clear hK K a0 a1 a2 a3 f0 f1 f2 f3
       refine done_ (by kernel_rfl) ?_
       refine gen_q (fun W => Oc w l0.length ga ca gs cs (some ap) cp ps ((A.set ka (lB n b)).set kb (rB n b)) B g9 g10 g11 g12 #[.int .i64 n.f0, .int .i64 n.f1, .int .i64 n.f2, .int .i64 n.f3, .int .i64 n.f4, .int .i64 n.f5] #[.int .i64 b.f0, .int .i64 b.f1, .bool b.f2, .bool b.f3] #[.int .i64 (lB n b).f0, .int .i64 (lB n b).f1, .bool (lB n b).f2, .bool (lB n b).f3] #[.int .i64 (rB n b).f0, .int .i64 (rB n b).f1, .bool (rB n b).f2, .bool (rB n b).f3] W) hOc (fun w14 hOc => ?_)
       go_wp2
       refine start_ (n := 23) (S := fun w' => ∃ A' B', Oc w l0.length ga ca gs cs (some ap) cp ps A' B' g9 g10 g11 g12 #[.int .i64 n.f0, .int .i64 n.f1, .int .i64 n.f2, .int .i64 n.f3, .int .i64 n.f4, .int .i64 n.f5] #[.int .i64 b.f0, .int .i64 b.f1, .bool b.f2, .bool b.f3] #[.int .i64 (lB n b).f0, .int .i64 (lB n b).f1, .bool (lB n b).f2, .bool (lB n b).f3] #[.int .i64 (rB n b).f0, .int .i64 (rB n b).f1, .bool (rB n b).f2, .bool (rB n b).f3] w' ∧ B'.getD j false = s) (ds := [22]) #[false, false, false, false, false, false, false, false, false, false, false, false, false, false, false, false, false, false, false, false, false, false, false] (by kernel_rfl) rfl rfl ⟨_, B, oc_below hOc ((Below.refl _ _).drew), HSS.out⟩ (fun _ => ?_)
       refine gen_any (fun W => Oc w l0.length ga ca gs cs (some ap) cp ps ((A.set ka (lB n b)).set kb (rB n b)) B g9 g10 g11 g12 #[.int .i64 n.f0, .int .i64 n.f1, .int .i64 n.f2, .int .i64 n.f3, .int .i64 n.f4, .int .i64 n.f5] #[.int .i64 b.f0, .int .i64 b.f1, .bool b.f2, .bool b.f3] #[.int .i64 (lB n b).f0, .int .i64 (lB n b).f1, .bool (lB n b).f2, .bool (lB n b).f3] #[.int .i64 (rB n b).f0, .int .i64 (rB n b).f1, .bool (rB n b).f2, .bool (rB n b).f3] W) (oc_below hOc ((Below.refl _ _).drew)) (fun wB hOc => ?_)
       have hHeld : ∃ A' B', Oc w l0.length ga ca gs cs (some ap) cp ps A' B' g9 g10 g11 g12 #[.int .i64 n.f0, .int .i64 n.f1, .int .i64 n.f2, .int .i64 n.f3, .int .i64 n.f4, .int .i64 n.f5] #[.int .i64 b.f0, .int .i64 b.f1, .bool b.f2, .bool b.f3] #[.int .i64 (lB n b).f0, .int .i64 (lB n b).f1, .bool (lB n b).f2, .bool (lB n b).f3] #[.int .i64 (rB n b).f0, .int .i64 (rB n b).f1, .bool (rB n b).f2, .bool (rB n b).f3] wB ∧ B'.getD j false = s := ⟨_, B, hOc, HSS.out⟩
       refine pu 0 115 ?_
       refine pu 1 116 ?_
       refine ta 2 117 hHeld (hy := by
        intro w' hs
        obtain ⟨_, _, hs, hs2⟩ := hs
        obtain ⟨-, -, -, -, y4, y5, -⟩ := ob_cells9 hs.ob
        rw [E4.out] at y4
        rw [E5.out] at y5
        go_simp
        with_reducible rfl) ?_
       refine pu 3 118 ?_
       refine pu 4 119 ?_
       refine ta 5 120 hHeld (hy := by
        intro w' hs
        obtain ⟨_, _, hs, hs2⟩ := hs
        obtain ⟨-, -, -, -, y4, y5, -⟩ := ob_cells9 hs.ob
        rw [E4.out] at y4
        rw [E5.out] at y5
        go_simp
        with_reducible rfl) ?_
       refine pu 6 121 ?_
       refine pu 7 122 ?_
       refine pu 8 123 ?_
       refine ta 9 124 hHeld (hy := by
        intro w' hs
        obtain ⟨_, _, hs, hs2⟩ := hs
        have sh := os_bb hs.ob.os HJ.out hs2
        go_simp
        with_reducible rfl) ?_
       refine pu 10 125 ?_
       refine pu 11 126 ?_
       refine pu 12 127 ?_
       refine ta 13 128 hHeld (hy := by
        intro w' hs
        obtain ⟨_, _, hs, hs2⟩ := hs
        have sh := os_bb hs.ob.os HJ.out hs2
        go_simp
        with_reducible rfl) ?_
       refine pu 14 129 ?_
       cases s
       ·refine pu 15 130 ?_
        refine ta 16 131 hHeld (hy := by
         intro w' hs
         obtain ⟨_, _, hs, hs2⟩ := hs
         obtain ⟨-, y1, -⟩ := ob_cells9 hs.ob
         go_simp
         with_reducible rfl) ?_
        refine pu 17 132 ?_
        refine pu 18 133 ?_
        refine pu 19 134 ?_
        obtain ⟨a0, f0⟩ := os_b hOc.ob.os LA.out
        refine one_ (i := 20) (N := none) #[true, true, true, true, true, true, true, true, true, true, true, true, true, true, true, true, true, true, true, true, true, false, false] rfl rfl (by kernel_rfl) (by decide) (fun K hK => ?_)
        refine skip_ (w1 := ?_) (by rfl) rfl ?_ ?_
        rotate_left
        ·go_simp
         rfl
        replace hOc := oc_setB hOc LA.out false
        refine hK.out _ _ ⟨_, _, hOc, gd_set HSS.out⟩ (fun hHeld => ?_)
        clear hK K a0 f0 hHeld
        refine gen_any (fun W => Oc w l0.length ga ca gs cs (some ap) cp ps ((A.set ka (lB n b)).set kb (rB n b)) (B.set ka false) g9 g10 g11 g12 #[.int .i64 n.f0, .int .i64 n.f1, .int .i64 n.f2, .int .i64 n.f3, .int .i64 n.f4, .int .i64 n.f5] #[.int .i64 b.f0, .int .i64 b.f1, .bool b.f2, .bool b.f3] #[.int .i64 (lB n b).f0, .int .i64 (lB n b).f1, .bool (lB n b).f2, .bool (lB n b).f3] #[.int .i64 (rB n b).f0, .int .i64 (rB n b).f1, .bool (rB n b).f2, .bool (rB n b).f3] W) hOc (fun w15 hOc => ?_)
        refine pu 21 135 ?_
        obtain ⟨a0, f0⟩ := os_b hOc.ob.os LB.out
        refine last_ (i := 22) (N := none) #[true, true, true, true, true, true, true, true, true, true, true, true, true, true, true, true, true, true, true, true, true, true, true] rfl rfl (by kernel_rfl) (by decide) (fun K hK => ?_)
        refine skip_ (w1 := ?_) (by rfl) rfl ?_ ?_
        rotate_left
        ·go_simp
         rfl
        replace hOc := oc_setB hOc LB.out (n.f1 == 1)
        refine hK.out _ _ ?_
        clear hK K a0 f0
        refine done_ (by kernel_rfl) ?_
        refine gen_q (fun W => Oc w l0.length ga ca gs cs (some ap) cp ps ((A.set ka (lB n b)).set kb (rB n b)) ((B.set ka false).set kb (n.f1 == 1)) g9 g10 g11 g12 #[.int .i64 n.f0, .int .i64 n.f1, .int .i64 n.f2, .int .i64 n.f3, .int .i64 n.f4, .int .i64 n.f5] #[.int .i64 b.f0, .int .i64 b.f1, .bool b.f2, .bool b.f3] #[.int .i64 (lB n b).f0, .int .i64 (lB n b).f1, .bool (lB n b).f2, .bool (lB n b).f3] #[.int .i64 (rB n b).f0, .int .i64 (rB n b).f1, .bool (rB n b).f2, .bool (rB n b).f3] W) hOc (fun w16 hOc => ?_)
        go_wp2
        go_roundg kq1
        case measure => omega
        case rel => exact ⟨i + 1, _, _, by have := HI1.out; rw [Go.IntWalk.wrap64_in _ (by omega)]; rfl, ⟨by have := HI1.out; omega, by have := HI.out.2; omega⟩, ⟨hOc.ob.os⟩, HE4⟩
       ·refine po 15 130 ?_
        refine po 16 131 ?_
        refine po 17 132 ?_
        refine pu 18 133 ?_
        refine pu 19 134 ?_
        obtain ⟨a0, f0⟩ := os_b hOc.ob.os LA.out
        refine one_ (i := 20) (N := none) #[true, true, true, true, true, true, true, true, true, true, true, true, true, true, true, true, true, true, true, true, true, false, false] rfl rfl (by kernel_rfl) (by decide) (fun K hK => ?_)
        refine skip_ (w1 := ?_) (by rfl) rfl ?_ ?_
        rotate_left
        ·go_simp
         rfl
        replace hOc := oc_setB hOc LA.out true
        refine hK.out _ _ ⟨_, _, hOc, gd_set HSS.out⟩ (fun hHeld => ?_)
        clear hK K a0 f0 hHeld
        refine gen_any (fun W => Oc w l0.length ga ca gs cs (some ap) cp ps ((A.set ka (lB n b)).set kb (rB n b)) (B.set ka true) g9 g10 g11 g12 #[.int .i64 n.f0, .int .i64 n.f1, .int .i64 n.f2, .int .i64 n.f3, .int .i64 n.f4, .int .i64 n.f5] #[.int .i64 b.f0, .int .i64 b.f1, .bool b.f2, .bool b.f3] #[.int .i64 (lB n b).f0, .int .i64 (lB n b).f1, .bool (lB n b).f2, .bool (lB n b).f3] #[.int .i64 (rB n b).f0, .int .i64 (rB n b).f1, .bool (rB n b).f2, .bool (rB n b).f3] W) hOc (fun w15 hOc => ?_)
        refine pu 21 135 ?_
        obtain ⟨a0, f0⟩ := os_b hOc.ob.os LB.out
        refine last_ (i := 22) (N := none) #[true, true, true, true, true, true, true, true, true, true, true, true, true, true, true, true, true, true, true, true, true, true, true] rfl rfl (by kernel_rfl) (by decide) (fun K hK => ?_)
        refine skip_ (w1 := ?_) (by rfl) rfl ?_ ?_
        rotate_left
        ·go_simp
         rfl
        replace hOc := oc_setB hOc LB.out true
        refine hK.out _ _ ?_
        clear hK K a0 f0
        refine done_ (by kernel_rfl) ?_
        refine gen_q (fun W => Oc w l0.length ga ca gs cs (some ap) cp ps ((A.set ka (lB n b)).set kb (rB n b)) ((B.set ka true).set kb true) g9 g10 g11 g12 #[.int .i64 n.f0, .int .i64 n.f1, .int .i64 n.f2, .int .i64 n.f3, .int .i64 n.f4, .int .i64 n.f5] #[.int .i64 b.f0, .int .i64 b.f1, .bool b.f2, .bool b.f3] #[.int .i64 (lB n b).f0, .int .i64 (lB n b).f1, .bool (lB n b).f2, .bool (lB n b).f3] #[.int .i64 (rB n b).f0, .int .i64 (rB n b).f1, .bool (rB n b).f2, .bool (rB n b).f3] W) hOc (fun w16 hOc => ?_)
        go_wp2
        go_roundg kq1
        case measure => omega
        case rel => exact ⟨i + 1, _, _, by have := HI1.out; rw [Go.IntWalk.wrap64_in _ (by omega)]; rfl, ⟨by have := HI1.out; omega, by have := HI.out.2; omega⟩, ⟨hOc.ob.os⟩, HE4⟩
  ·have p7 : decide ((i : Int) < (ps.length : Int)) = false := decide_eq_false (by omega)
   have hE := HE.out
   rw [List.drop_eq_nil_of_le (by omega), ordL] at hE
   have hb := HS.out.b
   clear HE HS
   go_wp2
   go_ret2
   exact ⟨by rw [HE00.out, ← hE]; rfl, hb⟩
end Go.Proofs.Ytgleaefhflamnaa.T
/- awake: by hand, for the one table that it asks about. -/
namespace Go.Proofs.Ytgleaefhflamnaa.T
open Go.RowKit Go.Proofs.YtgleaefhflamnaaW.PrintWords Go.Proofs.YtgleaefhflamnaaW.PrintLast Go.Proofs.YtgleaefhflamnaaW.PrintMore
set_option linter.unusedVariables false
set_option linter.unusedSimpArgs false
theorem heap_alloc_at {W : World} {n : Nat} (h : W.heap.size = n) (o : Obj) : (W.alloc o).heap[n]? = some o := by subst h; exact heap_alloc_new W o
def someL (x y : Int) : List S34 := [⟨0, 1, 1, 0, 1, 6⟩, ⟨0, 1, 1, 0, 2, 5⟩, ⟨2, 0, 1, 0, 3, 4⟩, ⟨1, 0, x, 0, -1, -1⟩, ⟨2, 0, y, 0, -1, -1⟩, ⟨0, 1, 1, 0, -1, -1⟩, ⟨0, 1, 1, 0, -1, -1⟩]
set_option maxHeartbeats 4000000 in
set_option maxRecDepth 100000 in
theorem some_any (w : World) : Calls Try.prog 40 #[] w fun e w' => ∃ g, e = .returned (.tuple #[.slice (some ⟨g, 0, none⟩) 7 7, .int .i64 2]) ∧ w.heap.size ≤ g ∧ w'.heap[g]? = some (.cells (rowL (someL 2 2)).toArray 34 (0, 0)) ∧ Below w.heap.size w w' := by
 have hu34 := Try.underlying34
 go_enter Try.func40, Try.ntmps40
 go_wp2
 go_ret2
 exact ⟨_, rfl, by omega, heap_alloc_at (by simp) _, ba (ba (ba (ba (Below.refl _ _) _) _) _) _⟩
theorem some_R {W : World} {base g : Nat} {x y : Int} (h : W.heap[g]? = some (.cells (rowL (someL x y)).toArray 34 (0, 0))) (hg : base ≤ g) : Kd.R k34 34 W base (fun _ => True) (.slice (some ⟨g, 0, none⟩) 7 7) (someL x y) := by
 have hl : (rowL (someL x y)).length = 7 * 6 := rowL_len _
 refine row_R (xs := someL x y) ⟨hl, .inr ⟨g, 7, (rowL (someL x y)).toArray, rfl, hg, h, Nat.le_refl _, by simp [maxLen], by rw [List.size_toArray]; exact hl, ?_⟩⟩
 exact List.take_of_length_le (Nat.le_of_eq hl)
theorem wake_do : ∃ k, steps_Do.f k (someL 2 2) 2 11 false = some (someL 1 1, 0) ∧ larchref18_SameTable.f k (someL 1 1) (someL 1 1) = some true := ⟨30, by kernel_rfl, by kernel_rfl⟩
set_option maxHeartbeats 4000000 in
set_option maxRecDepth 100000 in
theorem awake_any (w : World) : Calls Try.prog 10 #[] w fun e w' => e = .returned (.bool true) ∧ Below w.heap.size w w' := by
 obtain ⟨k, h1, h2⟩ := wake_do
 have H1 := Am h1
 have H2 := Am h2
 clear h1 h2
 go_enter Try.func10, Try.ntmps10
 go_wp2_with (fail)
 refine (some_any _).mono ?_
 rintro e w1 ⟨g, rfl, hg, hk, hb⟩
 have HG := Am hg
 have HK := Am hk
 have HB := Am hb
 clear hg hk hb
 go_wp2_with (fail)
 refine (steps_Do.calls k (some ⟨g, 0, none⟩) 7 (someL 2 2) 2 11 false _ 0 _ (Kd.R_reads' (some_R HK.out (Nat.le_refl _))).2.2 (Nat.le_refl _) H1.out).mono ?_
 rintro e w2 ⟨v2, rfl, ho, hb⟩
 obtain ⟨ga, ca, rfl, hga, -, -⟩ := Kd.R_form ho (by decide)
 have hlt := blk_lt HK.out
 have HO := Am ho
 have hk := (hb.block g hlt).trans HK.out
 have HB2 := Am (HB.out.trans (hb.mono HB.out.size))
 have z3 : w2.cell? ⟨g, 20, none⟩ = some (.int .i64 2) := (cell_of hk 20).trans rfl
 have z4 : w2.cell? ⟨g, 26, none⟩ = some (.int .i64 2) := (cell_of hk 26).trans rfl
 have f3 := frz_of hk 20
 have f4 := frz_of hk 26
 have HK2 := Am hk
 have HN := Am (show g ≠ ga by omega)
 clear ho hb hk HB HK hga
 go_wp2_with (fail)
 have hA := Kd.R_drop (Kd.R_far (p := ⟨g, 26, none⟩) (Kd.R_far1 (Kd.R_drop (Kd.R_far (p := ⟨g, 20, none⟩) (Kd.R_far1 HO.out rfl (g := g) (by simpa [Value.ownBlock] using HN.out)) (fun _ hk => hk.2) (.int .i64 1))) rfl (g := g) (by simpa [Value.ownBlock] using HN.out)) (fun _ hk => hk.2) (.int .i64 1))
 have hk := blk_set (blk_set HK2.out 20 (.int .i64 1)) 26 (.int .i64 1)
 refine (larchref18_SameTable.calls k (some ⟨ga, 0, none⟩) ca (someL 1 1) (some ⟨g, 0, none⟩) 7 (someL 1 1) true _ (Kd.R_reads' hA).2.2 (Kd.R_reads' hA).2.1 (Kd.R_reads' (some_R (x := 1) (y := 1) hk HG.out)).2.2 (Nat.le_refl _) H2.out).mono ?_
 rintro e w4 ⟨rfl, m, rfl⟩
 go_wp2
 go_ret
 exact ⟨rfl, bn (below_set (below_set HB2.out HG.out) HG.out) _⟩
end Go.Proofs.Ytgleaefhflamnaa.T
/- The law StepsLeaves, walked. -/
namespace Go.Proofs.Ytgleaefhflamnaa.T
open Go.RowKit Go.Proofs.YtgleaefhflamnaaW.PrintWords Go.Proofs.YtgleaefhflamnaaW.PrintLast Go.Proofs.YtgleaefhflamnaaW.PrintMore
set_option linter.unusedVariables false
set_option linter.unusedSimpArgs false
set_option maxHeartbeats 4000000 in
set_option maxRecDepth 100000 in
theorem leaves_no (k : Nat) (A0 : Option Addr) (c0 : Nat) (l0 : List S34) (a1 kind : Int) (mir : Bool) (w : World) (hr0 : Kd.C k34 w A0 l0.length l0) (hc0 : l0.length ≤ c0)
  (hd : larchlaw18_done.f k l0 a1 kind mir = some ([], false)) :
  Calls Try.prog 9 #[.slice A0 l0.length c0, .int .i64 a1, .agg #[.int .i64 kind, .bool mir]] w fun e w' => e = .returned (.bool true) ∧ Below w.heap.size w w' := by
 have hu24 := Try.underlying24
 have HR0 := Am hr0
 have HC0 := Am hc0
 have HD := Am hd
 clear hr0 hc0 hd
 go_enter Try.func9, Try.ntmps9
 go_wp2_with (fail)
 refine (awake_any _).mono ?_
 rintro e w1 ⟨rfl, hb⟩
 have hb0 : Below w.heap.size w w1 := ((Below.refl _ _).alloc (Nat.le_refl _) _).trans (hb.mono (by simp))
 have hbk : w1.heap[w.heap.size]? = some (.cells #[.int .i64 kind, .bool mir] 24 (0, 0)) := by rw [hb.block _ (by simp)]; exact heap_alloc_new w _
 have HB := Am hb0
 have z0 : w1.cell? ⟨w.heap.size, 0, none⟩ = some (.int .i64 kind) := (cell_of hbk 0).trans rfl
 have z1 : w1.cell? ⟨w.heap.size, 1, none⟩ = some (.bool mir) := (cell_of hbk 1).trans rfl
 clear hb hb0 hbk
 go_wp2_with (fail)
 refine (larchlaw18_done.calls k A0 c0 l0 a1 kind mir [] false _ (Kd.C_below HR0.out HB.out) HC0.out HD.out).mono ?_
 rintro e w2 ⟨v2, rfl, ho, hb⟩
 obtain ⟨A2, c2, rfl⟩ := Kd.R_slice ho
 have HB2 := Am (HB.out.trans (hb.mono HB.out.size))
 clear ho hb z0 z1
 go_wp2
 go_ret
 exact ⟨rfl, HB2.out⟩
theorem eqA78 (d : Nat) (w : World) (x0 y0 : Int) (x1 y1 : Int) :
  (Op.equalIn (d + 2) 78 (.agg #[.int .i64 x0, .int .i64 x1]) (.agg #[.int .i64 y0, .int .i64 y1])).run Try.prog w = .ok (x0 == y0 && (x1 == y1)) w := by
 refine eqA_of Try.underlying78 (by kernel_rfl) ?_
 refine eqf_cons (by rfl) (by go_simp; rfl) (by go_simp; rfl) (by go_simp) ?_
 exact eqf_last (by rfl) (by go_simp; rfl) (by go_simp; rfl) (by go_simp)
attribute [local go_sem high] eqA78
theorem bel_t {w w1 w2 : World} (h : Below w.heap.size w w1) (hb : Below w1.heap.size w1 w2) : Below w.heap.size w w2 := h.trans (hb.mono h.size)
set_option maxHeartbeats 8000000 in
set_option maxRecDepth 100000 in
theorem leaves_full (k : Nat) (A0 : Option Addr) (c0 : Nat) (l0 : List S34) (a1 kind : Int) (mir : Bool) (w : World) (hr0 : Kd.C k34 w A0 l0.length l0) (hc0 : l0.length ≤ c0) (r1 : List S34)
  (hd : larchlaw18_done.f k l0 a1 kind mir = some (r1, true)) (hn : table_Norm.f k r1 = some (r1, 0)) (P : List S78) (hp : table_Pairs.f k l0 = some (P, 0)) (hq : table_Pairs.f k r1 = some (P, 0)) (hP : P.length ≤ 1000000)
  (a b : Bool) (hab : a = false ∨ b = true)
  (ho0 : ∀ A c W, Kd.C k34 W A l0.length l0 → l0.length ≤ c → Calls Try.prog 37 #[.slice A l0.length c] W fun e w' => e = .returned (.tuple #[.bool a, .int .i64 0]) ∧ Below W.heap.size W w')
  (ho1 : ∀ A c W, Kd.C k34 W A r1.length r1 → r1.length ≤ c → Calls Try.prog 37 #[.slice A r1.length c] W fun e w' => e = .returned (.tuple #[.bool b, .int .i64 0]) ∧ Below W.heap.size W w')
  (s q : Int) (h6 : table_Root.f k r1 = some (s, 0)) (h7 : larchref18_SameTable.f k r1 r1 = some true) (h8 : table_Root.f k l0 = some (q, 0)) (hl : r1.length = l0.length) (v : List S34) (h9 : table_Sub.f k r1 s = some (v, 0)) (h10 : table_Graft.f k l0 q v = some (r1, 0)) :
  Calls Try.prog 9 #[.slice A0 l0.length c0, .int .i64 a1, .agg #[.int .i64 kind, .bool mir]] w fun e w' => e = .returned (.bool true) ∧ Below w.heap.size w w' := by
 have hu24 := Try.underlying24
 have hu78 := Try.underlying78
 have HR0 := Am hr0
 have HC0 := Am hc0
 have HD := Am hd
 have HN := Am hn
 have HP := Am hp
 have HQ := Am hq
 have HPL := Am hP
 have HO0 := Am ho0
 have HO1 := Am ho1
 have H6 := Am h6
 have H7 := Am h7
 have H8 := Am h8
 have HL := Am hl
 have H9 := Am h9
 have H10 := Am h10
 clear hr0 hc0 hd hn hp hq hP ho0 ho1 h6 h7 h8 hl h9 h10
 go_enter Try.func9, Try.ntmps9
 go_wp2_with (fail)
 refine (awake_any _).mono ?_
 rintro e w1 ⟨rfl, hb⟩
 have hb0 : Below w.heap.size w w1 := ((Below.refl _ _).alloc (Nat.le_refl _) _).trans (hb.mono (by simp))
 have hbk : w1.heap[w.heap.size]? = some (.cells #[.int .i64 kind, .bool mir] 24 (0, 0)) := by rw [hb.block _ (by simp)]; exact heap_alloc_new w _
 have HB := Am hb0
 have z0 : w1.cell? ⟨w.heap.size, 0, none⟩ = some (.int .i64 kind) := (cell_of hbk 0).trans rfl
 have z1 : w1.cell? ⟨w.heap.size, 1, none⟩ = some (.bool mir) := (cell_of hbk 1).trans rfl
 clear hb hb0 hbk
 go_wp2_with (fail)
 refine (larchlaw18_done.calls k A0 c0 l0 a1 kind mir r1 true _ (Kd.C_below HR0.out HB.out) HC0.out HD.out).mono ?_
 clear z0 z1
 rintro e w2 ⟨v2, rfl, ho, hb⟩
 obtain ⟨A2, c2, rfl⟩ := Kd.R_slice ho
 have HU2 := Am (Kd.R_lower ho HB.out.size)
 have HB2 := Am (bel_t HB.out hb)
 clear ho hb HB
 go_wp2_with (fail)
 refine (table_Norm.calls k A2 c2 r1 r1 0 _ (Kd.R_reads' HU2.out).2.2 (Kd.R_reads' HU2.out).2.1 HN.out).mono ?_
 rintro e w3 ⟨v3, rfl, ho, hb⟩
 obtain ⟨A3, c3, rfl⟩ := Kd.R_slice ho
 have HV3 := Am (Kd.R_lower ho HB2.out.size)
 have HU3 := Am (Kd.R_below HU2.out hb)
 have HB3 := Am (bel_t HB2.out hb)
 clear ho hb HU2 HB2
 go_wp2_with (fail)
 refine (table_Pairs.calls k A0 c0 l0 P 0 _ (Kd.C_below HR0.out HB3.out) HC0.out HP.out).mono ?_
 rintro e w4 ⟨v4, rfl, ho, hb⟩
 obtain ⟨A4, c4, rfl⟩ := Kd.R_slice ho
 have HX4 := Am (Kd.R_lower ho HB3.out.size)
 have HV4 := Am (Kd.R_below HV3.out hb)
 have HU4 := Am (Kd.R_below HU3.out hb)
 have HB4 := Am (bel_t HB3.out hb)
 clear ho hb HU3 HV3 HB3
 go_wp2_with (fail)
 refine (table_Pairs.calls k A2 c2 r1 P 0 _ (Kd.R_reads' HU4.out).2.2 (Kd.R_reads' HU4.out).2.1 HQ.out).mono ?_
 rintro e w5 ⟨v5, rfl, ho, hb⟩
 obtain ⟨A5, c5, rfl⟩ := Kd.R_slice ho
 have HY5 := Am (Kd.R_lower ho HB4.out.size)
 have HX5 := Am (Kd.R_below HX4.out hb)
 have HV5 := Am (Kd.R_below HV4.out hb)
 have HU5 := Am (Kd.R_below HU4.out hb)
 have HB5 := Am (bel_t HB4.out hb)
 clear ho hb HU4 HV4 HX4 HB4
 go_wp2_with (fail)
 refine (HO0.out A0 c0 _ (Kd.C_below HR0.out HB5.out) HC0.out).mono ?_
 rintro e w6 ⟨rfl, hb⟩
 have HY6 := Am (Kd.R_below HY5.out hb)
 have HX6 := Am (Kd.R_below HX5.out hb)
 have HV6 := Am (Kd.R_below HV5.out hb)
 have HU6 := Am (Kd.R_below HU5.out hb)
 have HB6 := Am (bel_t HB5.out hb)
 clear hb HU5 HV5 HX5 HY5 HB5
 go_wp2_with (fail)
 refine (HO1.out A2 c2 _ (Kd.R_reads' HU6.out).2.2 (Kd.R_reads' HU6.out).2.1).mono ?_
 rintro e w7 ⟨rfl, hb⟩
 have HY7 := Am (Kd.R_below HY6.out hb)
 have HX7 := Am (Kd.R_below HX6.out hb)
 have HV7 := Am (Kd.R_below HV6.out hb)
 have HU7 := Am (Kd.R_below HU6.out hb)
 have HB7 := Am (bel_t HB6.out hb)
 clear hb HU6 HV6 HX6 HY6 HB6
 go_wp2_with (fail)
 refine (table_Root.calls k A2 c2 r1 s 0 _ (Kd.R_reads' HU7.out).2.2 (Kd.R_reads' HU7.out).2.1 H6.out).mono ?_
 rintro e w8 ⟨rfl, hb⟩
 have HY8 := Am (Kd.R_below HY7.out hb)
 have HX8 := Am (Kd.R_below HX7.out hb)
 have HV8 := Am (Kd.R_below HV7.out hb)
 have HU8 := Am (Kd.R_below HU7.out hb)
 have HB8 := Am (bel_t HB7.out hb)
 clear hb HU7 HV7 HX7 HY7 HB7
 go_wp2_with (fail)
 refine (larchref18_SameTable.calls k A3 c3 r1 A2 c2 r1 true _ (Kd.R_reads' HV8.out).2.2 (Kd.R_reads' HV8.out).2.1 (Kd.R_reads' HU8.out).2.2 (Kd.R_reads' HU8.out).2.1 H7.out).mono ?_
 rintro e w9 ⟨rfl, m, rfl⟩
 clear HV8
 have hb : Below w8.heap.size w8 (w8.drewN m) := bn (Below.refl _ _) m
 have HY9 := Am (Kd.R_below HY8.out hb)
 have HX9 := Am (Kd.R_below HX8.out hb)
 have HU9 := Am (Kd.R_below HU8.out hb)
 have HB9 := Am (bel_t HB8.out hb)
 clear hb HU8 HX8 HY8 HB8
 generalize w8.drewN m = w9 at HY9 HX9 HU9 HB9 ⊢
 have hl1 : (r1.length : Int) = l0.length := by have := HL.out; omega
 rcases hab with rfl | rfl
 rotate_left
 cases a
 all_goals
  go_wp2
  go_loopg [21, 115] (P.length + 1) (fun kq v21 v115 w' => ∃ i : Nat, v115 = .int .i64 i ∧ Aside0 (i ≤ P.length ∧ kq + i = P.length + 1) ∧ Aside0 (Below w9.heap.size w9 w'))
  case atStart => exact ⟨0, rfl, ⟨Nat.zero_le _, rfl⟩, ⟨Below.refl _ _⟩⟩
  case round =>
   obtain ⟨i, rfl, HI, HW⟩ := hrel
   have hpl := HPL.out
   obtain ⟨kq1, rfl⟩ : ∃ x, gk = x + 1 := ⟨gk - 1, by have := HI.out; omega⟩
   by_cases q1 : i < P.length
   ·obtain ⟨ad1, e1, x1, x2⟩ := at_T78 (Kd.R_reads' (Kd.R_below HX9.out HW.out)).2.2 (i : Int) (by omega) (by omega)
    obtain ⟨ad2, e2, y1, y2⟩ := at_T78 (Kd.R_reads' (Kd.R_below HY9.out HW.out)).2.2 (i : Int) (by omega) (by omega)
    cases e1
    cases e2
    rw [Int.toNat_natCast] at x1 x2 y1 y2
    have p5 : (0 ≤ (i : Int)) = True := eq_true (by omega)
    have p6 : ((i : Int) < (P.length : Int)) = True := eq_true (by omega)
    have p7 : decide ((i : Int) < (P.length : Int)) = true := decide_eq_true (by omega)
    go_wp2
    repeat (go_quiet (fail); try go_wp2)
    go_roundg kq1
    case measure => omega
    case rel => exact ⟨i + 1, by first | rfl | (rw [Go.IntWalk.wrap64_in _ (by omega)]; rfl), ⟨by omega, by have := HI.out.2; omega⟩, ⟨by first | exact HW.out | exact bn HW.out _ | exact below_drew HW.out⟩⟩
   ·have p7 : decide ((i : Int) < (P.length : Int)) = false := decide_eq_false (by omega)
    have hb := HW.out
    have HU10 := Am (Kd.R_below HU9.out hb)
    have HB10 := Am (bel_t HB9.out hb)
    clear hb HI HW HX9 HY9 HU9 HB9
    go_wp2_with (fail)
    refine (table_Root.calls k A0 c0 l0 q 0 _ (Kd.C_below HR0.out HB10.out) HC0.out H8.out).mono ?_
    rintro e w11 ⟨rfl, hb⟩
    have HU11 := Am (Kd.R_below HU10.out hb)
    have HB11 := Am (bel_t HB10.out hb)
    clear hb HU10 HB10
    go_wp2_with (fail)
    refine (table_Sub.calls k A2 c2 r1 s v 0 _ (Kd.R_reads' HU11.out).2.2 (Kd.R_reads' HU11.out).2.1 H9.out).mono ?_
    rintro e w12 ⟨v12, rfl, ho, hb⟩
    obtain ⟨A12, c12, rfl⟩ := Kd.R_slice ho
    have HV12 := Am (Kd.R_lower ho HB11.out.size)
    have HU12 := Am (Kd.R_below HU11.out hb)
    have HB12 := Am (bel_t HB11.out hb)
    clear ho hb HU11 HB11
    go_wp2_with (fail)
    refine (graft_good k A0 c0 l0 q A12 c12 v r1 _ (Kd.C_below HR0.out HB12.out) HC0.out (Kd.R_reads' HV12.out).2.2 (Kd.R_reads' HV12.out).2.1 H10.out).mono ?_
    rintro e w13 ⟨v13, rfl, ho, hb⟩
    obtain ⟨A13, c13, rfl⟩ := Kd.R_slice ho
    have HG13 := Am ho
    have HU13 := Am (Kd.R_below HU12.out hb)
    have HB13 := Am (bel_t HB12.out hb)
    clear ho hb HU12 HV12 HB12
    go_wp2_with (fail)
    refine (larchref18_SameTable.calls k A13 c13 r1 A2 c2 r1 true _ (Kd.R_reads' HG13.out).2.2 (Kd.R_reads' HG13.out).2.1 (Kd.R_reads' HU13.out).2.2 (Kd.R_reads' HU13.out).2.1 H7.out).mono ?_
    rintro e w14 ⟨rfl, m, rfl⟩
    go_wp2
    go_ret
    exact ⟨rfl, bn HB13.out _⟩
end Go.Proofs.Ytgleaefhflamnaa.T
namespace Go.Proofs.Ytgleaefhflamnaa.T
open Go.RowKit Go.Proofs.YtgleaefhflamnaaW.PrintWords Go.Proofs.YtgleaefhflamnaaW.PrintLast Go.Proofs.YtgleaefhflamnaaW.PrintMore
theorem up_to {α : Type} {f : Nat → Option α} (h : ∀ k, LeO (f k) (f (k + 1))) {k k' : Nat} (hk : k ≤ k') {r : α} (hr : f k = some r) : f k' = some r := by
 induction hk with
 | refl => exact hr
 | step _ ih => exact h _ _ ih
def fmN (n : S34) (len : Nat) : Bool := formedB n.f0 n.f1 n.f2 n.f3 n.f4 n.f5 len
theorem fmN_iff (n : S34) (len : Nat) : fmN n len = true ↔ (0 ≤ n.f2 ∧ n.f2 ≤ 1000000) ∧ (n.f1 = 0 ∨ (n.f1 = 1 ∧ n.f0 = 0 ∧ n.f3 = 0)) ∧ ((n.f4 = -1 ∧ n.f5 = -1) ∨ (n.f3 = 0 ∧ 1 ≤ n.f4 ∧ n.f4 < len ∧ 1 ≤ n.f5 ∧ n.f5 < len ∧ n.f4 ≠ n.f5)) := by
 unfold fmN formedB childB
 by_cases h1 : n.f2 < 0 ∨ 1000000 < n.f2 ∨ (n.f1 ≠ 0 ∧ n.f1 ≠ 1)
 ·rw [if_pos h1]; constructor
  ·intro h; exact absurd h (by simp)
  ·intro h; omega
 ·rw [if_neg h1]
  by_cases h2 : n.f1 = 1 ∧ (n.f0 ≠ 0 ∨ n.f3 ≠ 0)
  ·rw [if_pos h2]; constructor
   ·intro h; exact absurd h (by simp)
   ·intro h; omega
  ·rw [if_neg h2]
   by_cases h3 : n.f4 = -1 ∧ n.f5 = -1
   ·rw [if_pos h3]; constructor
    ·intro _; omega
    ·intro _; rfl
   ·rw [if_neg h3]
    simp only [Bool.and_eq_true, decide_eq_true_eq]
    omega
structure Good (t : List S34) (T : Tr) : Prop where
 len : t.length ≤ 100000
 form : ∀ i, i < t.length → fmN (t.getD i z34) t.length = true
 tree : mkT t t.length 0 = some T
 nodup : (plT T).Nodup
 all : (plT T).length = t.length
theorem formT_of {t : List S34} (h : ∀ i, i < t.length → fmN (t.getD i z34) t.length = true) : FormT t := fun i hi => by
 have := (fmN_iff _ _).1 (h i hi)
 omega
theorem Good.pos {t : List S34} {T : Tr} (h : Good t T) : 0 < t.length := by
 have := h.tree
 cases ht : t.length with
 | zero => rw [ht] at this; simp [mkT] at this
 | succ n => omega
theorem sizeN_pl : ∀ T, sizeN T = (plT T).length
 | .nil => rfl
 | .node _ _ l r => by rw [sizeN, plT, List.length_cons, List.length_append, sizeN_pl l, sizeN_pl r]; omega
theorem mkT_size {t : List S34} : ∀ {k i : Nat} {T : Tr}, mkT t k i = some T → mkT t (sizeN T) i = some T := by
 intro k
 induction k with
 | zero => intro i T h; simp [mkT] at h
 | succ k ih =>
  intro i T h
  rw [mkT] at h
  split at h
  case isFalse => exact absurd h (by simp)
  rename_i hi
  split at h
  ·rename_i h4
   obtain ⟨l, hl, h⟩ := Option.bind_eq_some_iff.1 h
   obtain ⟨r, hr, h⟩ := Option.bind_eq_some_iff.1 h
   obtain rfl := Option.some.inj h
   rw [sizeN, show 1 + sizeN l + sizeN r = (sizeN l + sizeN r) + 1 by omega, mkT, if_pos hi, if_pos h4, mkT_le t (Nat.le_add_right _ _) (ih hl), Option.bind_some, mkT_le t (Nat.le_add_left _ _) (ih hr), Option.bind_some]
  ·rename_i h4
   obtain rfl := Option.some.inj h
   rw [sizeN, sizeN, show 1 + 0 + 0 = 0 + 1 by omega, mkT, if_pos hi, if_neg h4]
theorem order_f (k : Nat) (t : List S34) (hlen : t.length ≤ 100000) (a : Int) : table_order.f k t a = table_order.l0 k t (List.replicate t.length false) [] ([a] : List Int).reverse := by
 unfold table_order.f
 rw [if_pos (by omega), if_pos (by omega), Int.toNat_natCast]
 rfl
theorem cntT_replicate : ∀ n, cntT (List.replicate n false) = 0
 | 0 => rfl
 | n + 1 => by rw [List.replicate_succ, cntT, cntT_replicate n]; simp
theorem order_f_total (t : List S34) (hlen : t.length ≤ 100000) (hf : FormT t) (a : Int) (h0 : 0 ≤ a) (ha : a < t.length) (k : Nat) (hk : t.length + 1 ≤ k) : ∃ res, table_order.f k t a = some res := by
 rw [order_f _ _ hlen]
 exact order_total t hlen hf k _ [] [a] List.length_replicate (fun i hi => by rw [List.mem_singleton] at hi; subst hi; exact ⟨h0, ha⟩) (cntT_replicate _) (by simp) (by simp; omega) (by omega)
theorem getD_replicate_false (n i : Nat) : (List.replicate n false).getD i false = false := by
 simp only [List.getD, List.getElem?_replicate]
 split <;> rfl
/-- order of a place over a tree. -/
theorem order_f_tree {t : List S34} (hlen : t.length ≤ 100000) (hf : FormT t) {K : Nat} {a : Int} {T : Tr} (h0 : 0 ≤ a) (hT : mkT t K a.toNat = some T) (hn : (plT T).Nodup) (hl : (plT T).length ≤ 1000000) (k : Nat) (hk : (plT T).length < k) : table_order.f k t a = some (plT T) := by
 rw [order_f _ _ hlen]
 have hp := plF_mk h0 hT (plF.eq_1 t K)
 rw [List.append_nil] at hp
 rw [order_tree t hlen hf K k _ [] [a] (plT T) List.length_replicate hp hn (fun _ _ => getD_replicate_false _ _) hk (by simpa using hl)]
 rfl
theorem good_of_order {t : List S34} (hlen : t.length ≤ 100000) (hpos : 0 < t.length) (hf : ∀ i, i < t.length → fmN (t.getD i z34) t.length = true) {k : Nat} {res : List Int} (h : table_order.f k t 0 = some res) (hr : res.length = t.length) : ∃ T, Good t T := by
 rw [order_f _ _ hlen] at h
 rcases order_inv t (formT_of hf) k _ [] [0] res List.length_replicate (by simp) h with e | ⟨ps, hp, e, hn, _⟩
 ·rw [e] at hr; simp at hr; omega
 ·obtain ⟨T, q, _, hT, hq, rfl⟩ := plF_cons hp
  rw [plF] at hq
  injection hq with hq
  subst hq
  rw [List.append_nil] at e hn
  rw [List.nil_append] at e
  have hT2 := mkT_size hT
  rw [sizeN_pl, ← e, hr] at hT2
  exact ⟨T, hlen, hf, hT2, hn, by rw [← e]; exact hr⟩
theorem formed_f (n : S34) (len : Nat) : table_formed.f n.f0 n.f1 n.f2 n.f3 n.f4 n.f5 len = some (fmN n len) := rfl
theorem check_l0 (t : List S34) (hlen : t.length ≤ 100000) (hpos : 0 < t.length) : ∀ (d i k : Nat), i + d = t.length → t.length + 2 + d ≤ k → (∀ j, j < i → fmN (t.getD j z34) t.length = true) →
  ∃ r, table_Check.l0 k t t t.length i = some r ∧ (r = 0 → ∃ T, Good t T) := by
 intro d
 induction d with
 | zero =>
  intro i k hi hk hpre
  cases k with
  | zero => omega
  | succ k =>
   have hf : ∀ j, j < t.length → fmN (t.getD j z34) t.length = true := fun j hj => hpre j (by omega)
   obtain ⟨res, hr⟩ := order_f_total t hlen (formT_of hf) 0 (by omega) (by omega) k (by omega)
   rw [table_Check.l0, if_neg (by omega), hr, Option.bind_some]
   by_cases e : (res.length : Int) = t.length
   ·exact ⟨0, if_pos e, fun _ => good_of_order hlen hpos hf hr (by omega)⟩
   ·exact ⟨3, if_neg e, fun h => absurd h (by decide)⟩
 | succ d ih =>
  intro i k hi hk hpre
  cases k with
  | zero => omega
  | succ k =>
   rw [table_Check.l0, if_pos (by omega), if_pos (by omega), if_pos (by omega)]
   simp only [rd_T34, formed_f, Option.bind_some, Int.toNat_natCast]
   by_cases e : fmN (t.getD i z34) t.length = true
   ·rw [if_pos e, Go.IntWalk.wrap64_in _ (by omega)]
    exact ih (i + 1) k (by omega) (by omega) (fun j hj => by
     by_cases ej : j = i
     ·rw [ej]; exact e
     ·exact hpre j (by omega))
   ·rw [if_neg e]
    exact ⟨3, rfl, fun h => absurd h (by decide)⟩
theorem check_total (t : List S34) : ∃ k r, table_Check.f k t = some r ∧ (r = 0 → ∃ T, Good t T) := by
 unfold table_Check.f
 by_cases h1 : (t.length : Int) > 100000
 ·exact ⟨0, 2, by rw [if_pos h1], fun h => absurd h (by decide)⟩
 ·by_cases h2 : (t.length : Int) = 0
  ·exact ⟨0, 3, by rw [if_neg h1, if_pos h2], fun h => absurd h (by decide)⟩
  ·obtain ⟨r, h, h'⟩ := check_l0 t (by omega) (by omega) t.length 0 (t.length + 2 + t.length) (by omega) (Nat.le_refl _) (fun j hj => absurd hj (by omega))
   exact ⟨_, r, by rw [if_neg h1, if_neg h2]; exact h, h'⟩
theorem check_l0_good {t : List S34} {T : Tr} (hg : Good t T) : ∀ (d i k : Nat), i + d = t.length → t.length + 2 + d ≤ k → table_Check.l0 k t t t.length i = some 0 := by
 have hlen := hg.len
 intro d
 induction d with
 | zero =>
  intro i k hi hk
  cases k with
  | zero => omega
  | succ k =>
   rw [table_Check.l0, if_neg (by omega), order_f_tree hg.len (formT_of hg.form) (by omega) hg.tree hg.nodup (by rw [hg.all]; omega) k (by rw [hg.all]; omega), Option.bind_some, if_pos (by rw [hg.all])]
 | succ d ih =>
  intro i k hi hk
  cases k with
  | zero => omega
  | succ k =>
   rw [table_Check.l0, if_pos (by omega), if_pos (by omega), if_pos (by omega)]
   simp only [rd_T34, formed_f, Option.bind_some, Int.toNat_natCast]
   rw [if_pos (hg.form i (by omega)), Go.IntWalk.wrap64_in _ (by omega)]
   exact ih (i + 1) k (by omega) (by omega)
theorem check_good {t : List S34} {T : Tr} (hg : Good t T) : ∃ k, table_Check.f k t = some 0 := by
 have h1 := hg.len
 have h2 := hg.pos
 refine ⟨t.length + 2 + t.length, ?_⟩
 unfold table_Check.f
 rw [if_neg (by omega), if_neg (by omega)]
 exact check_l0_good hg t.length 0 _ (by omega) (Nat.le_refl _)
end Go.Proofs.Ytgleaefhflamnaa.T
namespace Go.Proofs.Ytgleaefhflamnaa.T
open Go.RowKit Go.Proofs.YtgleaefhflamnaaW.PrintWords Go.Proofs.YtgleaefhflamnaaW.PrintLast Go.Proofs.YtgleaefhflamnaaW.PrintMore
def sn34 : S34 := ⟨0, 1, 1, 0, -1, -1⟩
def snB (x : S34) : Bool := x.f0 == 0 && (x.f1 == 1 && (x.f2 == 1 && (x.f3 == 0 && (x.f4 == (-1 : Int) && x.f5 == (-1 : Int)))))
theorem sent_iff (x : S34) : snB x = true ↔ x = sn34 := by
 obtain ⟨a, b, c, d, e, f⟩ := x
 simp only [snB, Bool.and_eq_true, beq_iff_eq, sn34, S34.mk.injEq]
def crP (t : List S34) (n : S34) : Prop := ¬ (n.f4 = -1 ∧ n.f5 = -1) ∧ n.f1 = 1 ∧ n.f2 = 1 ∧ t.getD n.f5.toNat z34 = sn34
theorem crowned_f (t : List S34) (n : S34) (hn : fmN n t.length = true) : ∃ b, table_crowned.f t n.f0 n.f1 n.f2 n.f3 n.f4 n.f5 = some b ∧ (b = true ↔ crP t n) := by
 have hn' := (fmN_iff _ _).1 hn
 unfold table_crowned.f
 rw [leaf_f, Option.bind_some]
 by_cases hl : n.f4 = -1 ∧ n.f5 = -1
 ·exact ⟨false, by rw [if_pos (by simpa using hl)], by simp [crP, hl]⟩
 ·rw [if_neg (by simpa using hl)]
  by_cases h1 : n.f1 = 1
  ·rw [if_pos h1]
   by_cases h2 : n.f2 = 1
   ·rw [if_pos h2, if_pos (by omega), if_pos (by omega)]
    refine ⟨_, rfl, ?_⟩
    exact ⟨fun h => ⟨hl, h1, h2, (sent_iff _).1 h⟩, fun h => (sent_iff _).2 h.2.2.2⟩
   ·exact ⟨false, by rw [if_neg h2], by simp [crP, h2]⟩
  ·exact ⟨false, by rw [if_neg h1], by simp [crP, h1]⟩
def allT (P : S34 → Prop) : Tr → Prop
 | .nil => True
 | .node n _ l r => P n ∧ allT P l ∧ allT P r
theorem allT_mkT {t : List S34} {P : S34 → Prop} : ∀ {k i : Nat} {T : Tr}, mkT t k i = some T → (allT P T ↔ ∀ p ∈ plT T, P (t.getD p.toNat z34)) := by
 intro k
 induction k with
 | zero => intro i T h; simp [mkT] at h
 | succ k ih =>
  intro i T h
  rw [mkT] at h
  split at h
  case isFalse => exact absurd h (by simp)
  rename_i hi
  split at h
  ·rename_i h4
   obtain ⟨l, hl, h⟩ := Option.bind_eq_some_iff.1 h
   obtain ⟨r, hr, h⟩ := Option.bind_eq_some_iff.1 h
   obtain rfl := Option.some.inj h
   rw [allT, ih hl, ih hr, plT]
   constructor
   ·rintro ⟨h1, h2, h3⟩ p hp
    simp only [List.mem_cons, List.mem_append] at hp
    rcases hp with rfl | hp | hp
    ·rwa [Int.toNat_natCast]
    ·exact h2 p hp
    ·exact h3 p hp
   ·intro hh
    exact ⟨by have := hh i List.mem_cons_self; rwa [Int.toNat_natCast] at this, fun p hp => hh p (List.mem_cons_of_mem _ (List.mem_append_left _ hp)), fun p hp => hh p (List.mem_cons_of_mem _ (List.mem_append_right _ hp))⟩
  ·obtain rfl := Option.some.inj h
   simp [allT, plT]
def plc : Tr → Int
 | .nil => -1
 | .node _ p _ _ => p
theorem mkT_plc {t : List S34} {k i : Nat} {T : Tr} (h : mkT t k i = some T) : plc T = i := by
 cases k with
 | zero => simp [mkT] at h
 | succ k =>
  rw [mkT] at h
  split at h
  case isFalse => exact absurd h (by simp)
  split at h
  ·obtain ⟨l, hl, h⟩ := Option.bind_eq_some_iff.1 h
   obtain ⟨r, hr, h⟩ := Option.bind_eq_some_iff.1 h
   obtain rfl := Option.some.inj h
   rfl
  ·obtain rfl := Option.some.inj h
   rfl
/-- The crown over the tree of the keys. -/
def Crown (T X0 : Tr) : Prop := ∃ n0 n1 p1 q1 q0, T = .node n0 0 (.node n1 p1 X0 (.node sn34 q1 .nil .nil)) (.node sn34 q0 .nil .nil) ∧ n0.f1 = 1 ∧ n0.f2 = 1 ∧ n1.f1 = 1 ∧ n1.f2 = 1 ∧ allT (fun n => n.f1 = 0) X0 ∧ X0 ≠ .nil
theorem mkT_inner {t : List S34} (hf : ∀ i, i < t.length → fmN (t.getD i z34) t.length = true) {k i : Nat} {T : Tr} (h : mkT t k i = some T) (hl : ¬ ((t.getD i z34).f4 = -1 ∧ (t.getD i z34).f5 = -1)) :
  ∃ k' l r, k = k' + 1 ∧ i < t.length ∧ mkT t k' (t.getD i z34).f4.toNat = some l ∧ mkT t k' (t.getD i z34).f5.toNat = some r ∧ T = .node (t.getD i z34) i l r := by
 cases k with
 | zero => simp [mkT] at h
 | succ k =>
  rw [mkT] at h
  split at h
  case isFalse => exact absurd h (by simp)
  rename_i hi
  have := (fmN_iff _ _).1 (hf i hi)
  rw [if_pos (by omega)] at h
  obtain ⟨l, hl, h⟩ := Option.bind_eq_some_iff.1 h
  obtain ⟨r, hr, h⟩ := Option.bind_eq_some_iff.1 h
  exact ⟨k, l, r, rfl, hi, hl, hr, (Option.some.inj h).symm⟩
theorem mkT_leaf {t : List S34} (hf : ∀ i, i < t.length → fmN (t.getD i z34) t.length = true) {k i : Nat} {T : Tr} (h : mkT t k i = some T) (hl : (t.getD i z34).f4 = -1 ∧ (t.getD i z34).f5 = -1) : i < t.length ∧ T = .node (t.getD i z34) i .nil .nil := by
 cases k with
 | zero => simp [mkT] at h
 | succ k =>
  rw [mkT] at h
  split at h
  case isFalse => exact absurd h (by simp)
  rename_i hi
  rw [if_neg (by omega)] at h
  exact ⟨hi, (Option.some.inj h).symm⟩
theorem mkT_node {t : List S34} (hf : ∀ i, i < t.length → fmN (t.getD i z34) t.length = true) {k i : Nat} {n : S34} {p : Int} {l r : Tr} (h : mkT t k i = some (.node n p l r)) : i < t.length ∧ n = t.getD i z34 ∧ p = i ∧ (l ≠ .nil → ¬ (n.f4 = -1 ∧ n.f5 = -1) ∧ ∃ k', k = k' + 1 ∧ mkT t k' n.f4.toNat = some l ∧ mkT t k' n.f5.toNat = some r) := by
 by_cases hl : (t.getD i z34).f4 = -1 ∧ (t.getD i z34).f5 = -1
 ·obtain ⟨hi, e⟩ := mkT_leaf hf h hl
  injection e with e1 e2 e3 e4
  exact ⟨hi, e1, e2, fun hn => absurd e3 hn⟩
 ·obtain ⟨k', l', r', hk, hi, h1, h2, e⟩ := mkT_inner hf h hl
  injection e with e1 e2 e3 e4
  subst e1 e3 e4
  exact ⟨hi, rfl, e2, fun _ => ⟨hl, k', hk, h1, h2⟩⟩
theorem crown_cr {t : List S34} {T X0 : Tr} (hg : Good t T) (h : Crown T X0) : crP t (t.getD 0 z34) ∧ t.getD (t.getD 0 z34).f4.toNat z34 ≠ sn34 ∧ crP t (t.getD (t.getD 0 z34).f4.toNat z34) := by
 obtain ⟨n0, n1, p1, q1, q0, rfl, c1, c2, c3, c4, _, hXn⟩ := h
 obtain ⟨h1, h2, _, h3⟩ := mkT_node hg.form hg.tree
 obtain ⟨h4, k1, hk1, h5, h6⟩ := h3 (by simp)
 subst h2
 obtain ⟨_, g2, _, _⟩ := mkT_node hg.form h6
 obtain ⟨e1, e2, _, e3⟩ := mkT_node hg.form h5
 obtain ⟨e4, k2, hk2, e5, e6⟩ := e3 hXn
 subst e2
 obtain ⟨_, d2, _, _⟩ := mkT_node hg.form e6
 exact ⟨⟨h4, c1, c2, g2.symm⟩, fun e => e4 (by rw [e]; exact ⟨rfl, rfl⟩), e4, c3, c4, d2.symm⟩
theorem root_l0 (t : List S34) (v0 v1 v2 v3 v4 v5 : Int) (ps : List Int) (hp : ∀ p ∈ ps, 0 ≤ p ∧ p < t.length) (hlen : ps.length ≤ 1000000) : ∀ (d i k : Nat), i + d = ps.length → d < k → (∀ j, j < i → (t.getD (ps.getD j 0).toNat z34).f1 = 0) →
  ∃ r1 r2, table_Root.l0 k t ps ps.length i v0 v1 v2 v3 v4 v5 = some (r1, r2) ∧ (r2 = 0 → r1 = v4 ∧ ∀ j, j < ps.length → (t.getD (ps.getD j 0).toNat z34).f1 = 0) ∧ ((∀ j, j < ps.length → (t.getD (ps.getD j 0).toNat z34).f1 = 0) → r1 = v4 ∧ r2 = 0) := by
 intro d
 induction d with
 | zero =>
  intro i k hi hk hpre
  cases k with
  | zero => omega
  | succ k =>
   rw [table_Root.l0, if_neg (by omega)]
   exact ⟨v4, 0, rfl, fun _ => ⟨rfl, fun j hj => hpre j (by omega)⟩, fun _ => ⟨rfl, rfl⟩⟩
 | succ d ih =>
  intro i k hi hk hpre
  cases k with
  | zero => omega
  | succ k =>
   have hm : ps.getD i 0 ∈ ps := by rw [List.getD, List.getElem?_eq_getElem (by omega), Option.getD_some]; exact List.getElem_mem _
   have hr := hp _ hm
   rw [table_Root.l0, if_pos (by omega), if_pos (by omega), if_pos (by omega)]
   rw [show rd ps (i : Int) = ps.getD i 0 from rfl, show rd_T34 t (ps.getD i 0) = t.getD (ps.getD i 0).toNat z34 from rfl]
   rw [if_pos hr.1, if_pos hr.2]
   by_cases e : (t.getD (ps.getD i 0).toNat z34).f1 = 0
   ·rw [if_pos e, Go.IntWalk.wrap64_in _ (by omega)]
    exact ih (i + 1) k (by omega) (by omega) (fun j hj => by
     by_cases ej : j = i
     ·rw [ej]; exact e
     ·exact hpre j (by omega))
   ·rw [if_neg e]
    exact ⟨0, 3, rfl, fun h => absurd h (by decide), fun h => absurd (h i (by omega)) e⟩
theorem allmem (t : List S34) (ps : List Int) : (∀ j, j < ps.length → (t.getD (ps.getD j 0).toNat z34).f1 = 0) ↔ ∀ p ∈ ps, (t.getD p.toNat z34).f1 = 0 := by
 constructor
 ·intro h p hp
  obtain ⟨j, hj, rfl⟩ := List.getElem_of_mem hp
  have := h j hj
  rwa [show ps.getD j 0 = ps[j] by rw [List.getD, List.getElem?_eq_getElem hj, Option.getD_some]] at this
 ·intro h j hj
  rw [show ps.getD j 0 = ps[j] by rw [List.getD, List.getElem?_eq_getElem hj, Option.getD_some]]
  exact h _ (List.getElem_mem _)
theorem nodup_app_r {α : Type} {a b : List α} (h : (a ++ b).Nodup) : b.Nodup := (List.nodup_append.1 h).2.1
theorem nodup_app_l {α : Type} {a b : List α} (h : (a ++ b).Nodup) : a.Nodup := (List.nodup_append.1 h).1
theorem root_good {t : List S34} {T : Tr} (hg : Good t T) : ∃ k r1 r2, table_Root.f k t = some (r1, r2) ∧ (r2 = 0 → ∃ X0, Crown T X0 ∧ plc X0 = r1) ∧ (∀ X0, Crown T X0 → r2 = 0 ∧ r1 = plc X0) := by
 have hlen := hg.len
 have hpos := hg.pos
 have htr := hg.tree
 obtain ⟨kc, hc⟩ := check_good hg
 have f0 := hg.form 0 hpos
 obtain ⟨b0, hb0, hb0'⟩ := crowned_f t (t.getD 0 z34) f0
 have hroot : ∀ k, kc ≤ k → table_Root.f k t = if b0 = true then (if 0 ≤ (t.getD 0 z34).f4 then (if (t.getD 0 z34).f4 < t.length then
   (if snB (t.getD (t.getD 0 z34).f4.toNat z34) = true then some (0, 4) else
    ((table_crowned.f t (t.getD (t.getD 0 z34).f4.toNat z34).f0 (t.getD (t.getD 0 z34).f4.toNat z34).f1 (t.getD (t.getD 0 z34).f4.toNat z34).f2 (t.getD (t.getD 0 z34).f4.toNat z34).f3 (t.getD (t.getD 0 z34).f4.toNat z34).f4 (t.getD (t.getD 0 z34).f4.toNat z34).f5).bind fun b1 => if b1 = true then
     ((table_order.f k t (t.getD (t.getD 0 z34).f4.toNat z34).f4).bind fun ps => table_Root.l0 k t ps ps.length 0 (t.getD (t.getD 0 z34).f4.toNat z34).f0 (t.getD (t.getD 0 z34).f4.toNat z34).f1 (t.getD (t.getD 0 z34).f4.toNat z34).f2 (t.getD (t.getD 0 z34).f4.toNat z34).f3 (t.getD (t.getD 0 z34).f4.toNat z34).f4 (t.getD (t.getD 0 z34).f4.toNat z34).f5) else some (0, 3))) else none) else none) else some (0, 3) := by
  intro k hk
  unfold table_Root.f
  rw [up_to (fun k => table_Check.mono t k) hk hc, Option.bind_some, if_pos rfl, if_pos (by omega)]
  rw [show rd_T34 t 0 = t.getD 0 z34 from rfl, show rd_T34 t (t.getD 0 z34).f4 = t.getD (t.getD 0 z34).f4.toNat z34 from rfl]
  rw [hb0, Option.bind_some]
  by_cases hb : b0 = true
  ·rw [if_pos hb, if_pos hb]
   simp only [table_sentinel.f, Option.bind_some]
   rfl
  ·rw [if_neg hb, if_neg hb]
 by_cases hb : b0 = true
 ·have hcr := hb0'.1 hb
  have f0' := (fmN_iff _ _).1 f0
  have hA : ¬ ((t.getD 0 z34).f4 = -1 ∧ (t.getD 0 z34).f5 = -1) := hcr.1
  obtain ⟨k1, l, r, hk1, _, hl, hr, hT⟩ := mkT_inner hg.form htr hcr.1
  have hrl := mkT_leaf hg.form hr (by rw [hcr.2.2.2]; exact ⟨rfl, rfl⟩)
  rw [hcr.2.2.2] at hrl
  have f1 := hg.form (t.getD 0 z34).f4.toNat (by omega)
  obtain ⟨b1, hb1, hb1'⟩ := crowned_f t _ f1
  by_cases hs : t.getD (t.getD 0 z34).f4.toNat z34 = sn34
  ·refine ⟨kc, 0, 4, ?_, fun h => absurd h (by decide), ?_⟩
   ·rw [hroot kc (Nat.le_refl _), if_pos hb, if_pos (by omega), if_pos (by omega), if_pos ((sent_iff _).2 hs)]
   ·rintro X0 ⟨n0, n1, p1, q1, q0, e, _⟩
    have := mkT_leaf hg.form hl (by rw [hs]; exact ⟨rfl, rfl⟩)
    rw [hT, this.2] at e
    injection e with _ _ e _
    injection e with _ _ _ e
    exact absurd e (by simp)
  ·by_cases hb1t : b1 = true
   ·have hcr1 := hb1'.1 hb1t
    have f1' := (fmN_iff _ _).1 f1
    have hB : ¬ ((t.getD (t.getD 0 z34).f4.toNat z34).f4 = -1 ∧ (t.getD (t.getD 0 z34).f4.toNat z34).f5 = -1) := hcr1.1
    obtain ⟨k2, X0, r1, hk2, hi2, hl1, hr1, hT1⟩ := mkT_inner hg.form hl hcr1.1
    have hrl1 := mkT_leaf hg.form hr1 (by rw [hcr1.2.2.2]; exact ⟨rfl, rfl⟩)
    rw [hcr1.2.2.2] at hrl1
    have hn := hg.nodup
    have ha := hg.all
    rw [hT, hT1] at hn ha
    simp only [plT, List.nodup_cons, List.cons_append, List.length_cons, List.length_append] at hn ha
    have hnX : (plT X0).Nodup := by
     have h1 := hn.2
     rw [List.append_assoc] at h1
     exact nodup_app_l h1.2
    have hord : ∀ k, t.length ≤ k → table_order.f k t (t.getD (t.getD 0 z34).f4.toNat z34).f4 = some (plT X0) := fun k hk => order_f_tree hlen (formT_of hg.form) (by omega) hl1 hnX (by omega) k (by omega)
    obtain ⟨q1, q2, hq, hq1, hq2⟩ := root_l0 t (t.getD (t.getD 0 z34).f4.toNat z34).f0 (t.getD (t.getD 0 z34).f4.toNat z34).f1 (t.getD (t.getD 0 z34).f4.toNat z34).f2 (t.getD (t.getD 0 z34).f4.toNat z34).f3 (t.getD (t.getD 0 z34).f4.toNat z34).f4 (t.getD (t.getD 0 z34).f4.toNat z34).f5 (plT X0) (plT_mem _ _ _ hl1).2 (by omega) (plT X0).length 0 (max kc (t.length + 1)) (by omega) (by omega) (fun j hj => absurd hj (by omega))
    have hpX : plc X0 = (t.getD (t.getD 0 z34).f4.toNat z34).f4 := by rw [mkT_plc hl1]; omega
    have hXn : X0 ≠ .nil := by rintro rfl; rw [plc] at hpX; omega
    refine ⟨max kc (t.length + 1), q1, q2, ?_, ?_, ?_⟩
    ·rw [hroot _ (Nat.le_max_left _ _), if_pos hb, if_pos (by omega), if_pos (by omega), if_neg (fun h => hs ((sent_iff _).1 h)), hb1, Option.bind_some, if_pos hb1t, hord _ (by omega), Option.bind_some]
     exact hq
    ·intro h0
     have h1 := hq1 h0
     refine ⟨X0, ⟨t.getD 0 z34, t.getD (t.getD 0 z34).f4.toNat z34, ((t.getD 0 z34).f4.toNat : Nat), ((t.getD (t.getD 0 z34).f4.toNat z34).f5.toNat : Nat), ((t.getD 0 z34).f5.toNat : Nat), ?_, hcr.2.1, hcr.2.2.1, hcr1.2.1, hcr1.2.2.1, ?_, hXn⟩, by rw [h1.1, hpX]⟩
     ·rw [hT, hT1, hrl.2, hrl1.2]; rfl
     ·exact (allT_mkT hl1).2 ((allmem t _).1 h1.2)
    ·rintro Y ⟨n0, n1, p1, q1', q0, e, _, _, _, _, hin, _⟩
     rw [hT, hT1] at e
     injection e with _ _ e _
     injection e with _ _ e _
     subst e
     have h1 := hq2 ((allmem t _).2 ((allT_mkT hl1).1 hin))
     exact ⟨h1.2, by rw [h1.1, hpX]⟩
   ·refine ⟨kc, 0, 3, ?_, fun h => absurd h (by decide), ?_⟩
    ·rw [hroot kc (Nat.le_refl _), if_pos hb, if_pos (by omega), if_pos (by omega), if_neg (fun h => hs ((sent_iff _).1 h)), hb1, Option.bind_some, if_neg hb1t]
    ·intro X0 hX
     exact absurd (hb1'.2 (crown_cr hg hX).2.2) hb1t
 ·refine ⟨kc, 0, 3, ?_, fun h => absurd h (by decide), ?_⟩
  ·rw [hroot kc (Nat.le_refl _), if_neg hb]
  ·intro X0 hX
   exact absurd (hb0'.2 (crown_cr hg hX).1) hb
end Go.Proofs.Ytgleaefhflamnaa.T
namespace Go.Proofs.Ytgleaefhflamnaa.T
open Go.RowKit Go.Proofs.YtgleaefhflamnaaW.PrintWords Go.Proofs.YtgleaefhflamnaaW.PrintLast Go.Proofs.YtgleaefhflamnaaW.PrintMore
/-- Trees in form: each node's weight in its bounds, both children or none. -/
def Ok : Tr → Prop
 | .nil => False
 | .node n _ l r => (0 ≤ n.f2 ∧ n.f2 ≤ 1000000) ∧ (n.f1 = 0 ∨ (n.f1 = 1 ∧ n.f0 = 0 ∧ n.f3 = 0)) ∧ ((l = .nil ∧ r = .nil ∧ n.f4 = -1 ∧ n.f5 = -1) ∨ (n.f3 = 0 ∧ Ok l ∧ Ok r))
def sums : Tr → Int → List Int
 | .nil, _ => []
 | .node n _ .nil _, a => [a + n.f2]
 | .node n _ (.node m p x y) r, a => sums (.node m p x y) (a + n.f2) ++ sums r (a + n.f2)
theorem ok_ne {T : Tr} (h : Ok T) : T ≠ .nil := by rintro rfl; exact h
theorem ok_split (m : Bool) {T : Tr} (h : Ok T) (hl : lT m T ≠ .nil ∨ rT m T ≠ .nil) : Ok (lT m T) ∧ Ok (rT m T) := by
 cases T with
 | nil => exact h.elim
 | node n p l r =>
  rw [Ok] at h
  rcases h.2.2 with h1 | h1
  ·obtain ⟨rfl, rfl, _⟩ := h1
   cases m <;> simp [lT, rT] at hl
  ·cases m
   ·exact ⟨h1.2.1, h1.2.2⟩
   ·exact ⟨h1.2.2, h1.2.1⟩
theorem ok_wt {T : Tr} (h : Ok T) : 0 ≤ wt T ∧ wt T ≤ 1000000 := by
 cases T with
 | nil => exact h.elim
 | node n p l r => exact h.1
theorem wt_pos_ne {T : Tr} (h : 0 ≤ wt T) : T ≠ .nil := by rintro rfl; simp [wt] at h
theorem sums_split (m : Bool) {T : Tr} (h : Ok T) (hl : lT m T ≠ .nil) (a : Int) : sums T a = if m then sums (rT m T) (a + wt T) ++ sums (lT m T) (a + wt T) else sums (lT m T) (a + wt T) ++ sums (rT m T) (a + wt T) := by
 have h2 := ok_split m h (.inl hl)
 cases T with
 | nil => exact h.elim
 | node n p l r =>
  cases m with
  | false =>
   cases l with
   | nil => exact absurd rfl hl
   | node _ _ _ _ => rfl
  | true =>
   cases l with
   | nil => exact h2.2.elim
   | node _ _ _ _ => rfl
theorem sums_put (m : Bool) (k x : Int) {L R : Tr} (hL : L ≠ .nil) (hR : R ≠ .nil) (a : Int) : sums (putT m k x L R) a = if m then sums R (a + x) ++ sums L (a + x) else sums L (a + x) ++ sums R (a + x) := by
 cases m with
 | false =>
  cases L with
  | nil => exact absurd rfl hL
  | node _ _ _ _ => rfl
 | true =>
  cases R with
  | nil => exact absurd rfl hR
  | node _ _ _ _ => rfl
theorem sums_as (x : Int) {T : Tr} (h : T ≠ .nil) (a : Int) : sums (asT x T) a = sums T (a + x - wt T) := by
 cases T with
 | nil => exact absurd rfl h
 | node n p l r =>
  cases l with
  | nil => simp only [asT, sums, wt]; congr 1; omega
  | node _ _ _ _ => simp only [asT, sums, wt]; rw [show a + x - n.f2 + n.f2 = a + x by omega]
theorem wt_put (m : Bool) (k x : Int) (L R : Tr) : wt (putT m k x L R) = x := rfl
theorem wt_as (x : Int) {T : Tr} (h : T ≠ .nil) : wt (asT x T) = x := by
 cases T with
 | nil => exact absurd rfl h
 | node _ _ _ _ => rfl
theorem put_ne (m : Bool) (k x : Int) (L R : Tr) : putT m k x L R ≠ .nil := by simp [putT]
theorem as_ne (x : Int) {T : Tr} (h : T ≠ .nil) : asT x T ≠ .nil := by
 cases T with
 | nil => exact absurd rfl h
 | node _ _ _ _ => simp [asT]
theorem ok_put {m : Bool} {k x : Int} {L R : Tr} (hx : 0 ≤ x ∧ x ≤ 1000000) (hL : Ok L) (hR : Ok R) : Ok (putT m k x L R) := by
 cases m
 ·exact ⟨hx, .inl rfl, .inr ⟨rfl, hL, hR⟩⟩
 ·exact ⟨hx, .inl rfl, .inr ⟨rfl, hR, hL⟩⟩
theorem ok_as {x : Int} {T : Tr} (hx : 0 ≤ x ∧ x ≤ 1000000) (h : Ok T) : Ok (asT x T) := by
 cases T with
 | nil => exact h.elim
 | node n p l r => exact ⟨hx, h.2.1, h.2.2⟩
theorem size_split (m : Bool) {T : Tr} (h : T ≠ .nil) : sizeT T = 1 + sizeT (lT m T) + sizeT (rT m T) := by
 cases T with
 | nil => exact absurd rfl h
 | node n p l r => cases m <;> simp only [sizeT, lT, rT, if_true] <;> first | rfl | omega
theorem size_put (m : Bool) (k x : Int) (L R : Tr) : sizeT (putT m k x L R) = 1 + sizeT L + sizeT R := by
 cases m <;> simp only [putT, sizeT, if_true] <;> first | rfl | omega
theorem size_as (x : Int) {T : Tr} : sizeT (asT x T) = sizeT T := by cases T <;> rfl
theorem all_put {P : S34 → Prop} {m : Bool} {k x : Int} {L R : Tr} (hn : P ⟨k, 0, x, 0, 0, 0⟩) (hL : allT P L) (hR : allT P R) : allT P (putT m k x L R) := by
 cases m
 ·exact ⟨hn, hL, hR⟩
 ·exact ⟨hn, hR, hL⟩
theorem all_as {x : Int} {T : Tr} (h : allT (fun n => n.f1 = 0) T) : allT (fun n => n.f1 = 0) (asT x T) := by
 cases T with
 | nil => exact h
 | node n p l r => exact h
theorem all_l {P : S34 → Prop} {m : Bool} {T : Tr} (h : allT P T) : allT P (lT m T) := by
 cases T with
 | nil => exact h
 | node n p l r =>
  cases m
  ·exact h.2.1
  ·exact h.2.2
theorem all_r {P : S34 → Prop} {m : Bool} {T : Tr} (h : allT P T) : allT P (rT m T) := by
 cases T with
 | nil => exact h
 | node n p l r =>
  cases m
  ·exact h.2.2
  ·exact h.2.1
end Go.Proofs.Ytgleaefhflamnaa.T
namespace Go.Proofs.Ytgleaefhflamnaa.T
open Go.RowKit Go.Proofs.YtgleaefhflamnaaW.PrintWords Go.Proofs.YtgleaefhflamnaaW.PrintLast Go.Proofs.YtgleaefhflamnaaW.PrintMore
theorem inner_ne {T : Tr} (h : innerB T = true) : lT false T ≠ .nil ∧ rT true T ≠ .nil := by
 cases T with
 | nil => simp [innerB] at h
 | node n p l r =>
  cases l with
  | nil => simp [innerB] at h
  | node _ _ _ _ => simp [lT, rT]
theorem inner_lT (m : Bool) {T : Tr} (hk : Ok T) (h : innerB T = true) : lT m T ≠ .nil := by
 cases m with
 | false => exact (inner_ne h).1
 | true => exact ok_ne (ok_split true hk (.inr (inner_ne h).2)).1
/-- What a step does: the size, the form, the sums, the violations. -/
structure Does (X Y : Tr) : Prop where
 size : sizeT Y = sizeT X
 top : 0 ≤ wt Y ∧ wt Y ≤ 1000001
 ok : wt Y ≤ 1000000 → Ok Y
 ok1 : Ok (setW Y 1)
 sums : ∀ a, sums Y a = sums X a
 all : allT (fun n => n.f1 = 0) X → allT (fun n => n.f1 = 0) Y
theorem set_put (m : Bool) (k x y : Int) (L R : Tr) : setW (putT m k x L R) y = putT m k y L R := rfl
set_option maxHeartbeats 2000000 in
theorem do1_does (m : Bool) {X : Tr} (hX : Ok X) (hc : can1 m X = true) : Does X (do1 m X) := by
 simp only [can1, Bool.and_eq_true, Bool.or_eq_true, decide_eq_true_eq, beq_iff_eq] at hc
 have ne_L : lT m X ≠ .nil := wt_pos_ne (by omega)
 have k_X := ok_split m hX (.inl ne_L)
 have ok_L := k_X.1
 have ok_R := k_X.2
 have w_L := ok_wt ok_L
 have n_L := ok_ne ok_L
 have w_R := ok_wt ok_R
 have n_R := ok_ne ok_R
 have w_X := ok_wt hX
 have n_X := ok_ne hX
 have s_X := size_split m n_X
 have hw : wrap64 (wt X - 1) = wt X - 1 := Go.IntWalk.wrap64_in _ (by omega)
 have hw1 : wrap64 (wt X + 1) = wt X + 1 := Go.IntWalk.wrap64_in _ (by omega)
 have hw_L : wrap64 (wt (lT m X) - 1) = wt (lT m X) - 1 := Go.IntWalk.wrap64_in _ (by omega)
 have hw_R : wrap64 (wt (rT m X) - 1) = wt (rT m X) - 1 := Go.IntWalk.wrap64_in _ (by omega)
 unfold do1
 try unfold lessT
 try simp only [hw, hw1, hw_L, hw_R]
 refine ⟨?_, ?_, ?_, ?_, ?_, ?_⟩
 ·simp only [size_put, size_as]; omega
 ·simp only [wt_put]; omega
 ·intro hy; simp only [wt_put] at hy; repeat (first | assumption | (refine ok_put (by omega) ?_ ?_) | (refine ok_as (by omega) ?_))
 ·rw [set_put]; repeat (first | assumption | (refine ok_put (by omega) ?_ ?_) | (refine ok_as (by omega) ?_))
 ·intro a
  have e_X : ∀ a, sums (X) a = _ := sums_split m hX n_L
  cases m
  ·simp only [if_true, if_false, Bool.false_eq_true] at e_X
   simp only [e_X]
   repeat rw [sums_put _ _ _ (by first | exact put_ne _ _ _ _ _ | exact as_ne _ (by assumption) | assumption) (by first | exact put_ne _ _ _ _ _ | exact as_ne _ (by assumption) | assumption)]
   try simp only [if_true, if_false, Bool.false_eq_true]
   repeat rw [sums_as _ (by assumption)]
   try simp only [List.append_assoc]
   repeat (first | rfl | (refine congr (congrArg HAppend.hAppend (congrArg _ (by omega))) ?_) | (refine congrArg _ (by omega)))
  ·simp only [if_true, if_false, Bool.false_eq_true] at e_X
   simp only [e_X]
   repeat rw [sums_put _ _ _ (by first | exact put_ne _ _ _ _ _ | exact as_ne _ (by assumption) | assumption) (by first | exact put_ne _ _ _ _ _ | exact as_ne _ (by assumption) | assumption)]
   try simp only [if_true, if_false, Bool.false_eq_true]
   repeat rw [sums_as _ (by assumption)]
   try simp only [List.append_assoc]
   repeat (first | rfl | (refine congr (congrArg HAppend.hAppend (congrArg _ (by omega))) ?_) | (refine congrArg _ (by omega)))
 ·intro ha; repeat (first | assumption | (refine all_put rfl ?_ ?_) | (refine all_as ?_) | (refine all_l ?_) | (refine all_r ?_))
set_option maxHeartbeats 2000000 in
theorem do2_does (m : Bool) {X : Tr} (hX : Ok X) (hc : can2 m X = true) : Does X (do2 m X) := by
 simp only [can2, Bool.and_eq_true, Bool.or_eq_true, decide_eq_true_eq, beq_iff_eq] at hc
 have ne_L : lT m X ≠ .nil := wt_pos_ne (by omega)
 have k_X := ok_split m hX (.inl ne_L)
 have ok_L := k_X.1
 have ok_R := k_X.2
 have ne_LL : lT m (lT m X) ≠ .nil := wt_pos_ne (by omega)
 have k_L := ok_split m ok_L (.inl ne_LL)
 have ok_LL := k_L.1
 have ok_LR := k_L.2
 have w_L := ok_wt ok_L
 have n_L := ok_ne ok_L
 have w_R := ok_wt ok_R
 have n_R := ok_ne ok_R
 have w_LL := ok_wt ok_LL
 have n_LL := ok_ne ok_LL
 have w_LR := ok_wt ok_LR
 have n_LR := ok_ne ok_LR
 have w_X := ok_wt hX
 have n_X := ok_ne hX
 have s_X := size_split m n_X
 have s_L := size_split m n_L
 have hw : wrap64 (wt X - 1) = wt X - 1 := Go.IntWalk.wrap64_in _ (by omega)
 have hw1 : wrap64 (wt X + 1) = wt X + 1 := Go.IntWalk.wrap64_in _ (by omega)
 unfold do2
 try unfold lessT
 try simp only [hw, hw1]
 refine ⟨?_, ?_, ?_, ?_, ?_, ?_⟩
 ·simp only [size_put, size_as]; omega
 ·simp only [wt_put]; omega
 ·intro hy; simp only [wt_put] at hy; repeat (first | assumption | (refine ok_put (by omega) ?_ ?_) | (refine ok_as (by omega) ?_))
 ·rw [set_put]; repeat (first | assumption | (refine ok_put (by omega) ?_ ?_) | (refine ok_as (by omega) ?_))
 ·intro a
  have e_X : ∀ a, sums (X) a = _ := sums_split m hX n_L
  have e_L : ∀ a, sums (lT m X) a = _ := sums_split m ok_L n_LL
  cases m
  ·simp only [if_true, if_false, Bool.false_eq_true] at e_X e_L
   simp only [e_X, e_L]
   repeat rw [sums_put _ _ _ (by first | exact put_ne _ _ _ _ _ | exact as_ne _ (by assumption) | assumption) (by first | exact put_ne _ _ _ _ _ | exact as_ne _ (by assumption) | assumption)]
   try simp only [if_true, if_false, Bool.false_eq_true]
   try simp only [List.append_assoc]
   repeat (first | rfl | (refine congr (congrArg HAppend.hAppend (congrArg _ (by omega))) ?_) | (refine congrArg _ (by omega)))
  ·simp only [if_true, if_false, Bool.false_eq_true] at e_X e_L
   simp only [e_X, e_L]
   repeat rw [sums_put _ _ _ (by first | exact put_ne _ _ _ _ _ | exact as_ne _ (by assumption) | assumption) (by first | exact put_ne _ _ _ _ _ | exact as_ne _ (by assumption) | assumption)]
   try simp only [if_true, if_false, Bool.false_eq_true]
   try simp only [List.append_assoc]
   repeat (first | rfl | (refine congr (congrArg HAppend.hAppend (congrArg _ (by omega))) ?_) | (refine congrArg _ (by omega)))
 ·intro ha; repeat (first | assumption | (refine all_put rfl ?_ ?_) | (refine all_as ?_) | (refine all_l ?_) | (refine all_r ?_))
set_option maxHeartbeats 2000000 in
theorem do3_does (m : Bool) {X : Tr} (hX : Ok X) (hc : can3 m X = true) : Does X (do3 m X) := by
 simp only [can3, Bool.and_eq_true, Bool.or_eq_true, decide_eq_true_eq, beq_iff_eq] at hc
 have ne_L : lT m X ≠ .nil := wt_pos_ne (by omega)
 have k_X := ok_split m hX (.inl ne_L)
 have ok_L := k_X.1
 have ok_R := k_X.2
 have ne_LR : rT m (lT m X) ≠ .nil := wt_pos_ne (by omega)
 have k_L := ok_split m ok_L (.inr ne_LR)
 have ok_LL := k_L.1
 have ok_LR := k_L.2
 have ne_LRL : lT m (rT m (lT m X)) ≠ .nil := inner_lT m ok_LR (by simp only [hc])
 have k_LR := ok_split m ok_LR (.inl ne_LRL)
 have ok_LRL := k_LR.1
 have ok_LRR := k_LR.2
 have w_L := ok_wt ok_L
 have n_L := ok_ne ok_L
 have w_R := ok_wt ok_R
 have n_R := ok_ne ok_R
 have w_LL := ok_wt ok_LL
 have n_LL := ok_ne ok_LL
 have w_LR := ok_wt ok_LR
 have n_LR := ok_ne ok_LR
 have w_LRL := ok_wt ok_LRL
 have n_LRL := ok_ne ok_LRL
 have w_LRR := ok_wt ok_LRR
 have n_LRR := ok_ne ok_LRR
 have w_X := ok_wt hX
 have n_X := ok_ne hX
 have s_X := size_split m n_X
 have s_L := size_split m n_L
 have s_LR := size_split m n_LR
 have hw : wrap64 (wt X - 1) = wt X - 1 := Go.IntWalk.wrap64_in _ (by omega)
 have hw1 : wrap64 (wt X + 1) = wt X + 1 := Go.IntWalk.wrap64_in _ (by omega)
 unfold do3
 try unfold lessT
 try simp only [hw, hw1]
 refine ⟨?_, ?_, ?_, ?_, ?_, ?_⟩
 ·simp only [size_put, size_as]; omega
 ·simp only [wt_put]; omega
 ·intro hy; simp only [wt_put] at hy; repeat (first | assumption | (refine ok_put (by omega) ?_ ?_) | (refine ok_as (by omega) ?_))
 ·rw [set_put]; repeat (first | assumption | (refine ok_put (by omega) ?_ ?_) | (refine ok_as (by omega) ?_))
 ·intro a
  have e_X : ∀ a, sums (X) a = _ := sums_split m hX n_L
  have e_L : ∀ a, sums (lT m X) a = _ := sums_split m ok_L n_LL
  have e_LR : ∀ a, sums (rT m (lT m X)) a = _ := sums_split m ok_LR n_LRL
  cases m
  ·simp only [if_true, if_false, Bool.false_eq_true] at e_X e_L e_LR
   simp only [e_X, e_L, e_LR]
   repeat rw [sums_put _ _ _ (by first | exact put_ne _ _ _ _ _ | exact as_ne _ (by assumption) | assumption) (by first | exact put_ne _ _ _ _ _ | exact as_ne _ (by assumption) | assumption)]
   try simp only [if_true, if_false, Bool.false_eq_true]
   try simp only [List.append_assoc]
   repeat (first | rfl | (refine congr (congrArg HAppend.hAppend (congrArg _ (by omega))) ?_) | (refine congrArg _ (by omega)))
  ·simp only [if_true, if_false, Bool.false_eq_true] at e_X e_L e_LR
   simp only [e_X, e_L, e_LR]
   repeat rw [sums_put _ _ _ (by first | exact put_ne _ _ _ _ _ | exact as_ne _ (by assumption) | assumption) (by first | exact put_ne _ _ _ _ _ | exact as_ne _ (by assumption) | assumption)]
   try simp only [if_true, if_false, Bool.false_eq_true]
   try simp only [List.append_assoc]
   repeat (first | rfl | (refine congr (congrArg HAppend.hAppend (congrArg _ (by omega))) ?_) | (refine congrArg _ (by omega)))
 ·intro ha; repeat (first | assumption | (refine all_put rfl ?_ ?_) | (refine all_as ?_) | (refine all_l ?_) | (refine all_r ?_))
set_option maxHeartbeats 2000000 in
theorem do4_does (m : Bool) {X : Tr} (hX : Ok X) (hc : can4 m X = true) : Does X (do4 m X) := by
 simp only [can4, Bool.and_eq_true, Bool.or_eq_true, decide_eq_true_eq, beq_iff_eq] at hc
 have ne_L : lT m X ≠ .nil := wt_pos_ne (by omega)
 have k_X := ok_split m hX (.inl ne_L)
 have ok_L := k_X.1
 have ok_R := k_X.2
 have w_L := ok_wt ok_L
 have n_L := ok_ne ok_L
 have w_R := ok_wt ok_R
 have n_R := ok_ne ok_R
 have w_X := ok_wt hX
 have n_X := ok_ne hX
 have s_X := size_split m n_X
 have hw : wrap64 (wt X - 1) = wt X - 1 := Go.IntWalk.wrap64_in _ (by omega)
 have hw1 : wrap64 (wt X + 1) = wt X + 1 := Go.IntWalk.wrap64_in _ (by omega)
 have hw_L : wrap64 (wt (lT m X) - 1) = wt (lT m X) - 1 := Go.IntWalk.wrap64_in _ (by omega)
 have hw_R : wrap64 (wt (rT m X) - 1) = wt (rT m X) - 1 := Go.IntWalk.wrap64_in _ (by omega)
 unfold do4
 try unfold lessT
 try simp only [hw, hw1, hw_L, hw_R]
 refine ⟨?_, ?_, ?_, ?_, ?_, ?_⟩
 ·simp only [size_put, size_as]; omega
 ·simp only [wt_put]; omega
 ·intro hy; simp only [wt_put] at hy; repeat (first | assumption | (refine ok_put (by omega) ?_ ?_) | (refine ok_as (by omega) ?_))
 ·rw [set_put]; repeat (first | assumption | (refine ok_put (by omega) ?_ ?_) | (refine ok_as (by omega) ?_))
 ·intro a
  have e_X : ∀ a, sums (X) a = _ := sums_split m hX n_L
  cases m
  ·simp only [if_true, if_false, Bool.false_eq_true] at e_X
   simp only [e_X]
   repeat rw [sums_put _ _ _ (by first | exact put_ne _ _ _ _ _ | exact as_ne _ (by assumption) | assumption) (by first | exact put_ne _ _ _ _ _ | exact as_ne _ (by assumption) | assumption)]
   try simp only [if_true, if_false, Bool.false_eq_true]
   repeat rw [sums_as _ (by assumption)]
   try simp only [List.append_assoc]
   repeat (first | rfl | (refine congr (congrArg HAppend.hAppend (congrArg _ (by omega))) ?_) | (refine congrArg _ (by omega)))
  ·simp only [if_true, if_false, Bool.false_eq_true] at e_X
   simp only [e_X]
   repeat rw [sums_put _ _ _ (by first | exact put_ne _ _ _ _ _ | exact as_ne _ (by assumption) | assumption) (by first | exact put_ne _ _ _ _ _ | exact as_ne _ (by assumption) | assumption)]
   try simp only [if_true, if_false, Bool.false_eq_true]
   repeat rw [sums_as _ (by assumption)]
   try simp only [List.append_assoc]
   repeat (first | rfl | (refine congr (congrArg HAppend.hAppend (congrArg _ (by omega))) ?_) | (refine congrArg _ (by omega)))
 ·intro ha; repeat (first | assumption | (refine all_put rfl ?_ ?_) | (refine all_as ?_) | (refine all_l ?_) | (refine all_r ?_))
set_option maxHeartbeats 2000000 in
theorem do5_does (m : Bool) {X : Tr} (hX : Ok X) (hc : can5 m X = true) : Does X (do5 m X) := by
 simp only [can5, Bool.and_eq_true, Bool.or_eq_true, decide_eq_true_eq, beq_iff_eq] at hc
 have ne_L : lT m X ≠ .nil := wt_pos_ne (by omega)
 have k_X := ok_split m hX (.inl ne_L)
 have ok_L := k_X.1
 have ok_R := k_X.2
 have ne_RL : lT m (rT m X) ≠ .nil := wt_pos_ne (by omega)
 have k_R := ok_split m ok_R (.inl ne_RL)
 have ok_RL := k_R.1
 have ok_RR := k_R.2
 have w_L := ok_wt ok_L
 have n_L := ok_ne ok_L
 have w_R := ok_wt ok_R
 have n_R := ok_ne ok_R
 have w_RL := ok_wt ok_RL
 have n_RL := ok_ne ok_RL
 have w_RR := ok_wt ok_RR
 have n_RR := ok_ne ok_RR
 have w_X := ok_wt hX
 have n_X := ok_ne hX
 have s_X := size_split m n_X
 have s_R := size_split m n_R
 have hw : wrap64 (wt X - 1) = wt X - 1 := Go.IntWalk.wrap64_in _ (by omega)
 have hw1 : wrap64 (wt X + 1) = wt X + 1 := Go.IntWalk.wrap64_in _ (by omega)
 have hw_L : wrap64 (wt (lT m X) - 1) = wt (lT m X) - 1 := Go.IntWalk.wrap64_in _ (by omega)
 have hw_RL : wrap64 (wt (lT m (rT m X)) - 1) = wt (lT m (rT m X)) - 1 := Go.IntWalk.wrap64_in _ (by omega)
 unfold do5
 try unfold lessT
 try simp only [hw, hw1, hw_L, hw_RL]
 refine ⟨?_, ?_, ?_, ?_, ?_, ?_⟩
 ·simp only [size_put, size_as]; omega
 ·simp only [wt_put]; omega
 ·intro hy; simp only [wt_put] at hy; repeat (first | assumption | (refine ok_put (by omega) ?_ ?_) | (refine ok_as (by omega) ?_))
 ·rw [set_put]; repeat (first | assumption | (refine ok_put (by omega) ?_ ?_) | (refine ok_as (by omega) ?_))
 ·intro a
  have e_X : ∀ a, sums (X) a = _ := sums_split m hX n_L
  have e_R : ∀ a, sums (rT m X) a = _ := sums_split m ok_R n_RL
  cases m
  ·simp only [if_true, if_false, Bool.false_eq_true] at e_X e_R
   simp only [e_X, e_R]
   repeat rw [sums_put _ _ _ (by first | exact put_ne _ _ _ _ _ | exact as_ne _ (by assumption) | assumption) (by first | exact put_ne _ _ _ _ _ | exact as_ne _ (by assumption) | assumption)]
   try simp only [if_true, if_false, Bool.false_eq_true]
   repeat rw [sums_as _ (by assumption)]
   try simp only [List.append_assoc]
   repeat (first | rfl | (refine congr (congrArg HAppend.hAppend (congrArg _ (by omega))) ?_) | (refine congrArg _ (by omega)))
  ·simp only [if_true, if_false, Bool.false_eq_true] at e_X e_R
   simp only [e_X, e_R]
   repeat rw [sums_put _ _ _ (by first | exact put_ne _ _ _ _ _ | exact as_ne _ (by assumption) | assumption) (by first | exact put_ne _ _ _ _ _ | exact as_ne _ (by assumption) | assumption)]
   try simp only [if_true, if_false, Bool.false_eq_true]
   repeat rw [sums_as _ (by assumption)]
   try simp only [List.append_assoc]
   repeat (first | rfl | (refine congr (congrArg HAppend.hAppend (congrArg _ (by omega))) ?_) | (refine congrArg _ (by omega)))
 ·intro ha; repeat (first | assumption | (refine all_put rfl ?_ ?_) | (refine all_as ?_) | (refine all_l ?_) | (refine all_r ?_))
set_option maxHeartbeats 2000000 in
theorem do6_does (m : Bool) {X : Tr} (hX : Ok X) (hc : can6 m X = true) : Does X (do6 m X) := by
 simp only [can6, Bool.and_eq_true, Bool.or_eq_true, decide_eq_true_eq, beq_iff_eq] at hc
 have ne_L : lT m X ≠ .nil := wt_pos_ne (by omega)
 have k_X := ok_split m hX (.inl ne_L)
 have ok_L := k_X.1
 have ok_R := k_X.2
 have ne_RL : lT m (rT m X) ≠ .nil := wt_pos_ne (by omega)
 have k_R := ok_split m ok_R (.inl ne_RL)
 have ok_RL := k_R.1
 have ok_RR := k_R.2
 have w_L := ok_wt ok_L
 have n_L := ok_ne ok_L
 have w_R := ok_wt ok_R
 have n_R := ok_ne ok_R
 have w_RL := ok_wt ok_RL
 have n_RL := ok_ne ok_RL
 have w_RR := ok_wt ok_RR
 have n_RR := ok_ne ok_RR
 have w_X := ok_wt hX
 have n_X := ok_ne hX
 have s_X := size_split m n_X
 have s_R := size_split m n_R
 have hw : wrap64 (wt X - 1) = wt X - 1 := Go.IntWalk.wrap64_in _ (by omega)
 have hw1 : wrap64 (wt X + 1) = wt X + 1 := Go.IntWalk.wrap64_in _ (by omega)
 have hw_L : wrap64 (wt (lT m X) - 1) = wt (lT m X) - 1 := Go.IntWalk.wrap64_in _ (by omega)
 have hw_RL : wrap64 (wt (lT m (rT m X)) - 1) = wt (lT m (rT m X)) - 1 := Go.IntWalk.wrap64_in _ (by omega)
 unfold do6
 try unfold lessT
 try simp only [hw, hw1, hw_L, hw_RL]
 refine ⟨?_, ?_, ?_, ?_, ?_, ?_⟩
 ·simp only [size_put, size_as]; omega
 ·simp only [wt_put]; omega
 ·intro hy; simp only [wt_put] at hy; repeat (first | assumption | (refine ok_put (by omega) ?_ ?_) | (refine ok_as (by omega) ?_))
 ·rw [set_put]; repeat (first | assumption | (refine ok_put (by omega) ?_ ?_) | (refine ok_as (by omega) ?_))
 ·intro a
  have e_X : ∀ a, sums (X) a = _ := sums_split m hX n_L
  have e_R : ∀ a, sums (rT m X) a = _ := sums_split m ok_R n_RL
  cases m
  ·simp only [if_true, if_false, Bool.false_eq_true] at e_X e_R
   simp only [e_X, e_R]
   repeat rw [sums_put _ _ _ (by first | exact put_ne _ _ _ _ _ | exact as_ne _ (by assumption) | assumption) (by first | exact put_ne _ _ _ _ _ | exact as_ne _ (by assumption) | assumption)]
   try simp only [if_true, if_false, Bool.false_eq_true]
   repeat rw [sums_as _ (by assumption)]
   try simp only [List.append_assoc]
   repeat (first | rfl | (refine congr (congrArg HAppend.hAppend (congrArg _ (by omega))) ?_) | (refine congrArg _ (by omega)))
  ·simp only [if_true, if_false, Bool.false_eq_true] at e_X e_R
   simp only [e_X, e_R]
   repeat rw [sums_put _ _ _ (by first | exact put_ne _ _ _ _ _ | exact as_ne _ (by assumption) | assumption) (by first | exact put_ne _ _ _ _ _ | exact as_ne _ (by assumption) | assumption)]
   try simp only [if_true, if_false, Bool.false_eq_true]
   repeat rw [sums_as _ (by assumption)]
   try simp only [List.append_assoc]
   repeat (first | rfl | (refine congr (congrArg HAppend.hAppend (congrArg _ (by omega))) ?_) | (refine congrArg _ (by omega)))
 ·intro ha; repeat (first | assumption | (refine all_put rfl ?_ ?_) | (refine all_as ?_) | (refine all_l ?_) | (refine all_r ?_))
set_option maxHeartbeats 2000000 in
theorem do7_does (m : Bool) {X : Tr} (hX : Ok X) (hc : can7 m X = true) : Does X (do7 m X) := by
 simp only [can7, Bool.and_eq_true, Bool.or_eq_true, decide_eq_true_eq, beq_iff_eq] at hc
 have ne_L : lT m X ≠ .nil := wt_pos_ne (by omega)
 have k_X := ok_split m hX (.inl ne_L)
 have ok_L := k_X.1
 have ok_R := k_X.2
 have ne_RL : lT m (rT m X) ≠ .nil := wt_pos_ne (by omega)
 have k_R := ok_split m ok_R (.inl ne_RL)
 have ok_RL := k_R.1
 have ok_RR := k_R.2
 have ne_A : lT m (lT m (rT m X)) ≠ .nil := wt_pos_ne (by omega)
 have k_RL := ok_split m ok_RL (.inl ne_A)
 have ok_A := k_RL.1
 have ok_B := k_RL.2
 have ne_AL : lT m (lT m (lT m (rT m X))) ≠ .nil := inner_lT m ok_A (by simp only [hc])
 have k_A := ok_split m ok_A (.inl ne_AL)
 have ok_AL := k_A.1
 have ok_AR := k_A.2
 have w_L := ok_wt ok_L
 have n_L := ok_ne ok_L
 have w_R := ok_wt ok_R
 have n_R := ok_ne ok_R
 have w_RL := ok_wt ok_RL
 have n_RL := ok_ne ok_RL
 have w_RR := ok_wt ok_RR
 have n_RR := ok_ne ok_RR
 have w_A := ok_wt ok_A
 have n_A := ok_ne ok_A
 have w_B := ok_wt ok_B
 have n_B := ok_ne ok_B
 have w_AL := ok_wt ok_AL
 have n_AL := ok_ne ok_AL
 have w_AR := ok_wt ok_AR
 have n_AR := ok_ne ok_AR
 have w_X := ok_wt hX
 have n_X := ok_ne hX
 have s_X := size_split m n_X
 have s_R := size_split m n_R
 have s_RL := size_split m n_RL
 have s_A := size_split m n_A
 have hw : wrap64 (wt X - 1) = wt X - 1 := Go.IntWalk.wrap64_in _ (by omega)
 have hw1 : wrap64 (wt X + 1) = wt X + 1 := Go.IntWalk.wrap64_in _ (by omega)
 have hw_L : wrap64 (wt (lT m X) - 1) = wt (lT m X) - 1 := Go.IntWalk.wrap64_in _ (by omega)
 unfold do7
 try unfold lessT
 try simp only [hw, hw1, hw_L]
 refine ⟨?_, ?_, ?_, ?_, ?_, ?_⟩
 ·simp only [size_put, size_as]; omega
 ·simp only [wt_put]; omega
 ·intro hy; simp only [wt_put] at hy; repeat (first | assumption | (refine ok_put (by omega) ?_ ?_) | (refine ok_as (by omega) ?_))
 ·rw [set_put]; repeat (first | assumption | (refine ok_put (by omega) ?_ ?_) | (refine ok_as (by omega) ?_))
 ·intro a
  have e_X : ∀ a, sums (X) a = _ := sums_split m hX n_L
  have e_R : ∀ a, sums (rT m X) a = _ := sums_split m ok_R n_RL
  have e_RL : ∀ a, sums (lT m (rT m X)) a = _ := sums_split m ok_RL n_A
  have e_A : ∀ a, sums (lT m (lT m (rT m X))) a = _ := sums_split m ok_A n_AL
  cases m
  ·simp only [if_true, if_false, Bool.false_eq_true] at e_X e_R e_RL e_A
   simp only [e_X, e_R, e_RL, e_A]
   repeat rw [sums_put _ _ _ (by first | exact put_ne _ _ _ _ _ | exact as_ne _ (by assumption) | assumption) (by first | exact put_ne _ _ _ _ _ | exact as_ne _ (by assumption) | assumption)]
   try simp only [if_true, if_false, Bool.false_eq_true]
   repeat rw [sums_as _ (by assumption)]
   try simp only [List.append_assoc]
   repeat (first | rfl | (refine congr (congrArg HAppend.hAppend (congrArg _ (by omega))) ?_) | (refine congrArg _ (by omega)))
  ·simp only [if_true, if_false, Bool.false_eq_true] at e_X e_R e_RL e_A
   simp only [e_X, e_R, e_RL, e_A]
   repeat rw [sums_put _ _ _ (by first | exact put_ne _ _ _ _ _ | exact as_ne _ (by assumption) | assumption) (by first | exact put_ne _ _ _ _ _ | exact as_ne _ (by assumption) | assumption)]
   try simp only [if_true, if_false, Bool.false_eq_true]
   repeat rw [sums_as _ (by assumption)]
   try simp only [List.append_assoc]
   repeat (first | rfl | (refine congr (congrArg HAppend.hAppend (congrArg _ (by omega))) ?_) | (refine congrArg _ (by omega)))
 ·intro ha; repeat (first | assumption | (refine all_put rfl ?_ ?_) | (refine all_as ?_) | (refine all_l ?_) | (refine all_r ?_))
set_option maxHeartbeats 2000000 in
theorem do8_does (m : Bool) {X : Tr} (hX : Ok X) (hc : can8 m X = true) : Does X (do8 m X) := by
 simp only [can8, Bool.and_eq_true, Bool.or_eq_true, decide_eq_true_eq, beq_iff_eq] at hc
 have ne_L : lT m X ≠ .nil := wt_pos_ne (by omega)
 have k_X := ok_split m hX (.inl ne_L)
 have ok_L := k_X.1
 have ok_R := k_X.2
 have ne_RL : lT m (rT m X) ≠ .nil := wt_pos_ne (by omega)
 have k_R := ok_split m ok_R (.inl ne_RL)
 have ok_RL := k_R.1
 have ok_RR := k_R.2
 have ne_B : rT m (lT m (rT m X)) ≠ .nil := wt_pos_ne (by omega)
 have k_RL := ok_split m ok_RL (.inr ne_B)
 have ok_A := k_RL.1
 have ok_B := k_RL.2
 have w_L := ok_wt ok_L
 have n_L := ok_ne ok_L
 have w_R := ok_wt ok_R
 have n_R := ok_ne ok_R
 have w_RL := ok_wt ok_RL
 have n_RL := ok_ne ok_RL
 have w_RR := ok_wt ok_RR
 have n_RR := ok_ne ok_RR
 have w_A := ok_wt ok_A
 have n_A := ok_ne ok_A
 have w_B := ok_wt ok_B
 have n_B := ok_ne ok_B
 have w_X := ok_wt hX
 have n_X := ok_ne hX
 have s_X := size_split m n_X
 have s_R := size_split m n_R
 have s_RL := size_split m n_RL
 have hw : wrap64 (wt X - 1) = wt X - 1 := Go.IntWalk.wrap64_in _ (by omega)
 have hw1 : wrap64 (wt X + 1) = wt X + 1 := Go.IntWalk.wrap64_in _ (by omega)
 have hw_L : wrap64 (wt (lT m X) - 1) = wt (lT m X) - 1 := Go.IntWalk.wrap64_in _ (by omega)
 have hw_B : wrap64 (wt (rT m (lT m (rT m X))) - 1) = wt (rT m (lT m (rT m X))) - 1 := Go.IntWalk.wrap64_in _ (by omega)
 unfold do8
 try unfold lessT
 try simp only [hw, hw1, hw_L, hw_B]
 refine ⟨?_, ?_, ?_, ?_, ?_, ?_⟩
 ·simp only [size_put, size_as]; omega
 ·simp only [wt_put]; omega
 ·intro hy; simp only [wt_put] at hy; repeat (first | assumption | (refine ok_put (by omega) ?_ ?_) | (refine ok_as (by omega) ?_))
 ·rw [set_put]; repeat (first | assumption | (refine ok_put (by omega) ?_ ?_) | (refine ok_as (by omega) ?_))
 ·intro a
  have e_X : ∀ a, sums (X) a = _ := sums_split m hX n_L
  have e_R : ∀ a, sums (rT m X) a = _ := sums_split m ok_R n_RL
  have e_RL : ∀ a, sums (lT m (rT m X)) a = _ := sums_split m ok_RL n_A
  cases m
  ·simp only [if_true, if_false, Bool.false_eq_true] at e_X e_R e_RL
   simp only [e_X, e_R, e_RL]
   repeat rw [sums_put _ _ _ (by first | exact put_ne _ _ _ _ _ | exact as_ne _ (by assumption) | assumption) (by first | exact put_ne _ _ _ _ _ | exact as_ne _ (by assumption) | assumption)]
   try simp only [if_true, if_false, Bool.false_eq_true]
   repeat rw [sums_as _ (by assumption)]
   try simp only [List.append_assoc]
   repeat (first | rfl | (refine congr (congrArg HAppend.hAppend (congrArg _ (by omega))) ?_) | (refine congrArg _ (by omega)))
  ·simp only [if_true, if_false, Bool.false_eq_true] at e_X e_R e_RL
   simp only [e_X, e_R, e_RL]
   repeat rw [sums_put _ _ _ (by first | exact put_ne _ _ _ _ _ | exact as_ne _ (by assumption) | assumption) (by first | exact put_ne _ _ _ _ _ | exact as_ne _ (by assumption) | assumption)]
   try simp only [if_true, if_false, Bool.false_eq_true]
   repeat rw [sums_as _ (by assumption)]
   try simp only [List.append_assoc]
   repeat (first | rfl | (refine congr (congrArg HAppend.hAppend (congrArg _ (by omega))) ?_) | (refine congrArg _ (by omega)))
 ·intro ha; repeat (first | assumption | (refine all_put rfl ?_ ?_) | (refine all_as ?_) | (refine all_l ?_) | (refine all_r ?_))
set_option maxHeartbeats 2000000 in
theorem do9_does (m : Bool) {X : Tr} (hX : Ok X) (hc : can9 m X = true) : Does X (do9 m X) := by
 simp only [can9, Bool.and_eq_true, Bool.or_eq_true, decide_eq_true_eq, beq_iff_eq] at hc
 have ne_L : lT m X ≠ .nil := wt_pos_ne (by omega)
 have k_X := ok_split m hX (.inl ne_L)
 have ok_L := k_X.1
 have ok_R := k_X.2
 have ne_RR : rT m (rT m X) ≠ .nil := wt_pos_ne (by omega)
 have k_R := ok_split m ok_R (.inr ne_RR)
 have ok_RL := k_R.1
 have ok_RR := k_R.2
 have w_L := ok_wt ok_L
 have n_L := ok_ne ok_L
 have w_R := ok_wt ok_R
 have n_R := ok_ne ok_R
 have w_RL := ok_wt ok_RL
 have n_RL := ok_ne ok_RL
 have w_RR := ok_wt ok_RR
 have n_RR := ok_ne ok_RR
 have w_X := ok_wt hX
 have n_X := ok_ne hX
 have s_X := size_split m n_X
 have s_R := size_split m n_R
 have hw : wrap64 (wt X - 1) = wt X - 1 := Go.IntWalk.wrap64_in _ (by omega)
 have hw1 : wrap64 (wt X + 1) = wt X + 1 := Go.IntWalk.wrap64_in _ (by omega)
 have hw_L : wrap64 (wt (lT m X) - 1) = wt (lT m X) - 1 := Go.IntWalk.wrap64_in _ (by omega)
 have hw_RR : wrap64 (wt (rT m (rT m X)) - 1) = wt (rT m (rT m X)) - 1 := Go.IntWalk.wrap64_in _ (by omega)
 unfold do9
 try unfold lessT
 try simp only [hw, hw1, hw_L, hw_RR]
 refine ⟨?_, ?_, ?_, ?_, ?_, ?_⟩
 ·simp only [size_put, size_as]; omega
 ·simp only [wt_put]; omega
 ·intro hy; simp only [wt_put] at hy; repeat (first | assumption | (refine ok_put (by omega) ?_ ?_) | (refine ok_as (by omega) ?_))
 ·rw [set_put]; repeat (first | assumption | (refine ok_put (by omega) ?_ ?_) | (refine ok_as (by omega) ?_))
 ·intro a
  have e_X : ∀ a, sums (X) a = _ := sums_split m hX n_L
  have e_R : ∀ a, sums (rT m X) a = _ := sums_split m ok_R n_RL
  cases m
  ·simp only [if_true, if_false, Bool.false_eq_true] at e_X e_R
   simp only [e_X, e_R]
   repeat rw [sums_put _ _ _ (by first | exact put_ne _ _ _ _ _ | exact as_ne _ (by assumption) | assumption) (by first | exact put_ne _ _ _ _ _ | exact as_ne _ (by assumption) | assumption)]
   try simp only [if_true, if_false, Bool.false_eq_true]
   repeat rw [sums_as _ (by assumption)]
   try simp only [List.append_assoc]
   repeat (first | rfl | (refine congr (congrArg HAppend.hAppend (congrArg _ (by omega))) ?_) | (refine congrArg _ (by omega)))
  ·simp only [if_true, if_false, Bool.false_eq_true] at e_X e_R
   simp only [e_X, e_R]
   repeat rw [sums_put _ _ _ (by first | exact put_ne _ _ _ _ _ | exact as_ne _ (by assumption) | assumption) (by first | exact put_ne _ _ _ _ _ | exact as_ne _ (by assumption) | assumption)]
   try simp only [if_true, if_false, Bool.false_eq_true]
   repeat rw [sums_as _ (by assumption)]
   try simp only [List.append_assoc]
   repeat (first | rfl | (refine congr (congrArg HAppend.hAppend (congrArg _ (by omega))) ?_) | (refine congrArg _ (by omega)))
 ·intro ha; repeat (first | assumption | (refine all_put rfl ?_ ?_) | (refine all_as ?_) | (refine all_l ?_) | (refine all_r ?_))
set_option maxHeartbeats 2000000 in
theorem do10_does (m : Bool) {X : Tr} (hX : Ok X) (hc : can10 m X = true) : Does X (do10 m X) := by
 simp only [can10, Bool.and_eq_true, Bool.or_eq_true, decide_eq_true_eq, beq_iff_eq] at hc
 have ne_L : lT m X ≠ .nil := wt_pos_ne (by omega)
 have k_X := ok_split m hX (.inl ne_L)
 have ok_L := k_X.1
 have ok_R := k_X.2
 have ne_RL : lT m (rT m X) ≠ .nil := wt_pos_ne (by omega)
 have k_R := ok_split m ok_R (.inl ne_RL)
 have ok_RL := k_R.1
 have ok_RR := k_R.2
 have ne_A : lT m (lT m (rT m X)) ≠ .nil := inner_lT m ok_RL (by simp only [hc])
 have k_RL := ok_split m ok_RL (.inl ne_A)
 have ok_A := k_RL.1
 have ok_B := k_RL.2
 have w_L := ok_wt ok_L
 have n_L := ok_ne ok_L
 have w_R := ok_wt ok_R
 have n_R := ok_ne ok_R
 have w_RL := ok_wt ok_RL
 have n_RL := ok_ne ok_RL
 have w_RR := ok_wt ok_RR
 have n_RR := ok_ne ok_RR
 have w_A := ok_wt ok_A
 have n_A := ok_ne ok_A
 have w_B := ok_wt ok_B
 have n_B := ok_ne ok_B
 have w_X := ok_wt hX
 have n_X := ok_ne hX
 have s_X := size_split m n_X
 have s_R := size_split m n_R
 have s_RL := size_split m n_RL
 have hw : wrap64 (wt X - 1) = wt X - 1 := Go.IntWalk.wrap64_in _ (by omega)
 have hw1 : wrap64 (wt X + 1) = wt X + 1 := Go.IntWalk.wrap64_in _ (by omega)
 have hw_L : wrap64 (wt (lT m X) - 1) = wt (lT m X) - 1 := Go.IntWalk.wrap64_in _ (by omega)
 unfold do10
 try unfold lessT
 try simp only [hw, hw1, hw_L]
 refine ⟨?_, ?_, ?_, ?_, ?_, ?_⟩
 ·simp only [size_put, size_as]; omega
 ·simp only [wt_put]; omega
 ·intro hy; simp only [wt_put] at hy; repeat (first | assumption | (refine ok_put (by omega) ?_ ?_) | (refine ok_as (by omega) ?_))
 ·rw [set_put]; repeat (first | assumption | (refine ok_put (by omega) ?_ ?_) | (refine ok_as (by omega) ?_))
 ·intro a
  have e_X : ∀ a, sums (X) a = _ := sums_split m hX n_L
  have e_R : ∀ a, sums (rT m X) a = _ := sums_split m ok_R n_RL
  have e_RL : ∀ a, sums (lT m (rT m X)) a = _ := sums_split m ok_RL n_A
  cases m
  ·simp only [if_true, if_false, Bool.false_eq_true] at e_X e_R e_RL
   simp only [e_X, e_R, e_RL]
   repeat rw [sums_put _ _ _ (by first | exact put_ne _ _ _ _ _ | exact as_ne _ (by assumption) | assumption) (by first | exact put_ne _ _ _ _ _ | exact as_ne _ (by assumption) | assumption)]
   try simp only [if_true, if_false, Bool.false_eq_true]
   repeat rw [sums_as _ (by assumption)]
   try simp only [List.append_assoc]
   repeat (first | rfl | (refine congr (congrArg HAppend.hAppend (congrArg _ (by omega))) ?_) | (refine congrArg _ (by omega)))
  ·simp only [if_true, if_false, Bool.false_eq_true] at e_X e_R e_RL
   simp only [e_X, e_R, e_RL]
   repeat rw [sums_put _ _ _ (by first | exact put_ne _ _ _ _ _ | exact as_ne _ (by assumption) | assumption) (by first | exact put_ne _ _ _ _ _ | exact as_ne _ (by assumption) | assumption)]
   try simp only [if_true, if_false, Bool.false_eq_true]
   repeat rw [sums_as _ (by assumption)]
   try simp only [List.append_assoc]
   repeat (first | rfl | (refine congr (congrArg HAppend.hAppend (congrArg _ (by omega))) ?_) | (refine congrArg _ (by omega)))
 ·intro ha; repeat (first | assumption | (refine all_put rfl ?_ ?_) | (refine all_as ?_) | (refine all_l ?_) | (refine all_r ?_))
set_option maxHeartbeats 2000000 in
theorem do11_does (m : Bool) {X : Tr} (hX : Ok X) (hc : can11 m X = true) : Does X (do11 m X) := by
 simp only [can11, Bool.and_eq_true, Bool.or_eq_true, decide_eq_true_eq, beq_iff_eq] at hc
 have ne_L : lT m X ≠ .nil := wt_pos_ne (by omega)
 have k_X := ok_split m hX (.inl ne_L)
 have ok_L := k_X.1
 have ok_R := k_X.2
 have w_L := ok_wt ok_L
 have n_L := ok_ne ok_L
 have w_R := ok_wt ok_R
 have n_R := ok_ne ok_R
 have w_X := ok_wt hX
 have n_X := ok_ne hX
 have s_X := size_split m n_X
 have hw : wrap64 (wt X - 1) = wt X - 1 := Go.IntWalk.wrap64_in _ (by omega)
 have hw1 : wrap64 (wt X + 1) = wt X + 1 := Go.IntWalk.wrap64_in _ (by omega)
 have hw_L : wrap64 (wt (lT m X) - 1) = wt (lT m X) - 1 := Go.IntWalk.wrap64_in _ (by omega)
 have hw_R : wrap64 (wt (rT m X) - 1) = wt (rT m X) - 1 := Go.IntWalk.wrap64_in _ (by omega)
 unfold do11
 try unfold lessT
 try simp only [hw, hw1, hw_L, hw_R]
 refine ⟨?_, ?_, ?_, ?_, ?_, ?_⟩
 ·simp only [size_put, size_as]; omega
 ·simp only [wt_put]; omega
 ·intro hy; simp only [wt_put] at hy; repeat (first | assumption | (refine ok_put (by omega) ?_ ?_) | (refine ok_as (by omega) ?_))
 ·rw [set_put]; repeat (first | assumption | (refine ok_put (by omega) ?_ ?_) | (refine ok_as (by omega) ?_))
 ·intro a
  have e_X : ∀ a, sums (X) a = _ := sums_split m hX n_L
  cases m
  ·simp only [if_true, if_false, Bool.false_eq_true] at e_X
   simp only [e_X]
   repeat rw [sums_put _ _ _ (by first | exact put_ne _ _ _ _ _ | exact as_ne _ (by assumption) | assumption) (by first | exact put_ne _ _ _ _ _ | exact as_ne _ (by assumption) | assumption)]
   try simp only [if_true, if_false, Bool.false_eq_true]
   repeat rw [sums_as _ (by assumption)]
   try simp only [List.append_assoc]
   repeat (first | rfl | (refine congr (congrArg HAppend.hAppend (congrArg _ (by omega))) ?_) | (refine congrArg _ (by omega)))
  ·simp only [if_true, if_false, Bool.false_eq_true] at e_X
   simp only [e_X]
   repeat rw [sums_put _ _ _ (by first | exact put_ne _ _ _ _ _ | exact as_ne _ (by assumption) | assumption) (by first | exact put_ne _ _ _ _ _ | exact as_ne _ (by assumption) | assumption)]
   try simp only [if_true, if_false, Bool.false_eq_true]
   repeat rw [sums_as _ (by assumption)]
   try simp only [List.append_assoc]
   repeat (first | rfl | (refine congr (congrArg HAppend.hAppend (congrArg _ (by omega))) ?_) | (refine congrArg _ (by omega)))
 ·intro ha; repeat (first | assumption | (refine all_put rfl ?_ ?_) | (refine all_as ?_) | (refine all_l ?_) | (refine all_r ?_))
end Go.Proofs.Ytgleaefhflamnaa.T
namespace Go.Proofs.Ytgleaefhflamnaa.T
open Go.RowKit Go.Proofs.YtgleaefhflamnaaW.PrintWords Go.Proofs.YtgleaefhflamnaaW.PrintLast Go.Proofs.YtgleaefhflamnaaW.PrintMore
theorem doT_does (m rt : Bool) {X : Tr} {kind : Int} (hk : 1 ≤ kind ∧ kind ≤ 12) (h12 : kind ≠ 12) (hX : Ok X) (hc : canT m rt X kind = true) : Does X (doT m X kind) := by
 have hd : kind = 1 ∨ kind = 2 ∨ kind = 3 ∨ kind = 4 ∨ kind = 5 ∨ kind = 6 ∨ kind = 7 ∨ kind = 8 ∨ kind = 9 ∨ kind = 10 ∨ kind = 11 := by omega
 rcases hd with rfl | rfl | rfl | rfl | rfl | rfl | rfl | rfl | rfl | rfl | rfl
 ·exact do1_does m hX hc
 ·exact do2_does m hX hc
 ·exact do3_does m hX hc
 ·exact do4_does m hX hc
 ·exact do5_does m hX hc
 ·exact do6_does m hX hc
 ·exact do7_does m hX hc
 ·exact do8_does m hX hc
 ·exact do9_does m hX hc
 ·exact do10_does m hX hc
 ·exact do11_does m hX hc
theorem can12 {m rt : Bool} {X : Tr} (hc : canT m rt X 12 = true) : rt = true ∧ wt X ≠ 1 := by
 have : (rt && wt X != 1) = true := hc
 simpa using this
theorem sums_set (x : Int) {Y : Tr} (h : Y ≠ .nil) (a : Int) : sums (setW Y x) a = sums Y (a + (x - wt Y)) := by
 cases Y with
 | nil => exact absurd rfl h
 | node n p l r =>
  cases l with
  | nil => simp only [setW, sums, wt]; congr 1; omega
  | node _ _ _ _ => simp only [setW, sums, wt]; rw [show a + (x - n.f2) + n.f2 = a + x by omega]
theorem size_set (x : Int) (Y : Tr) : sizeT (setW Y x) = sizeT Y := by cases Y <;> rfl
theorem all_set {x : Int} {T : Tr} (h : allT (fun n => n.f1 = 0) T) : allT (fun n => n.f1 = 0) (setW T x) := by
 cases T with
 | nil => exact h
 | node n p l r => exact h
theorem setW_as (x y : Int) (T : Tr) : setW (asT x T) y = asT y T := by cases T <;> rfl
/-- What stands in the place of X behind a move. -/
structure Gives (rt : Bool) (X R : Tr) : Prop where
 size : sizeT R = sizeT X
 ok : Ok R
 all : allT (fun n => n.f1 = 0) X → allT (fun n => n.f1 = 0) R
 plain : rt = false → ∀ a, sums R a = sums X a
 root : rt = true → wt R = 1 ∧ ∃ d, ∀ a, sums R a = sums X (a + d)
theorem ok_set_top {Y : Tr} (h : Ok (setW Y 1)) : Y ≠ .nil := by
 cases Y with
 | nil => exact h.elim
 | node _ _ _ _ => simp
theorem gives_root (m : Bool) {X : Tr} {kind : Int} (hk : 1 ≤ kind ∧ kind ≤ 12) (hX : Ok X) (hc : canT m true X kind = true) : Gives true X (setW (doT m X kind) 1) := by
 by_cases h12 : kind = 12
 ·subst h12
  have e : doT m X 12 = asT 1 X := rfl
  rw [e, setW_as]
  refine ⟨size_as 1, ok_as (by omega) hX, fun h => all_as h, fun h => absurd h (by simp), fun _ => ⟨wt_as 1 (ok_ne hX), 1 - wt X, fun a => ?_⟩⟩
  rw [sums_as 1 (ok_ne hX)]
  congr 1
  omega
 ·have h := doT_does m true hk h12 hX hc
  have hn := ok_set_top h.ok1
  refine ⟨by rw [size_set, h.size], h.ok1, fun ha => all_set (h.all ha), fun h => absurd h (by simp), fun _ => ⟨?_, 1 - wt (doT m X kind), fun a => ?_⟩⟩
  ·cases hd : doT m X kind with
   | nil => exact absurd hd hn
   | node _ _ _ _ => rfl
  ·rw [sums_set 1 hn, h.sums]
theorem gives_plain (m : Bool) {X : Tr} {kind : Int} (hk : 1 ≤ kind ∧ kind ≤ 12) (hX : Ok X) (hc : canT m false X kind = true) (hb : ¬ 1000000 < wt (doT m X kind)) : Gives false X (doT m X kind) := by
 have h12 : kind ≠ 12 := by rintro rfl; exact absurd (can12 hc).1 (by simp)
 have h := doT_does m false hk h12 hX hc
 exact ⟨h.size, h.ok (by omega), h.all, fun _ => h.sums, fun h => absurd h (by simp)⟩
/-- Another tree in the place of one. -/
def replT (c : Nat) (R : Tr) : Tr → Tr
 | .nil => .nil
 | .node n p l r => .node n p (if plc l = c then R else replT c R l) (if plc r = c then R else replT c R r)
theorem plc_nil (c : Nat) : ¬ plc .nil = (c : Int) := by simp only [plc]; omega
theorem mkR_eq (t : List S34) (c : Nat) (R : Tr) : ∀ (k i : Nat) (T : Tr), mkT t k i = some T → mkR t c R k i = some (replT c R T) := by
 intro k
 induction k with
 | zero => intro i T h; simp [mkT] at h
 | succ k ih =>
  intro i T h
  rw [mkT] at h
  rw [mkR]
  split at h
  case isFalse => exact absurd h (by simp)
  rename_i hi
  rw [if_pos hi]
  split at h
  ·rename_i h4
   obtain ⟨l, hl, h⟩ := Option.bind_eq_some_iff.1 h
   obtain ⟨r, hr, h⟩ := Option.bind_eq_some_iff.1 h
   obtain rfl := Option.some.inj h
   have e : ∀ (j : Nat) (S : Tr), mkT t k j = some S → (if j = c then some R else mkR t c R k j) = some (if plc S = c then R else replT c R S) := by
    intro j S hS
    rw [mkT_plc hS]
    by_cases ej : j = c
    ·rw [if_pos ej, if_pos (by omega)]
    ·rw [if_neg ej, if_neg (by omega), ih j S hS]
   rw [if_pos h4, e _ _ hl, Option.bind_some, e _ _ hr, Option.bind_some, replT]
  ·rename_i h4
   obtain rfl := Option.some.inj h
   rw [if_neg h4, replT, if_neg (plc_nil c), replT]
theorem ok_mkT {t : List S34} (hf : ∀ i, i < t.length → fmN (t.getD i z34) t.length = true) : ∀ {k i : Nat} {T : Tr}, mkT t k i = some T → Ok T := by
 intro k
 induction k with
 | zero => intro i T h; simp [mkT] at h
 | succ k ih =>
  intro i T h
  by_cases hl : (t.getD i z34).f4 = -1 ∧ (t.getD i z34).f5 = -1
  ·obtain ⟨hi, rfl⟩ := mkT_leaf hf h hl
   have := (fmN_iff _ _).1 (hf i hi)
   exact ⟨this.1, this.2.1, .inl ⟨rfl, rfl, hl⟩⟩
  ·obtain ⟨k', l, r, hk, hi, h1, h2, rfl⟩ := mkT_inner hf h hl
   obtain rfl : k = k' := by omega
   have := (fmN_iff _ _).1 (hf i hi)
   exact ⟨this.1, this.2.1, .inr ⟨by omega, ih h1, ih h2⟩⟩
theorem sub_ex {t : List S34} : ∀ {k i : Nat} {T : Tr}, mkT t k i = some T → ∀ p ∈ plT T, ∃ X, mkT t k p.toNat = some X ∧ (∀ P, allT P T → allT P X) := by
 intro k
 induction k with
 | zero => intro i T h; simp [mkT] at h
 | succ k ih =>
  intro i T h p hp
  have h0 := h
  rw [mkT] at h
  split at h
  case isFalse => exact absurd h (by simp)
  rename_i hi
  split at h
  ·obtain ⟨l, hl, h⟩ := Option.bind_eq_some_iff.1 h
   obtain ⟨r, hr, h⟩ := Option.bind_eq_some_iff.1 h
   obtain rfl := Option.some.inj h
   simp only [plT, List.mem_cons, List.mem_append] at hp
   rcases hp with rfl | hp | hp
   ·exact ⟨_, by rw [Int.toNat_natCast]; exact h0, fun _ h => h⟩
   ·obtain ⟨X, h1, h2⟩ := ih hl p hp
    exact ⟨X, mkT_mono _ _ _ _ h1, fun P h => h2 P h.2.1⟩
   ·obtain ⟨X, h1, h2⟩ := ih hr p hp
    exact ⟨X, mkT_mono _ _ _ _ h1, fun P h => h2 P h.2.2⟩
  ·obtain rfl := Option.some.inj h
   simp only [plT, List.append_nil, List.mem_cons, List.not_mem_nil, or_false] at hp
   subst hp
   exact ⟨_, by rw [Int.toNat_natCast]; exact h0, fun _ h => h⟩
theorem repl_ok {c : Nat} {R : Tr} (hR : Ok R) : ∀ {T : Tr}, Ok T → Ok (replT c R T)
 | .nil, h => h
 | .node n p l r, h => by
  rw [replT]
  refine ⟨h.1, h.2.1, ?_⟩
  rcases h.2.2 with ⟨rfl, rfl, h4, h5⟩ | ⟨h3, hl, hr⟩
  ·refine .inl ⟨?_, ?_, h4, h5⟩ <;> rw [if_neg (plc_nil c)] <;> rfl
  ·refine .inr ⟨h3, ?_, ?_⟩
   ·split
    ·exact hR
    ·exact repl_ok hR hl
   ·split
    ·exact hR
    ·exact repl_ok hR hr
/-- What is alike of a tree and of what stands in its place is alike of the whole. -/
theorem repl_sums {t : List S34} {c K : Nat} {X R : Tr} (hX : mkT t K c = some X) (hRn : R ≠ .nil) (hs : ∀ a, sums R a = sums X a) : ∀ (k i : Nat) (T : Tr), mkT t k i = some T → ∀ a, sums (replT c R T) a = sums T a := by
 intro k
 induction k with
 | zero => intro i T h; simp [mkT] at h
 | succ k ih =>
  intro i T h
  rw [mkT] at h
  split at h
  case isFalse => exact absurd h (by simp)
  rename_i hi
  split at h
  ·obtain ⟨l, hl, h⟩ := Option.bind_eq_some_iff.1 h
   obtain ⟨r, hr, h⟩ := Option.bind_eq_some_iff.1 h
   obtain rfl := Option.some.inj h
   have e : ∀ (j : Nat) (S : Tr), mkT t k j = some S → ∀ a, sums (if plc S = c then R else replT c R S) a = sums S a := by
    intro j S hS a
    split
    ·rename_i hp
     rw [mkT_plc hS] at hp
     obtain rfl : j = c := by omega
     rw [hs, mkT_fun t hS hX]
    ·exact ih j S hS a
   have hne : ∀ (j : Nat) (S : Tr), mkT t k j = some S → (if plc S = c then R else replT c R S) ≠ .nil := by
    intro j S hS
    split
    ·exact hRn
    ·cases S with
     | nil => exact absurd hS (fun h => mkT_nil h)
     | node _ _ _ _ => simp [replT]
   intro a
   rw [replT]
   have hl2 := e _ _ hl
   have hr2 := e _ _ hr
   have hn2 := hne _ _ hl
   generalize (if plc l = (c : Int) then R else replT c R l) = l' at *
   generalize (if plc r = (c : Int) then R else replT c R r) = r' at *
   cases l' with
   | nil => exact absurd rfl hn2
   | node n1 p1 x1 y1 =>
    cases l with
    | nil => exact absurd hl (fun h => mkT_nil h)
    | node n2 p2 x2 y2 => simp only [sums]; rw [hl2, hr2]
  ·obtain rfl := Option.some.inj h
   intro a
   rw [replT, if_neg (plc_nil c)]
   rfl
theorem repl_size {t : List S34} {c K : Nat} {X R : Tr} (hX : mkT t K c = some X) (hs : sizeT R = sizeT X) : ∀ (k i : Nat) (T : Tr), mkT t k i = some T → sizeT (replT c R T) = sizeT T := by
 intro k
 induction k with
 | zero => intro i T h; simp [mkT] at h
 | succ k ih =>
  intro i T h
  rw [mkT] at h
  split at h
  case isFalse => exact absurd h (by simp)
  rename_i hi
  split at h
  ·obtain ⟨l, hl, h⟩ := Option.bind_eq_some_iff.1 h
   obtain ⟨r, hr, h⟩ := Option.bind_eq_some_iff.1 h
   obtain rfl := Option.some.inj h
   have e : ∀ (j : Nat) (S : Tr), mkT t k j = some S → sizeT (if plc S = c then R else replT c R S) = sizeT S := by
    intro j S hS
    split
    ·rename_i hp
     rw [mkT_plc hS] at hp
     obtain rfl : j = c := by omega
     rw [hs, mkT_fun t hS hX]
    ·exact ih j S hS
   rw [replT, sizeT, e _ _ hl, e _ _ hr, sizeT]
  ·obtain rfl := Option.some.inj h
   rw [replT, if_neg (plc_nil c)]
   rfl
theorem repl_all {P : S34 → Prop} {c : Nat} {R : Tr} (hR : allT P R) : ∀ {T : Tr}, allT P T → allT P (replT c R T)
 | .nil, h => h
 | .node n p l r, h => by
  rw [replT]
  refine ⟨h.1, ?_, ?_⟩
  ·split
   ·exact hR
   ·exact repl_all hR h.2.1
  ·split
   ·exact hR
   ·exact repl_all hR h.2.2
/-- In the place of the tree of the keys. -/
def newX (c : Nat) (R X0 : Tr) : Tr := if plc X0 = c then R else replT c R X0
end Go.Proofs.Ytgleaefhflamnaa.T
namespace Go.Proofs.Ytgleaefhflamnaa.T
open Go.RowKit Go.Proofs.YtgleaefhflamnaaW.PrintWords Go.Proofs.YtgleaefhflamnaaW.PrintLast Go.Proofs.YtgleaefhflamnaaW.PrintMore
set_option linter.unusedVariables false
/-- The leaves' keys and values, from left to right. -/
def prs : Tr → List S78
 | .nil => []
 | .node n _ .nil _ => if n.f1 = 0 then [⟨n.f0, n.f3⟩] else []
 | .node _ _ (.node n p x y) r => prs (.node n p x y) ++ prs r
def inK (y : Int) (T : Tr) : Prop := ∃ q ∈ prs T, q.f0 = y
def Bst : Tr → Prop
 | .nil => True
 | .node _ _ .nil _ => True
 | .node n _ (.node a b c d) r => (∀ y, inK y (.node a b c d) → y < n.f0) ∧ (∀ y, inK y r → n.f0 ≤ y) ∧ Bst (.node a b c d) ∧ Bst r
theorem prs_inner (n : S34) (p : Int) {l : Tr} (r : Tr) (hl : l ≠ .nil) : prs (.node n p l r) = prs l ++ prs r := by
 cases l with
 | nil => exact absurd rfl hl
 | node _ _ _ _ => rfl
theorem bst_inner (n : S34) (p : Int) {l : Tr} (r : Tr) (hl : l ≠ .nil) : Bst (.node n p l r) ↔ ((∀ y, inK y l → y < n.f0) ∧ (∀ y, inK y r → n.f0 ≤ y) ∧ Bst l ∧ Bst r) := by
 cases l with
 | nil => exact absurd rfl hl
 | node _ _ _ _ => exact Iff.rfl
theorem inK_app {y : Int} {T A B : Tr} (h : prs T = prs A ++ prs B) : inK y T ↔ inK y A ∨ inK y B := by
 simp only [inK, h, List.mem_append]
 constructor
 ·rintro ⟨q, h | h, e⟩
  ·exact .inl ⟨q, h, e⟩
  ·exact .inr ⟨q, h, e⟩
 ·rintro (⟨q, h, e⟩ | ⟨q, h, e⟩)
  ·exact ⟨q, .inl h, e⟩
  ·exact ⟨q, .inr h, e⟩
theorem prs_split (m : Bool) {T : Tr} (h : Ok T) (hl : lT m T ≠ .nil) : prs T = if m then prs (rT m T) ++ prs (lT m T) else prs (lT m T) ++ prs (rT m T) := by
 have hk := ok_split m h (.inl hl)
 have h1 := ok_ne hk.1
 have h2 := ok_ne hk.2
 cases T with
 | nil => exact h.elim
 | node n p l r =>
  cases m with
  | false => exact prs_inner n p r h1
  | true => exact prs_inner n p r h2
theorem prs_put (m : Bool) (k x : Int) {L R : Tr} (hL : L ≠ .nil) (hR : R ≠ .nil) : prs (putT m k x L R) = if m then prs R ++ prs L else prs L ++ prs R := by
 cases m with
 | false => exact prs_inner _ _ _ hL
 | true => exact prs_inner _ _ _ hR
theorem prs_as (x : Int) (T : Tr) : prs (asT x T) = prs T := by
 cases T with
 | nil => rfl
 | node n p l r => cases l <;> rfl
theorem prs_set (x : Int) (T : Tr) : prs (setW T x) = prs T := by
 cases T with
 | nil => rfl
 | node n p l r => cases l <;> rfl
theorem inK_as {y x : Int} {T : Tr} : inK y (asT x T) ↔ inK y T := by rw [inK, prs_as]; exact Iff.rfl
theorem bst_as {x : Int} {T : Tr} : Bst (asT x T) ↔ Bst T := by
 cases T with
 | nil => exact Iff.rfl
 | node n p l r => cases l <;> exact Iff.rfl
theorem bst_set {x : Int} {T : Tr} : Bst (setW T x) ↔ Bst T := by
 cases T with
 | nil => exact Iff.rfl
 | node n p l r => cases l <;> exact Iff.rfl
theorem inK_split {y : Int} (m : Bool) {T : Tr} (h : Ok T) (hl : lT m T ≠ .nil) : inK y T ↔ inK y (lT m T) ∨ inK y (rT m T) := by
 have := prs_split m h hl
 cases m with
 | false => exact inK_app this
 | true => rw [Or.comm]; exact inK_app this
theorem inK_put {y : Int} (m : Bool) (k x : Int) {L R : Tr} (hL : L ≠ .nil) (hR : R ≠ .nil) : inK y (putT m k x L R) ↔ inK y L ∨ inK y R := by
 have := prs_put m k x hL hR
 cases m with
 | false => exact inK_app this
 | true => rw [Or.comm]; exact inK_app this
/-- A key on the left side, on the right side of a node, as the view looks at it. -/
def ltk (m : Bool) (y k : Int) : Prop := if m then k ≤ y else y < k
def gtk (m : Bool) (y k : Int) : Prop := if m then y < k else k ≤ y
theorem bst_split (m : Bool) {T : Tr} (h : Ok T) (hl : lT m T ≠ .nil) : Bst T ↔ ((∀ y, inK y (lT m T) → ltk m y (keyT T)) ∧ (∀ y, inK y (rT m T) → gtk m y (keyT T)) ∧ Bst (lT m T) ∧ Bst (rT m T)) := by
 have hk := ok_split m h (.inl hl)
 have h1 := ok_ne hk.1
 have h2 := ok_ne hk.2
 cases T with
 | nil => exact h.elim
 | node n p l r =>
  cases m with
  | false => exact bst_inner n p r h1
  | true => exact (bst_inner n p (l := l) r h2).trans ⟨fun ⟨a, b, c, d⟩ => ⟨b, a, d, c⟩, fun ⟨b, a, d, c⟩ => ⟨a, b, c, d⟩⟩
theorem bst_put (m : Bool) (k x : Int) {L R : Tr} (hL : L ≠ .nil) (hR : R ≠ .nil) : Bst (putT m k x L R) ↔ ((∀ y, inK y L → ltk m y k) ∧ (∀ y, inK y R → gtk m y k) ∧ Bst L ∧ Bst R) := by
 cases m with
 | false => exact bst_inner _ _ _ hL
 | true => exact (bst_inner _ _ _ hR).trans ⟨fun ⟨a, b, c, d⟩ => ⟨b, a, d, c⟩, fun ⟨b, a, d, c⟩ => ⟨a, b, c, d⟩⟩
theorem inK_some : ∀ {T : Tr}, Ok T → allT (fun n => n.f1 = 0) T → ∃ y, inK y T
 | .nil, h, _ => h.elim
 | .node n p .nil r, h, ha => ⟨n.f0, ⟨n.f0, n.f3⟩, by rw [prs, if_pos ha.1]; exact List.mem_singleton.2 rfl, rfl⟩
 | .node n p (.node a b c d) r, h, ha => by
  obtain ⟨y, hy⟩ := inK_some (ok_split false h (.inl (by simp [lT]))).1 ha.2.1
  exact ⟨y, (inK_app (prs_inner n p r (by simp))).2 (.inl hy)⟩
/-- What a step does to the leaves. -/
structure Keep (X Y : Tr) : Prop where
 prs : prs Y = prs X
 bst : allT (fun n => n.f1 = 0) X → Bst X → Bst Y
set_option maxHeartbeats 2000000 in
theorem do1_keep (m : Bool) {X : Tr} (hX : Ok X) (hc : can1 m X = true) : Keep X (do1 m X) := by
 simp only [can1, Bool.and_eq_true, Bool.or_eq_true, decide_eq_true_eq, beq_iff_eq] at hc
 have ne_L : lT m X ≠ .nil := wt_pos_ne (by omega)
 have k_X := ok_split m hX (.inl ne_L)
 have ok_L := k_X.1
 have ok_R := k_X.2
 have n_L := ok_ne ok_L
 have n_R := ok_ne ok_R
 unfold do1
 try unfold lessT
 refine ⟨?_, fun ha hb => ?_⟩
 ·have e_X := prs_split m hX n_L
  cases m
  ·simp only [if_true, if_false, Bool.false_eq_true] at e_X
   rw [e_X]
   repeat rw [prs_put _ _ _ (by first | exact put_ne _ _ _ _ _ | exact as_ne _ (by assumption) | assumption) (by first | exact put_ne _ _ _ _ _ | exact as_ne _ (by assumption) | assumption)]
   simp only [if_true, if_false, Bool.false_eq_true, prs_as, List.append_assoc]
  ·simp only [if_true, if_false, Bool.false_eq_true] at e_X
   rw [e_X]
   repeat rw [prs_put _ _ _ (by first | exact put_ne _ _ _ _ _ | exact as_ne _ (by assumption) | assumption) (by first | exact put_ne _ _ _ _ _ | exact as_ne _ (by assumption) | assumption)]
   simp only [if_true, if_false, Bool.false_eq_true, prs_as, List.append_assoc]
 ·obtain ⟨h1_X, h2_X, h3_X, h4_X⟩ := (bst_split m hX n_L).1 hb
  have a_L : allT (fun n => n.f1 = 0) (lT m X) := all_l ha
  have a_R : allT (fun n => n.f1 = 0) (rT m X) := all_r ha
  obtain ⟨z_L, y_L⟩ := inK_some ok_L a_L
  obtain ⟨z_R, y_R⟩ := inK_some ok_R a_R
  repeat rw [bst_put _ _ _ (by first | exact put_ne _ _ _ _ _ | exact as_ne _ (by assumption) | assumption) (by first | exact put_ne _ _ _ _ _ | exact as_ne _ (by assumption) | assumption)]
  repeat rw [bst_as]
  try simp only [inK_as]
  clear hc
  clear a_L a_R
  cases m <;> simp only [ltk, gtk, if_true, if_false, Bool.false_eq_true] at * <;> grind [inK_put, inK_as, bst_as, bst_put, put_ne, as_ne]
set_option maxHeartbeats 2000000 in
theorem do2_keep (m : Bool) {X : Tr} (hX : Ok X) (hc : can2 m X = true) : Keep X (do2 m X) := by
 simp only [can2, Bool.and_eq_true, Bool.or_eq_true, decide_eq_true_eq, beq_iff_eq] at hc
 have ne_L : lT m X ≠ .nil := wt_pos_ne (by omega)
 have k_X := ok_split m hX (.inl ne_L)
 have ok_L := k_X.1
 have ok_R := k_X.2
 have ne_LL : lT m (lT m X) ≠ .nil := wt_pos_ne (by omega)
 have k_L := ok_split m ok_L (.inl ne_LL)
 have ok_LL := k_L.1
 have ok_LR := k_L.2
 have n_L := ok_ne ok_L
 have n_R := ok_ne ok_R
 have n_LL := ok_ne ok_LL
 have n_LR := ok_ne ok_LR
 unfold do2
 try unfold lessT
 refine ⟨?_, fun ha hb => ?_⟩
 ·have e_X := prs_split m hX n_L
  have e_L := prs_split m ok_L n_LL
  cases m
  ·simp only [if_true, if_false, Bool.false_eq_true] at e_X e_L
   rw [e_X, e_L]
   repeat rw [prs_put _ _ _ (by first | exact put_ne _ _ _ _ _ | exact as_ne _ (by assumption) | assumption) (by first | exact put_ne _ _ _ _ _ | exact as_ne _ (by assumption) | assumption)]
   simp only [if_true, if_false, Bool.false_eq_true, prs_as, List.append_assoc]
  ·simp only [if_true, if_false, Bool.false_eq_true] at e_X e_L
   rw [e_X, e_L]
   repeat rw [prs_put _ _ _ (by first | exact put_ne _ _ _ _ _ | exact as_ne _ (by assumption) | assumption) (by first | exact put_ne _ _ _ _ _ | exact as_ne _ (by assumption) | assumption)]
   simp only [if_true, if_false, Bool.false_eq_true, prs_as, List.append_assoc]
 ·obtain ⟨h1_X, h2_X, h3_X, h4_X⟩ := (bst_split m hX n_L).1 hb
  obtain ⟨h1_L, h2_L, h3_L, h4_L⟩ := (bst_split m ok_L n_LL).1 h3_X
  simp only [inK_split m ok_L n_LL] at h1_X h2_X h1_L h2_L
  have a_L : allT (fun n => n.f1 = 0) (lT m X) := all_l ha
  have a_R : allT (fun n => n.f1 = 0) (rT m X) := all_r ha
  have a_LL : allT (fun n => n.f1 = 0) (lT m (lT m X)) := all_l a_L
  have a_LR : allT (fun n => n.f1 = 0) (rT m (lT m X)) := all_r a_L
  obtain ⟨z_R, y_R⟩ := inK_some ok_R a_R
  obtain ⟨z_LL, y_LL⟩ := inK_some ok_LL a_LL
  obtain ⟨z_LR, y_LR⟩ := inK_some ok_LR a_LR
  repeat rw [bst_put _ _ _ (by first | exact put_ne _ _ _ _ _ | exact as_ne _ (by assumption) | assumption) (by first | exact put_ne _ _ _ _ _ | exact as_ne _ (by assumption) | assumption)]
  repeat rw [bst_as]
  try simp only [inK_as]
  clear hc
  clear a_L a_R a_LL a_LR
  cases m <;> simp only [ltk, gtk, if_true, if_false, Bool.false_eq_true] at * <;> grind [inK_put, inK_as, bst_as, bst_put, put_ne, as_ne]
set_option maxHeartbeats 2000000 in
theorem do3_keep (m : Bool) {X : Tr} (hX : Ok X) (hc : can3 m X = true) : Keep X (do3 m X) := by
 simp only [can3, Bool.and_eq_true, Bool.or_eq_true, decide_eq_true_eq, beq_iff_eq] at hc
 have ne_L : lT m X ≠ .nil := wt_pos_ne (by omega)
 have k_X := ok_split m hX (.inl ne_L)
 have ok_L := k_X.1
 have ok_R := k_X.2
 have ne_LR : rT m (lT m X) ≠ .nil := wt_pos_ne (by omega)
 have k_L := ok_split m ok_L (.inr ne_LR)
 have ok_LL := k_L.1
 have ok_LR := k_L.2
 have ne_LRL : lT m (rT m (lT m X)) ≠ .nil := inner_lT m ok_LR (by simp only [hc])
 have k_LR := ok_split m ok_LR (.inl ne_LRL)
 have ok_LRL := k_LR.1
 have ok_LRR := k_LR.2
 have n_L := ok_ne ok_L
 have n_R := ok_ne ok_R
 have n_LL := ok_ne ok_LL
 have n_LR := ok_ne ok_LR
 have n_LRL := ok_ne ok_LRL
 have n_LRR := ok_ne ok_LRR
 unfold do3
 try unfold lessT
 refine ⟨?_, fun ha hb => ?_⟩
 ·have e_X := prs_split m hX n_L
  have e_L := prs_split m ok_L n_LL
  have e_LR := prs_split m ok_LR n_LRL
  cases m
  ·simp only [if_true, if_false, Bool.false_eq_true] at e_X e_L e_LR
   rw [e_X, e_L, e_LR]
   repeat rw [prs_put _ _ _ (by first | exact put_ne _ _ _ _ _ | exact as_ne _ (by assumption) | assumption) (by first | exact put_ne _ _ _ _ _ | exact as_ne _ (by assumption) | assumption)]
   simp only [if_true, if_false, Bool.false_eq_true, prs_as, List.append_assoc]
  ·simp only [if_true, if_false, Bool.false_eq_true] at e_X e_L e_LR
   rw [e_X, e_L, e_LR]
   repeat rw [prs_put _ _ _ (by first | exact put_ne _ _ _ _ _ | exact as_ne _ (by assumption) | assumption) (by first | exact put_ne _ _ _ _ _ | exact as_ne _ (by assumption) | assumption)]
   simp only [if_true, if_false, Bool.false_eq_true, prs_as, List.append_assoc]
 ·obtain ⟨h1_X, h2_X, h3_X, h4_X⟩ := (bst_split m hX n_L).1 hb
  obtain ⟨h1_L, h2_L, h3_L, h4_L⟩ := (bst_split m ok_L n_LL).1 h3_X
  obtain ⟨h1_LR, h2_LR, h3_LR, h4_LR⟩ := (bst_split m ok_LR n_LRL).1 h4_L
  simp only [inK_split m ok_L n_LL] at h1_X h2_X h1_L h2_L h1_LR h2_LR
  simp only [inK_split m ok_LR n_LRL] at h1_X h2_X h1_L h2_L h1_LR h2_LR
  have a_L : allT (fun n => n.f1 = 0) (lT m X) := all_l ha
  have a_R : allT (fun n => n.f1 = 0) (rT m X) := all_r ha
  have a_LL : allT (fun n => n.f1 = 0) (lT m (lT m X)) := all_l a_L
  have a_LR : allT (fun n => n.f1 = 0) (rT m (lT m X)) := all_r a_L
  have a_LRL : allT (fun n => n.f1 = 0) (lT m (rT m (lT m X))) := all_l a_LR
  have a_LRR : allT (fun n => n.f1 = 0) (rT m (rT m (lT m X))) := all_r a_LR
  obtain ⟨z_R, y_R⟩ := inK_some ok_R a_R
  obtain ⟨z_LL, y_LL⟩ := inK_some ok_LL a_LL
  obtain ⟨z_LRL, y_LRL⟩ := inK_some ok_LRL a_LRL
  obtain ⟨z_LRR, y_LRR⟩ := inK_some ok_LRR a_LRR
  repeat rw [bst_put _ _ _ (by first | exact put_ne _ _ _ _ _ | exact as_ne _ (by assumption) | assumption) (by first | exact put_ne _ _ _ _ _ | exact as_ne _ (by assumption) | assumption)]
  repeat rw [bst_as]
  try simp only [inK_as]
  clear hc
  clear a_L a_R a_LL a_LR a_LRL a_LRR
  cases m <;> simp only [ltk, gtk, if_true, if_false, Bool.false_eq_true] at * <;> grind [inK_put, inK_as, bst_as, bst_put, put_ne, as_ne]
set_option maxHeartbeats 2000000 in
theorem do4_keep (m : Bool) {X : Tr} (hX : Ok X) (hc : can4 m X = true) : Keep X (do4 m X) := by
 simp only [can4, Bool.and_eq_true, Bool.or_eq_true, decide_eq_true_eq, beq_iff_eq] at hc
 have ne_L : lT m X ≠ .nil := wt_pos_ne (by omega)
 have k_X := ok_split m hX (.inl ne_L)
 have ok_L := k_X.1
 have ok_R := k_X.2
 have n_L := ok_ne ok_L
 have n_R := ok_ne ok_R
 unfold do4
 try unfold lessT
 refine ⟨?_, fun ha hb => ?_⟩
 ·have e_X := prs_split m hX n_L
  cases m
  ·simp only [if_true, if_false, Bool.false_eq_true] at e_X
   rw [e_X]
   repeat rw [prs_put _ _ _ (by first | exact put_ne _ _ _ _ _ | exact as_ne _ (by assumption) | assumption) (by first | exact put_ne _ _ _ _ _ | exact as_ne _ (by assumption) | assumption)]
   simp only [if_true, if_false, Bool.false_eq_true, prs_as, List.append_assoc]
  ·simp only [if_true, if_false, Bool.false_eq_true] at e_X
   rw [e_X]
   repeat rw [prs_put _ _ _ (by first | exact put_ne _ _ _ _ _ | exact as_ne _ (by assumption) | assumption) (by first | exact put_ne _ _ _ _ _ | exact as_ne _ (by assumption) | assumption)]
   simp only [if_true, if_false, Bool.false_eq_true, prs_as, List.append_assoc]
 ·obtain ⟨h1_X, h2_X, h3_X, h4_X⟩ := (bst_split m hX n_L).1 hb
  have a_L : allT (fun n => n.f1 = 0) (lT m X) := all_l ha
  have a_R : allT (fun n => n.f1 = 0) (rT m X) := all_r ha
  obtain ⟨z_L, y_L⟩ := inK_some ok_L a_L
  obtain ⟨z_R, y_R⟩ := inK_some ok_R a_R
  repeat rw [bst_put _ _ _ (by first | exact put_ne _ _ _ _ _ | exact as_ne _ (by assumption) | assumption) (by first | exact put_ne _ _ _ _ _ | exact as_ne _ (by assumption) | assumption)]
  repeat rw [bst_as]
  try simp only [inK_as]
  clear hc
  clear a_L a_R
  cases m <;> simp only [ltk, gtk, if_true, if_false, Bool.false_eq_true] at * <;> grind [inK_put, inK_as, bst_as, bst_put, put_ne, as_ne]
set_option maxHeartbeats 2000000 in
theorem do5_keep (m : Bool) {X : Tr} (hX : Ok X) (hc : can5 m X = true) : Keep X (do5 m X) := by
 simp only [can5, Bool.and_eq_true, Bool.or_eq_true, decide_eq_true_eq, beq_iff_eq] at hc
 have ne_L : lT m X ≠ .nil := wt_pos_ne (by omega)
 have k_X := ok_split m hX (.inl ne_L)
 have ok_L := k_X.1
 have ok_R := k_X.2
 have ne_RL : lT m (rT m X) ≠ .nil := wt_pos_ne (by omega)
 have k_R := ok_split m ok_R (.inl ne_RL)
 have ok_RL := k_R.1
 have ok_RR := k_R.2
 have n_L := ok_ne ok_L
 have n_R := ok_ne ok_R
 have n_RL := ok_ne ok_RL
 have n_RR := ok_ne ok_RR
 unfold do5
 try unfold lessT
 refine ⟨?_, fun ha hb => ?_⟩
 ·have e_X := prs_split m hX n_L
  have e_R := prs_split m ok_R n_RL
  cases m
  ·simp only [if_true, if_false, Bool.false_eq_true] at e_X e_R
   rw [e_X, e_R]
   repeat rw [prs_put _ _ _ (by first | exact put_ne _ _ _ _ _ | exact as_ne _ (by assumption) | assumption) (by first | exact put_ne _ _ _ _ _ | exact as_ne _ (by assumption) | assumption)]
   simp only [if_true, if_false, Bool.false_eq_true, prs_as, List.append_assoc]
  ·simp only [if_true, if_false, Bool.false_eq_true] at e_X e_R
   rw [e_X, e_R]
   repeat rw [prs_put _ _ _ (by first | exact put_ne _ _ _ _ _ | exact as_ne _ (by assumption) | assumption) (by first | exact put_ne _ _ _ _ _ | exact as_ne _ (by assumption) | assumption)]
   simp only [if_true, if_false, Bool.false_eq_true, prs_as, List.append_assoc]
 ·obtain ⟨h1_X, h2_X, h3_X, h4_X⟩ := (bst_split m hX n_L).1 hb
  obtain ⟨h1_R, h2_R, h3_R, h4_R⟩ := (bst_split m ok_R n_RL).1 h4_X
  simp only [inK_split m ok_R n_RL] at h1_X h2_X h1_R h2_R
  have a_L : allT (fun n => n.f1 = 0) (lT m X) := all_l ha
  have a_R : allT (fun n => n.f1 = 0) (rT m X) := all_r ha
  have a_RL : allT (fun n => n.f1 = 0) (lT m (rT m X)) := all_l a_R
  have a_RR : allT (fun n => n.f1 = 0) (rT m (rT m X)) := all_r a_R
  obtain ⟨z_L, y_L⟩ := inK_some ok_L a_L
  obtain ⟨z_RL, y_RL⟩ := inK_some ok_RL a_RL
  obtain ⟨z_RR, y_RR⟩ := inK_some ok_RR a_RR
  repeat rw [bst_put _ _ _ (by first | exact put_ne _ _ _ _ _ | exact as_ne _ (by assumption) | assumption) (by first | exact put_ne _ _ _ _ _ | exact as_ne _ (by assumption) | assumption)]
  repeat rw [bst_as]
  try simp only [inK_as]
  clear hc
  clear a_L a_R a_RL a_RR
  cases m <;> simp only [ltk, gtk, if_true, if_false, Bool.false_eq_true] at * <;> grind [inK_put, inK_as, bst_as, bst_put, put_ne, as_ne]
set_option maxHeartbeats 2000000 in
theorem do6_keep (m : Bool) {X : Tr} (hX : Ok X) (hc : can6 m X = true) : Keep X (do6 m X) := by
 simp only [can6, Bool.and_eq_true, Bool.or_eq_true, decide_eq_true_eq, beq_iff_eq] at hc
 have ne_L : lT m X ≠ .nil := wt_pos_ne (by omega)
 have k_X := ok_split m hX (.inl ne_L)
 have ok_L := k_X.1
 have ok_R := k_X.2
 have ne_RL : lT m (rT m X) ≠ .nil := wt_pos_ne (by omega)
 have k_R := ok_split m ok_R (.inl ne_RL)
 have ok_RL := k_R.1
 have ok_RR := k_R.2
 have n_L := ok_ne ok_L
 have n_R := ok_ne ok_R
 have n_RL := ok_ne ok_RL
 have n_RR := ok_ne ok_RR
 unfold do6
 try unfold lessT
 refine ⟨?_, fun ha hb => ?_⟩
 ·have e_X := prs_split m hX n_L
  have e_R := prs_split m ok_R n_RL
  cases m
  ·simp only [if_true, if_false, Bool.false_eq_true] at e_X e_R
   rw [e_X, e_R]
   repeat rw [prs_put _ _ _ (by first | exact put_ne _ _ _ _ _ | exact as_ne _ (by assumption) | assumption) (by first | exact put_ne _ _ _ _ _ | exact as_ne _ (by assumption) | assumption)]
   simp only [if_true, if_false, Bool.false_eq_true, prs_as, List.append_assoc]
  ·simp only [if_true, if_false, Bool.false_eq_true] at e_X e_R
   rw [e_X, e_R]
   repeat rw [prs_put _ _ _ (by first | exact put_ne _ _ _ _ _ | exact as_ne _ (by assumption) | assumption) (by first | exact put_ne _ _ _ _ _ | exact as_ne _ (by assumption) | assumption)]
   simp only [if_true, if_false, Bool.false_eq_true, prs_as, List.append_assoc]
 ·obtain ⟨h1_X, h2_X, h3_X, h4_X⟩ := (bst_split m hX n_L).1 hb
  obtain ⟨h1_R, h2_R, h3_R, h4_R⟩ := (bst_split m ok_R n_RL).1 h4_X
  simp only [inK_split m ok_R n_RL] at h1_X h2_X h1_R h2_R
  have a_L : allT (fun n => n.f1 = 0) (lT m X) := all_l ha
  have a_R : allT (fun n => n.f1 = 0) (rT m X) := all_r ha
  have a_RL : allT (fun n => n.f1 = 0) (lT m (rT m X)) := all_l a_R
  have a_RR : allT (fun n => n.f1 = 0) (rT m (rT m X)) := all_r a_R
  obtain ⟨z_L, y_L⟩ := inK_some ok_L a_L
  obtain ⟨z_RL, y_RL⟩ := inK_some ok_RL a_RL
  obtain ⟨z_RR, y_RR⟩ := inK_some ok_RR a_RR
  repeat rw [bst_put _ _ _ (by first | exact put_ne _ _ _ _ _ | exact as_ne _ (by assumption) | assumption) (by first | exact put_ne _ _ _ _ _ | exact as_ne _ (by assumption) | assumption)]
  repeat rw [bst_as]
  try simp only [inK_as]
  clear hc
  clear a_L a_R a_RL a_RR
  cases m <;> simp only [ltk, gtk, if_true, if_false, Bool.false_eq_true] at * <;> grind [inK_put, inK_as, bst_as, bst_put, put_ne, as_ne]
set_option maxHeartbeats 2000000 in
theorem do7_keep (m : Bool) {X : Tr} (hX : Ok X) (hc : can7 m X = true) : Keep X (do7 m X) := by
 simp only [can7, Bool.and_eq_true, Bool.or_eq_true, decide_eq_true_eq, beq_iff_eq] at hc
 have ne_L : lT m X ≠ .nil := wt_pos_ne (by omega)
 have k_X := ok_split m hX (.inl ne_L)
 have ok_L := k_X.1
 have ok_R := k_X.2
 have ne_RL : lT m (rT m X) ≠ .nil := wt_pos_ne (by omega)
 have k_R := ok_split m ok_R (.inl ne_RL)
 have ok_RL := k_R.1
 have ok_RR := k_R.2
 have ne_A : lT m (lT m (rT m X)) ≠ .nil := wt_pos_ne (by omega)
 have k_RL := ok_split m ok_RL (.inl ne_A)
 have ok_A := k_RL.1
 have ok_B := k_RL.2
 have ne_AL : lT m (lT m (lT m (rT m X))) ≠ .nil := inner_lT m ok_A (by simp only [hc])
 have k_A := ok_split m ok_A (.inl ne_AL)
 have ok_AL := k_A.1
 have ok_AR := k_A.2
 have n_L := ok_ne ok_L
 have n_R := ok_ne ok_R
 have n_RL := ok_ne ok_RL
 have n_RR := ok_ne ok_RR
 have n_A := ok_ne ok_A
 have n_B := ok_ne ok_B
 have n_AL := ok_ne ok_AL
 have n_AR := ok_ne ok_AR
 unfold do7
 try unfold lessT
 refine ⟨?_, fun ha hb => ?_⟩
 ·have e_X := prs_split m hX n_L
  have e_R := prs_split m ok_R n_RL
  have e_RL := prs_split m ok_RL n_A
  have e_A := prs_split m ok_A n_AL
  cases m
  ·simp only [if_true, if_false, Bool.false_eq_true] at e_X e_R e_RL e_A
   rw [e_X, e_R, e_RL, e_A]
   repeat rw [prs_put _ _ _ (by first | exact put_ne _ _ _ _ _ | exact as_ne _ (by assumption) | assumption) (by first | exact put_ne _ _ _ _ _ | exact as_ne _ (by assumption) | assumption)]
   simp only [if_true, if_false, Bool.false_eq_true, prs_as, List.append_assoc]
  ·simp only [if_true, if_false, Bool.false_eq_true] at e_X e_R e_RL e_A
   rw [e_X, e_R, e_RL, e_A]
   repeat rw [prs_put _ _ _ (by first | exact put_ne _ _ _ _ _ | exact as_ne _ (by assumption) | assumption) (by first | exact put_ne _ _ _ _ _ | exact as_ne _ (by assumption) | assumption)]
   simp only [if_true, if_false, Bool.false_eq_true, prs_as, List.append_assoc]
 ·obtain ⟨h1_X, h2_X, h3_X, h4_X⟩ := (bst_split m hX n_L).1 hb
  obtain ⟨h1_R, h2_R, h3_R, h4_R⟩ := (bst_split m ok_R n_RL).1 h4_X
  obtain ⟨h1_RL, h2_RL, h3_RL, h4_RL⟩ := (bst_split m ok_RL n_A).1 h3_R
  obtain ⟨h1_A, h2_A, h3_A, h4_A⟩ := (bst_split m ok_A n_AL).1 h3_RL
  simp only [inK_split m ok_R n_RL] at h1_X h2_X h1_R h2_R h1_RL h2_RL h1_A h2_A
  simp only [inK_split m ok_RL n_A] at h1_X h2_X h1_R h2_R h1_RL h2_RL h1_A h2_A
  simp only [inK_split m ok_A n_AL] at h1_X h2_X h1_R h2_R h1_RL h2_RL h1_A h2_A
  have a_L : allT (fun n => n.f1 = 0) (lT m X) := all_l ha
  have a_R : allT (fun n => n.f1 = 0) (rT m X) := all_r ha
  have a_RL : allT (fun n => n.f1 = 0) (lT m (rT m X)) := all_l a_R
  have a_RR : allT (fun n => n.f1 = 0) (rT m (rT m X)) := all_r a_R
  have a_A : allT (fun n => n.f1 = 0) (lT m (lT m (rT m X))) := all_l a_RL
  have a_B : allT (fun n => n.f1 = 0) (rT m (lT m (rT m X))) := all_r a_RL
  have a_AL : allT (fun n => n.f1 = 0) (lT m (lT m (lT m (rT m X)))) := all_l a_A
  have a_AR : allT (fun n => n.f1 = 0) (rT m (lT m (lT m (rT m X)))) := all_r a_A
  obtain ⟨z_L, y_L⟩ := inK_some ok_L a_L
  obtain ⟨z_RR, y_RR⟩ := inK_some ok_RR a_RR
  obtain ⟨z_B, y_B⟩ := inK_some ok_B a_B
  obtain ⟨z_AL, y_AL⟩ := inK_some ok_AL a_AL
  obtain ⟨z_AR, y_AR⟩ := inK_some ok_AR a_AR
  repeat rw [bst_put _ _ _ (by first | exact put_ne _ _ _ _ _ | exact as_ne _ (by assumption) | assumption) (by first | exact put_ne _ _ _ _ _ | exact as_ne _ (by assumption) | assumption)]
  repeat rw [bst_as]
  try simp only [inK_as]
  clear hc
  clear a_L a_R a_RL a_RR a_A a_B a_AL a_AR
  cases m <;> simp only [ltk, gtk, if_true, if_false, Bool.false_eq_true] at * <;> grind [inK_put, inK_as, bst_as, bst_put, put_ne, as_ne]
set_option maxHeartbeats 2000000 in
theorem do8_keep (m : Bool) {X : Tr} (hX : Ok X) (hc : can8 m X = true) : Keep X (do8 m X) := by
 simp only [can8, Bool.and_eq_true, Bool.or_eq_true, decide_eq_true_eq, beq_iff_eq] at hc
 have ne_L : lT m X ≠ .nil := wt_pos_ne (by omega)
 have k_X := ok_split m hX (.inl ne_L)
 have ok_L := k_X.1
 have ok_R := k_X.2
 have ne_RL : lT m (rT m X) ≠ .nil := wt_pos_ne (by omega)
 have k_R := ok_split m ok_R (.inl ne_RL)
 have ok_RL := k_R.1
 have ok_RR := k_R.2
 have ne_B : rT m (lT m (rT m X)) ≠ .nil := wt_pos_ne (by omega)
 have k_RL := ok_split m ok_RL (.inr ne_B)
 have ok_A := k_RL.1
 have ok_B := k_RL.2
 have n_L := ok_ne ok_L
 have n_R := ok_ne ok_R
 have n_RL := ok_ne ok_RL
 have n_RR := ok_ne ok_RR
 have n_A := ok_ne ok_A
 have n_B := ok_ne ok_B
 unfold do8
 try unfold lessT
 refine ⟨?_, fun ha hb => ?_⟩
 ·have e_X := prs_split m hX n_L
  have e_R := prs_split m ok_R n_RL
  have e_RL := prs_split m ok_RL n_A
  cases m
  ·simp only [if_true, if_false, Bool.false_eq_true] at e_X e_R e_RL
   rw [e_X, e_R, e_RL]
   repeat rw [prs_put _ _ _ (by first | exact put_ne _ _ _ _ _ | exact as_ne _ (by assumption) | assumption) (by first | exact put_ne _ _ _ _ _ | exact as_ne _ (by assumption) | assumption)]
   simp only [if_true, if_false, Bool.false_eq_true, prs_as, List.append_assoc]
  ·simp only [if_true, if_false, Bool.false_eq_true] at e_X e_R e_RL
   rw [e_X, e_R, e_RL]
   repeat rw [prs_put _ _ _ (by first | exact put_ne _ _ _ _ _ | exact as_ne _ (by assumption) | assumption) (by first | exact put_ne _ _ _ _ _ | exact as_ne _ (by assumption) | assumption)]
   simp only [if_true, if_false, Bool.false_eq_true, prs_as, List.append_assoc]
 ·obtain ⟨h1_X, h2_X, h3_X, h4_X⟩ := (bst_split m hX n_L).1 hb
  obtain ⟨h1_R, h2_R, h3_R, h4_R⟩ := (bst_split m ok_R n_RL).1 h4_X
  obtain ⟨h1_RL, h2_RL, h3_RL, h4_RL⟩ := (bst_split m ok_RL n_A).1 h3_R
  simp only [inK_split m ok_R n_RL] at h1_X h2_X h1_R h2_R h1_RL h2_RL
  simp only [inK_split m ok_RL n_A] at h1_X h2_X h1_R h2_R h1_RL h2_RL
  have a_L : allT (fun n => n.f1 = 0) (lT m X) := all_l ha
  have a_R : allT (fun n => n.f1 = 0) (rT m X) := all_r ha
  have a_RL : allT (fun n => n.f1 = 0) (lT m (rT m X)) := all_l a_R
  have a_RR : allT (fun n => n.f1 = 0) (rT m (rT m X)) := all_r a_R
  have a_A : allT (fun n => n.f1 = 0) (lT m (lT m (rT m X))) := all_l a_RL
  have a_B : allT (fun n => n.f1 = 0) (rT m (lT m (rT m X))) := all_r a_RL
  obtain ⟨z_L, y_L⟩ := inK_some ok_L a_L
  obtain ⟨z_RR, y_RR⟩ := inK_some ok_RR a_RR
  obtain ⟨z_A, y_A⟩ := inK_some ok_A a_A
  obtain ⟨z_B, y_B⟩ := inK_some ok_B a_B
  repeat rw [bst_put _ _ _ (by first | exact put_ne _ _ _ _ _ | exact as_ne _ (by assumption) | assumption) (by first | exact put_ne _ _ _ _ _ | exact as_ne _ (by assumption) | assumption)]
  repeat rw [bst_as]
  try simp only [inK_as]
  clear hc
  clear a_L a_R a_RL a_RR a_A a_B
  cases m <;> simp only [ltk, gtk, if_true, if_false, Bool.false_eq_true] at * <;> grind [inK_put, inK_as, bst_as, bst_put, put_ne, as_ne]
set_option maxHeartbeats 2000000 in
theorem do9_keep (m : Bool) {X : Tr} (hX : Ok X) (hc : can9 m X = true) : Keep X (do9 m X) := by
 simp only [can9, Bool.and_eq_true, Bool.or_eq_true, decide_eq_true_eq, beq_iff_eq] at hc
 have ne_L : lT m X ≠ .nil := wt_pos_ne (by omega)
 have k_X := ok_split m hX (.inl ne_L)
 have ok_L := k_X.1
 have ok_R := k_X.2
 have ne_RR : rT m (rT m X) ≠ .nil := wt_pos_ne (by omega)
 have k_R := ok_split m ok_R (.inr ne_RR)
 have ok_RL := k_R.1
 have ok_RR := k_R.2
 have n_L := ok_ne ok_L
 have n_R := ok_ne ok_R
 have n_RL := ok_ne ok_RL
 have n_RR := ok_ne ok_RR
 unfold do9
 try unfold lessT
 refine ⟨?_, fun ha hb => ?_⟩
 ·have e_X := prs_split m hX n_L
  have e_R := prs_split m ok_R n_RL
  cases m
  ·simp only [if_true, if_false, Bool.false_eq_true] at e_X e_R
   rw [e_X, e_R]
   repeat rw [prs_put _ _ _ (by first | exact put_ne _ _ _ _ _ | exact as_ne _ (by assumption) | assumption) (by first | exact put_ne _ _ _ _ _ | exact as_ne _ (by assumption) | assumption)]
   simp only [if_true, if_false, Bool.false_eq_true, prs_as, List.append_assoc]
  ·simp only [if_true, if_false, Bool.false_eq_true] at e_X e_R
   rw [e_X, e_R]
   repeat rw [prs_put _ _ _ (by first | exact put_ne _ _ _ _ _ | exact as_ne _ (by assumption) | assumption) (by first | exact put_ne _ _ _ _ _ | exact as_ne _ (by assumption) | assumption)]
   simp only [if_true, if_false, Bool.false_eq_true, prs_as, List.append_assoc]
 ·obtain ⟨h1_X, h2_X, h3_X, h4_X⟩ := (bst_split m hX n_L).1 hb
  obtain ⟨h1_R, h2_R, h3_R, h4_R⟩ := (bst_split m ok_R n_RL).1 h4_X
  simp only [inK_split m ok_R n_RL] at h1_X h2_X h1_R h2_R
  have a_L : allT (fun n => n.f1 = 0) (lT m X) := all_l ha
  have a_R : allT (fun n => n.f1 = 0) (rT m X) := all_r ha
  have a_RL : allT (fun n => n.f1 = 0) (lT m (rT m X)) := all_l a_R
  have a_RR : allT (fun n => n.f1 = 0) (rT m (rT m X)) := all_r a_R
  obtain ⟨z_L, y_L⟩ := inK_some ok_L a_L
  obtain ⟨z_RL, y_RL⟩ := inK_some ok_RL a_RL
  obtain ⟨z_RR, y_RR⟩ := inK_some ok_RR a_RR
  repeat rw [bst_put _ _ _ (by first | exact put_ne _ _ _ _ _ | exact as_ne _ (by assumption) | assumption) (by first | exact put_ne _ _ _ _ _ | exact as_ne _ (by assumption) | assumption)]
  repeat rw [bst_as]
  try simp only [inK_as]
  clear hc
  clear a_L a_R a_RL a_RR
  cases m <;> simp only [ltk, gtk, if_true, if_false, Bool.false_eq_true] at * <;> grind [inK_put, inK_as, bst_as, bst_put, put_ne, as_ne]
set_option maxHeartbeats 2000000 in
theorem do10_keep (m : Bool) {X : Tr} (hX : Ok X) (hc : can10 m X = true) : Keep X (do10 m X) := by
 simp only [can10, Bool.and_eq_true, Bool.or_eq_true, decide_eq_true_eq, beq_iff_eq] at hc
 have ne_L : lT m X ≠ .nil := wt_pos_ne (by omega)
 have k_X := ok_split m hX (.inl ne_L)
 have ok_L := k_X.1
 have ok_R := k_X.2
 have ne_RL : lT m (rT m X) ≠ .nil := wt_pos_ne (by omega)
 have k_R := ok_split m ok_R (.inl ne_RL)
 have ok_RL := k_R.1
 have ok_RR := k_R.2
 have ne_A : lT m (lT m (rT m X)) ≠ .nil := inner_lT m ok_RL (by simp only [hc])
 have k_RL := ok_split m ok_RL (.inl ne_A)
 have ok_A := k_RL.1
 have ok_B := k_RL.2
 have n_L := ok_ne ok_L
 have n_R := ok_ne ok_R
 have n_RL := ok_ne ok_RL
 have n_RR := ok_ne ok_RR
 have n_A := ok_ne ok_A
 have n_B := ok_ne ok_B
 unfold do10
 try unfold lessT
 refine ⟨?_, fun ha hb => ?_⟩
 ·have e_X := prs_split m hX n_L
  have e_R := prs_split m ok_R n_RL
  have e_RL := prs_split m ok_RL n_A
  cases m
  ·simp only [if_true, if_false, Bool.false_eq_true] at e_X e_R e_RL
   rw [e_X, e_R, e_RL]
   repeat rw [prs_put _ _ _ (by first | exact put_ne _ _ _ _ _ | exact as_ne _ (by assumption) | assumption) (by first | exact put_ne _ _ _ _ _ | exact as_ne _ (by assumption) | assumption)]
   simp only [if_true, if_false, Bool.false_eq_true, prs_as, List.append_assoc]
  ·simp only [if_true, if_false, Bool.false_eq_true] at e_X e_R e_RL
   rw [e_X, e_R, e_RL]
   repeat rw [prs_put _ _ _ (by first | exact put_ne _ _ _ _ _ | exact as_ne _ (by assumption) | assumption) (by first | exact put_ne _ _ _ _ _ | exact as_ne _ (by assumption) | assumption)]
   simp only [if_true, if_false, Bool.false_eq_true, prs_as, List.append_assoc]
 ·obtain ⟨h1_X, h2_X, h3_X, h4_X⟩ := (bst_split m hX n_L).1 hb
  obtain ⟨h1_R, h2_R, h3_R, h4_R⟩ := (bst_split m ok_R n_RL).1 h4_X
  obtain ⟨h1_RL, h2_RL, h3_RL, h4_RL⟩ := (bst_split m ok_RL n_A).1 h3_R
  simp only [inK_split m ok_R n_RL] at h1_X h2_X h1_R h2_R h1_RL h2_RL
  simp only [inK_split m ok_RL n_A] at h1_X h2_X h1_R h2_R h1_RL h2_RL
  have a_L : allT (fun n => n.f1 = 0) (lT m X) := all_l ha
  have a_R : allT (fun n => n.f1 = 0) (rT m X) := all_r ha
  have a_RL : allT (fun n => n.f1 = 0) (lT m (rT m X)) := all_l a_R
  have a_RR : allT (fun n => n.f1 = 0) (rT m (rT m X)) := all_r a_R
  have a_A : allT (fun n => n.f1 = 0) (lT m (lT m (rT m X))) := all_l a_RL
  have a_B : allT (fun n => n.f1 = 0) (rT m (lT m (rT m X))) := all_r a_RL
  obtain ⟨z_L, y_L⟩ := inK_some ok_L a_L
  obtain ⟨z_RR, y_RR⟩ := inK_some ok_RR a_RR
  obtain ⟨z_A, y_A⟩ := inK_some ok_A a_A
  obtain ⟨z_B, y_B⟩ := inK_some ok_B a_B
  repeat rw [bst_put _ _ _ (by first | exact put_ne _ _ _ _ _ | exact as_ne _ (by assumption) | assumption) (by first | exact put_ne _ _ _ _ _ | exact as_ne _ (by assumption) | assumption)]
  repeat rw [bst_as]
  try simp only [inK_as]
  clear hc
  clear a_L a_R a_RL a_RR a_A a_B
  cases m <;> simp only [ltk, gtk, if_true, if_false, Bool.false_eq_true] at * <;> grind [inK_put, inK_as, bst_as, bst_put, put_ne, as_ne]
set_option maxHeartbeats 2000000 in
theorem do11_keep (m : Bool) {X : Tr} (hX : Ok X) (hc : can11 m X = true) : Keep X (do11 m X) := by
 simp only [can11, Bool.and_eq_true, Bool.or_eq_true, decide_eq_true_eq, beq_iff_eq] at hc
 have ne_L : lT m X ≠ .nil := wt_pos_ne (by omega)
 have k_X := ok_split m hX (.inl ne_L)
 have ok_L := k_X.1
 have ok_R := k_X.2
 have n_L := ok_ne ok_L
 have n_R := ok_ne ok_R
 unfold do11
 try unfold lessT
 refine ⟨?_, fun ha hb => ?_⟩
 ·have e_X := prs_split m hX n_L
  cases m
  ·simp only [if_true, if_false, Bool.false_eq_true] at e_X
   rw [e_X]
   repeat rw [prs_put _ _ _ (by first | exact put_ne _ _ _ _ _ | exact as_ne _ (by assumption) | assumption) (by first | exact put_ne _ _ _ _ _ | exact as_ne _ (by assumption) | assumption)]
   simp only [if_true, if_false, Bool.false_eq_true, prs_as, List.append_assoc]
  ·simp only [if_true, if_false, Bool.false_eq_true] at e_X
   rw [e_X]
   repeat rw [prs_put _ _ _ (by first | exact put_ne _ _ _ _ _ | exact as_ne _ (by assumption) | assumption) (by first | exact put_ne _ _ _ _ _ | exact as_ne _ (by assumption) | assumption)]
   simp only [if_true, if_false, Bool.false_eq_true, prs_as, List.append_assoc]
 ·obtain ⟨h1_X, h2_X, h3_X, h4_X⟩ := (bst_split m hX n_L).1 hb
  have a_L : allT (fun n => n.f1 = 0) (lT m X) := all_l ha
  have a_R : allT (fun n => n.f1 = 0) (rT m X) := all_r ha
  obtain ⟨z_L, y_L⟩ := inK_some ok_L a_L
  obtain ⟨z_R, y_R⟩ := inK_some ok_R a_R
  repeat rw [bst_put _ _ _ (by first | exact put_ne _ _ _ _ _ | exact as_ne _ (by assumption) | assumption) (by first | exact put_ne _ _ _ _ _ | exact as_ne _ (by assumption) | assumption)]
  repeat rw [bst_as]
  try simp only [inK_as]
  clear hc
  clear a_L a_R
  cases m <;> simp only [ltk, gtk, if_true, if_false, Bool.false_eq_true] at * <;> grind [inK_put, inK_as, bst_as, bst_put, put_ne, as_ne]
end Go.Proofs.Ytgleaefhflamnaa.T
namespace Go.Proofs.Ytgleaefhflamnaa.T
open Go.RowKit Go.Proofs.YtgleaefhflamnaaW.PrintWords Go.Proofs.YtgleaefhflamnaaW.PrintLast Go.Proofs.YtgleaefhflamnaaW.PrintMore
/-- The tree of the flat table. -/
def renT : Tr → Nat → Tr
 | .nil, _ => .nil
 | .node n _ .nil _, a => .node n a .nil .nil
 | .node n _ (.node n' p' l' r') r, a => .node ⟨n.f0, n.f1, n.f2, n.f3, a + 1, a + 1 + sizeT (.node n' p' l' r')⟩ a (renT (.node n' p' l' r') (a + 1)) (renT r (a + 1 + sizeT (.node n' p' l' r')))
theorem flT_inner (n : S34) (p : Int) {l : Tr} (r : Tr) (a : Nat) (hl : l ≠ .nil) : flatT (.node n p l r) a = ⟨n.f0, n.f1, n.f2, n.f3, a + 1, a + 1 + sizeT l⟩ :: (flatT l (a + 1) ++ flatT r (a + 1 + sizeT l)) := by
 cases l with
 | nil => exact absurd rfl hl
 | node _ _ _ _ => rfl
theorem ren_inner (n : S34) (p : Int) {l : Tr} (r : Tr) (a : Nat) (hl : l ≠ .nil) : renT (.node n p l r) a = .node ⟨n.f0, n.f1, n.f2, n.f3, a + 1, a + 1 + sizeT l⟩ a (renT l (a + 1)) (renT r (a + 1 + sizeT l)) := by
 cases l with
 | nil => exact absurd rfl hl
 | node _ _ _ _ => rfl
theorem flT_leaf (n : S34) (p : Int) (r : Tr) (a : Nat) : flatT (.node n p .nil r) a = [n] := rfl
theorem ren_leaf (n : S34) (p : Int) (r : Tr) (a : Nat) : renT (.node n p .nil r) a = .node n a .nil .nil := rfl
theorem flT_len : ∀ {T : Tr}, Ok T → ∀ a, (flatT T a).length = sizeT T
 | .nil, h, _ => h.elim
 | .node n p l r, h, a => by
  rcases h.2.2 with ⟨rfl, rfl, _⟩ | ⟨_, hl, hr⟩
  ·rfl
  ·rw [flT_inner _ _ _ _ (ok_ne hl), List.length_cons, List.length_append, flT_len hl, flT_len hr, sizeT]; omega
theorem flat_mk : ∀ {T : Tr}, Ok T → ∀ (pre post : List S34) (a K : Nat), pre.length = a → sizeT T ≤ K → mkT (pre ++ flatT T a ++ post) K a = some (renT T a)
 | .nil, h, _, _, _, _, _, _ => h.elim
 | .node n p l r, h, pre, post, a, K, ha, hK => by
  rw [sizeT] at hK
  cases K with
  | zero => omega
  | succ K =>
   rcases h.2.2 with ⟨rfl, rfl, h4, h5⟩ | ⟨_, hl, hr⟩
   ·rw [flT_leaf, ren_leaf]
    have hg : (pre ++ [n] ++ post).getD a z34 = n := by simp [List.getD, ← ha]
    rw [mkT, if_pos (by simp; omega), hg, if_neg (by omega)]
   ·have hll := flT_len hl (a + 1)
    have i1 := flat_mk hl (pre ++ [⟨n.f0, n.f1, n.f2, n.f3, a + 1, a + 1 + sizeT l⟩]) (flatT r (a + 1 + sizeT l) ++ post) (a + 1) K (by simp [ha]) (by omega)
    have i2 := flat_mk hr (pre ++ ⟨n.f0, n.f1, n.f2, n.f3, a + 1, a + 1 + sizeT l⟩ :: flatT l (a + 1)) post (a + 1 + sizeT l) K (by simp [ha, hll]; omega) (by omega)
    rw [flT_inner _ _ _ _ (ok_ne hl), ren_inner _ _ _ _ (ok_ne hl)]
    have e1 : pre ++ (⟨n.f0, n.f1, n.f2, n.f3, a + 1, a + 1 + sizeT l⟩ :: (flatT l (a + 1) ++ flatT r (a + 1 + sizeT l))) ++ post = pre ++ [⟨n.f0, n.f1, n.f2, n.f3, a + 1, a + 1 + sizeT l⟩] ++ flatT l (a + 1) ++ (flatT r (a + 1 + sizeT l) ++ post) := by simp
    have e2 : pre ++ (⟨n.f0, n.f1, n.f2, n.f3, a + 1, a + 1 + sizeT l⟩ :: (flatT l (a + 1) ++ flatT r (a + 1 + sizeT l))) ++ post = pre ++ ⟨n.f0, n.f1, n.f2, n.f3, a + 1, a + 1 + sizeT l⟩ :: flatT l (a + 1) ++ flatT r (a + 1 + sizeT l) ++ post := by simp
    have hg : (pre ++ (⟨n.f0, n.f1, n.f2, n.f3, a + 1, a + 1 + sizeT l⟩ :: (flatT l (a + 1) ++ flatT r (a + 1 + sizeT l))) ++ post).getD a z34 = ⟨n.f0, n.f1, n.f2, n.f3, a + 1, a + 1 + sizeT l⟩ := by simp [List.getD, ← ha]
    rw [← e1] at i1
    rw [← e2] at i2
    rw [mkT, if_pos (by simp; omega), hg]
    simp only
    rw [if_pos (by omega), show ((a : Int) + 1).toNat = a + 1 by omega, i1, Option.bind_some, show ((a : Int) + 1 + sizeT l).toNat = a + 1 + sizeT l by omega, i2, Option.bind_some]
theorem size_pos {T : Tr} (h : Ok T) : 0 < sizeT T := by
 cases T with
 | nil => exact h.elim
 | node _ _ _ _ => rw [sizeT]; omega
theorem flat_fm : ∀ {T : Tr}, Ok T → ∀ (a N : Nat), a + sizeT T ≤ N → ∀ x ∈ flatT T a, fmN x N = true
 | .nil, h, _, _, _, _, _ => h.elim
 | .node n p l r, h, a, N, hN, x, hx => by
  rw [sizeT] at hN
  rcases h.2.2 with ⟨rfl, rfl, h4, h5⟩ | ⟨h3, hl, hr⟩
  ·rw [flT_leaf, List.mem_singleton] at hx
   subst hx
   exact (fmN_iff _ _).2 ⟨h.1, h.2.1, .inl ⟨h4, h5⟩⟩
  ·rw [flT_inner _ _ _ _ (ok_ne hl), List.mem_cons, List.mem_append] at hx
   rcases hx with rfl | hx | hx
   ·have h1 := size_pos hl
    have h2 := size_pos hr
    have hw := h.1
    have hi := h.2.1
    refine (fmN_iff _ _).2 ⟨hw, hi, .inr ?_⟩
    simp only
    omega
   ·exact flat_fm hl (a + 1) N (by omega) x hx
   ·exact flat_fm hr (a + 1 + sizeT l) N (by omega) x hx
theorem ren_pl : ∀ {T : Tr}, Ok T → ∀ a, plT (renT T a) = (List.range' a (sizeT T)).map (fun (i : Nat) => (i : Int))
 | .nil, h, _ => h.elim
 | .node n p l r, h, a => by
  rcases h.2.2 with ⟨rfl, rfl, h4, h5⟩ | ⟨h3, hl, hr⟩
  ·rfl
  ·rw [ren_inner _ _ _ _ (ok_ne hl), plT, ren_pl hl, ren_pl hr, sizeT, show 1 + sizeT l + sizeT r = (sizeT l + sizeT r) + 1 by omega, List.range'_succ, List.map_cons, ← List.map_append, List.range'_append_1]
theorem ren_sums : ∀ {T : Tr}, Ok T → ∀ a b, sums (renT T a) b = sums T b
 | .nil, h, _, _ => h.elim
 | .node n p l r, h, a, b => by
  rcases h.2.2 with ⟨rfl, rfl, h4, h5⟩ | ⟨h3, hl, hr⟩
  ·rfl
  ·rw [ren_inner _ _ _ _ (ok_ne hl)]
   have i1 := ren_sums hl (a + 1) (b + n.f2)
   have i2 := ren_sums hr (a + 1 + sizeT l) (b + n.f2)
   have hn : renT l (a + 1) ≠ .nil := by
    intro e
    have := ren_pl hl (a + 1)
    rw [e] at this
    have h1 := size_pos hl
    have := congrArg List.length this
    simp [plT] at this
    omega
   have hn2 := ok_ne hl
   generalize renT l (a + 1) = l' at *
   generalize renT r (a + 1 + sizeT l) = r' at *
   cases l' with
   | nil => exact absurd rfl hn
   | node _ _ _ _ =>
    cases l with
    | nil => exact absurd rfl hn2
    | node _ _ _ _ => simp only [sums]; rw [i1, i2]
theorem ren_wt {T : Tr} (a : Nat) : wt (renT T a) = wt T := by
 cases T with
 | nil => rfl
 | node n p l r => cases l <;> rfl
theorem ren_inf : ∀ {T : Tr} (a : Nat), allT (fun n => n.f1 = 0) T → allT (fun n => n.f1 = 0) (renT T a)
 | .nil, _, h => h
 | .node n p .nil r, a, h => ⟨h.1, trivial, trivial⟩
 | .node n p (.node n' p' l' r') r, a, h => ⟨h.1, ren_inf _ h.2.1, ren_inf _ h.2.2⟩
theorem flat_good {T : Tr} (h : Ok T) (hs : sizeT T ≤ 100000) : Good (flatT T 0) (renT T 0) := by
 have hl := flT_len h 0
 have hm := flat_mk h [] [] 0 (sizeT T) rfl (Nat.le_refl _)
 rw [List.nil_append, List.append_nil] at hm
 refine ⟨by omega, fun i hi => ?_, by rw [hl]; exact hm, ?_, ?_⟩
 ·have hmem : (flatT T 0).getD i z34 ∈ flatT T 0 := by rw [List.getD, List.getElem?_eq_getElem hi, Option.getD_some]; exact List.getElem_mem hi
  exact flat_fm h 0 _ (by omega) _ hmem
 ·rw [ren_pl h]
  refine List.Pairwise.map _ (fun (a b : Nat) hab => ?_) (List.nodup_range' (s := 0) (n := sizeT T) (step := 1) (by decide))
  exact fun e => hab (Int.ofNat.inj e)
 ·rw [ren_pl h, List.length_map, List.length_range', hl]
end Go.Proofs.Ytgleaefhflamnaa.T
namespace Go.Proofs.Ytgleaefhflamnaa.T
open Go.RowKit Go.Proofs.YtgleaefhflamnaaW.PrintWords Go.Proofs.YtgleaefhflamnaaW.PrintLast Go.Proofs.YtgleaefhflamnaaW.PrintMore
theorem keys_nil (k : Nat) (t : List S34) (r : Int) (met : List Bool) : steps_keys.l0 (k + 1) t r met [] = some (r, met, 0) := by
 rw [steps_keys.l0]
 exact if_neg (by simp)
theorem keys_step (k : Nat) (t : List S34) (r : Int) (met : List Bool) (i : Int) (s : List Int) (hs : s.length < 17592186044416) :
  steps_keys.l0 (k + 1) t r met (i :: s).reverse =
   if 0 ≤ i then (if i < met.length then (if i < t.length then
    (if (t.getD i.toNat z34).f4 ≥ 0 then (if s.length + 2 < 17592186044416 then steps_keys.l0 k t r (met.set i.toNat true) ((t.getD i.toNat z34).f5 :: (t.getD i.toNat z34).f4 :: s).reverse else none)
     else steps_keys.l0 k t r (met.set i.toNat true) s.reverse) else none) else none) else none := by
 have e : (i :: s).reverse = s.reverse ++ [i] := List.reverse_cons
 have e2 : ((t.getD i.toNat z34).f5 :: (t.getD i.toNat z34).f4 :: s).reverse = s.reverse ++ [(t.getD i.toNat z34).f4, (t.getD i.toNat z34).f5] := by simp
 rw [e, e2]
 generalize hr : s.reverse = s'
 have hl : s'.length = s.length := by rw [← hr, List.length_reverse]
 rw [← hl] at hs ⊢
 have h1 : wrap64 (((s' ++ [i]).length : Int) - 1) = s'.length := by rw [List.length_append, List.length_singleton, Go.IntWalk.wrap64_in _ (by omega)]; omega
 have h2 : rd (s' ++ [i]) (s'.length : Int) = i := by simp [rd]
 have h3 : (s' ++ [i]).take ((s'.length : Int)).toNat = s' := by simp
 rw [steps_keys.l0, h1, h2, h3]
 rw [if_pos (by rw [List.length_append, List.length_singleton]; omega), if_pos (by omega), if_pos (by rw [List.length_append, List.length_singleton]; omega), if_pos (by rw [List.length_append, List.length_singleton]; omega)]
 rw [show rd_T34 t i = t.getD i.toNat z34 from rfl]
 simp only [Option.bind_some, List.length_cons, List.length_nil, Nat.zero_add]
theorem keys_tree (t : List S34) (r : Int) (K : Nat) (hlen : t.length ≤ 100000) (hf : FormT t) : ∀ (k : Nat) (met : List Bool) (s ps : List Int), met.length = t.length → plF t K s = some ps → ps.length < k → ps.length ≤ 1000000 →
  ∃ met', steps_keys.l0 k t r met s.reverse = some (r, met', 0) ∧ met'.length = t.length ∧ ∀ c : Nat, c < t.length → (met'.getD c false = true ↔ met.getD c false = true ∨ (c : Int) ∈ ps) := by
 intro k
 induction k with
 | zero => intro met s ps _ _ h; exact absurd h (by omega)
 | succ k ih =>
  intro met s ps hm hp hk ho
  cases s with
  | nil =>
   rw [plF] at hp
   injection hp with hp
   subst hp
   exact ⟨met, by rw [List.reverse_nil, keys_nil], hm, fun c hc => by simp⟩
  | cons i s =>
   obtain ⟨T, q, h0, hT, hq, rfl⟩ := plF_cons hp
   have hsl := plF_len hp
   rw [List.length_cons, List.length_append] at hsl
   rw [List.length_append] at hk ho
   rw [keys_step _ _ _ _ _ _ (by omega), if_pos h0]
   cases K with
   | zero => simp [mkT] at hT
   | succ K =>
    rw [mkT] at hT
    split at hT
    case isFalse => exact absurd hT (by simp)
    rename_i hi
    rw [if_pos (by omega), if_pos (by omega)]
    have hset : ∀ c : Nat, c < t.length → ((met.set i.toNat true).getD c false = true ↔ met.getD c false = true ∨ (c : Int) = i) := by
     intro c hc
     by_cases e : i.toNat = c
     ·subst e
      rw [getD_set_eq _ _ _ (by omega)]
      simp; omega
     ·rw [getD_set_ne _ _ _ e]
      have : ¬ (c : Int) = i := by omega
      simp [this]
    split at hT
    ·rename_i h4
     obtain ⟨Tl, hl, hT⟩ := Option.bind_eq_some_iff.1 hT
     obtain ⟨Tr', hr, hT⟩ := Option.bind_eq_some_iff.1 hT
     obtain rfl := Option.some.inj hT
     simp only [plT, List.length_cons, List.length_append] at hk ho hsl
     have h5 : 0 ≤ (t.getD i.toNat z34).f5 := by have := hf i.toNat hi; omega
     rw [if_pos h4, if_pos (by omega)]
     obtain ⟨met', e1, e2, e3⟩ := ih (met.set i.toNat true) (_ :: _ :: s) _ (by rw [List.length_set, hm]) (plF_mk h5 (mkT_mono t _ _ _ hr) (plF_mk h4 (mkT_mono t _ _ _ hl) hq)) (by simp only [List.length_append]; omega) (by simp only [List.length_append]; omega)
     refine ⟨met', e1, e2, fun c hc => ?_⟩
     rw [e3 c hc, hset c hc]
     simp only [plT, List.cons_append, List.mem_cons, List.mem_append, Int.toNat_of_nonneg h0, or_assoc]
     exact or_congr_right (or_congr_right or_left_comm)
    ·rename_i h4
     obtain rfl := Option.some.inj hT
     simp only [plT, List.length_cons, List.length_nil, List.append_nil] at hk ho hsl
     rw [if_neg (by omega)]
     obtain ⟨met', e1, e2, e3⟩ := ih (met.set i.toNat true) s _ (by rw [List.length_set, hm]) hq (by omega) (by omega)
     refine ⟨met', e1, e2, fun c hc => ?_⟩
     rw [e3 c hc, hset c hc]
     simp only [plT, List.cons_append, List.nil_append, List.mem_cons, List.mem_append, Int.toNat_of_nonneg h0, or_assoc]
theorem root_total (t : List S34) : ∃ k r1 r2, table_Root.f k t = some (r1, r2) ∧ (r2 = 0 → ∃ T X0, Good t T ∧ Crown T X0 ∧ plc X0 = r1) := by
 obtain ⟨k, r, h, hg⟩ := check_total t
 by_cases h0 : r = 0
 ·obtain ⟨T, hT⟩ := hg h0
  obtain ⟨k', r1, r2, h1, h2, _⟩ := root_good hT
  exact ⟨k', r1, r2, h1, fun e => by obtain ⟨X0, h3, h4⟩ := h2 e; exact ⟨T, X0, hT, h3, h4⟩⟩
 ·refine ⟨k, 0, r, ?_, fun e => absurd e h0⟩
  unfold table_Root.f
  rw [h, Option.bind_some, if_neg h0]
theorem crown_tree {t : List S34} {T X0 : Tr} (hg : Good t T) (h : Crown T X0) : ∃ c0 : Nat, plc X0 = c0 ∧ c0 < t.length ∧ mkT t t.length c0 = some X0 ∧ (plT X0).Nodup ∧ (plT X0).length ≤ t.length := by
 have hn := hg.nodup
 have ha := hg.all
 obtain ⟨n0, n1, p1, q1, q0, rfl, _, _, _, _, _, hXn⟩ := h
 obtain ⟨_, _, _, h3⟩ := mkT_node hg.form hg.tree
 obtain ⟨_, k1, hk1, h5, _⟩ := h3 (by simp)
 obtain ⟨_, _, _, e3⟩ := mkT_node hg.form h5
 obtain ⟨_, k2, hk2, e5, _⟩ := e3 hXn
 simp only [plT, List.cons_append, List.nodup_cons, List.length_cons, List.length_append] at hn ha
 refine ⟨n1.f4.toNat, mkT_plc e5, ?_, mkT_le t (by omega) e5, ?_, by omega⟩
 ·have := (plT_mem _ _ _ e5).2 _ (plT_mem _ _ _ e5).1
  omega
 ·have h1 := hn.2.2
  rw [List.append_assoc] at h1
  exact nodup_app_l h1
theorem keys_total (t : List S34) : ∃ k r1 r2 r3, steps_keys.f k t = some (r1, r2, r3) ∧ (r3 = 0 → ∃ T X0, Good t T ∧ Crown T X0 ∧ plc X0 = r1 ∧ r2.length = t.length ∧ ∀ c : Nat, c < t.length → (r2.getD c false = true ↔ (c : Int) ∈ plT X0)) := by
 obtain ⟨k, r1, r2, h, hg⟩ := root_total t
 by_cases h0 : r2 = 0
 ·obtain ⟨T, X0, hT, hX, hr⟩ := hg h0
  obtain ⟨c0, hc, hcl, hm, hn, hl⟩ := crown_tree hT hX
  have hlen := hT.len
  have hp := plF_mk (i := r1) (by omega) (by rw [show r1.toNat = c0 by omega]; exact hm) (plF.eq_1 t t.length)
  rw [List.append_nil] at hp
  obtain ⟨met', e1, e2, e3⟩ := keys_tree t r1 t.length hlen (formT_of hT.form) (k + t.length + 1) (List.replicate t.length false) [r1] (plT X0) List.length_replicate hp (by omega) (by omega)
  refine ⟨k + t.length + 1, r1, met', 0, ?_, fun _ => ⟨T, X0, hT, hX, hr, e2, fun c hc => ?_⟩⟩
  ·unfold steps_keys.f
   rw [up_to (fun k => table_Root.mono t k) (show k ≤ k + t.length + 1 by omega) h, Option.bind_some]
   simp only
   rw [if_pos h0, if_pos (by omega), if_pos (by omega), Int.toNat_natCast]
   exact e1
  ·rw [e3 c hc, getD_replicate_false]
   simp
 ·refine ⟨k, 0, [], r2, ?_, fun e => absurd e h0⟩
  unfold steps_keys.f
  rw [h, Option.bind_some]
  simp only
  rw [if_neg h0]
end Go.Proofs.Ytgleaefhflamnaa.T
namespace Go.Proofs.Ytgleaefhflamnaa.T
open Go.RowKit Go.Proofs.YtgleaefhflamnaaW.PrintWords Go.Proofs.YtgleaefhflamnaaW.PrintLast Go.Proofs.YtgleaefhflamnaaW.PrintMore
theorem fullB_ok : ∀ {T : Tr}, Ok T → fullB T = true
 | .nil, h => h.elim
 | .node n p l r, h => by
  rcases h.2.2 with ⟨rfl, rfl, _⟩ | ⟨_, hl, hr⟩
  ·rfl
  ·cases l with
   | nil => exact hl.elim
   | node _ _ _ _ =>
    cases r with
    | nil => exact hr.elim
    | node _ _ _ _ => rw [fullB, fullB_ok hl, fullB_ok hr]; rfl
theorem okB_good {t : List S34} {T : Tr} (hg : Good t T) : okB t = true := by
 unfold okB
 rw [Bool.and_eq_true, decide_eq_true_eq, List.all_eq_true]
 refine ⟨hg.len, fun x hx => ?_⟩
 obtain ⟨i, hi, rfl⟩ := List.getElem_of_mem hx
 have := (fmN_iff _ _).1 (hg.form i hi)
 rw [List.getD, List.getElem?_eq_getElem hi, Option.getD_some] at this
 simp only [Bool.or_eq_true, Bool.and_eq_true, decide_eq_true_eq]
 omega
theorem size_pl : ∀ T, sizeT T = (plT T).length
 | .nil => rfl
 | .node _ _ l r => by rw [sizeT, plT, List.length_cons, List.length_append, size_pl l, size_pl r]; omega
theorem move_total (kind : Int) (mir : Bool) : ∃ b, steps_Move_is.f kind mir = some b := by
 unfold steps_Move_is.f steps_alone.f
 split
 ·split
  ·split
   ·split
    ·exact ⟨_, rfl⟩
    ·split <;> exact ⟨_, rfl⟩
   ·exact ⟨_, rfl⟩
  ·exact ⟨_, rfl⟩
 ·exact ⟨_, rfl⟩
/-- A move that can be done: what it starts from and what it gives. -/
structure Moved (t : List S34) (a1 kind : Int) (mir : Bool) (u : List S34) (T X0 X R : Tr) (c : Nat) (rt : Bool) : Prop where
 good : Good t T
 crown : Crown T X0
 place : a1 = c
 inX : (c : Int) ∈ plT X0
 sub : mkT t t.length c = some X
 isrt : (a1 == plc X0) = rt
 gives : Gives rt X R
 can : canT mir rt X kind = true
 kinds : 1 ≤ kind ∧ kind ≤ 12
 isR : R = if rt = true then setW (doT mir X kind) 1 else doT mir X kind
 okR : Ok (replT c R T)
 sizeR : sizeT (replT c R T) = t.length
 isu : u = flatT (replT c R T) 0
theorem do_total (t : List S34) (a1 kind : Int) (mir : Bool) : ∃ k r1 r2, steps_Do.f k t a1 kind mir = some (r1, r2) ∧ ((r2 ≠ 0 ∧ r1 = []) ∨ (r2 = 0 ∧ ∃ T X0 X R c rt, Moved t a1 kind mir r1 T X0 X R c rt)) := by
 obtain ⟨k, q1, q2, q3, hk, hq⟩ := keys_total t
 unfold steps_Do.f
 by_cases h3 : q3 = 0
 ·obtain ⟨T, X0, hg, hX0, hp, hl, hmem⟩ := hq h3
  obtain ⟨b, hb⟩ := move_total kind mir
  refine ⟨k, ?_⟩
  rw [hk, Option.bind_some]
  simp only
  rw [if_pos h3, hb, Option.bind_some]
  by_cases hbt : b = true
  ·rw [if_pos hbt]
   subst hbt
   by_cases ha : a1 < 0 ∨ (t.length : Int) ≤ a1
   ·rw [if_pos ha]; exact ⟨_, _, rfl, .inl ⟨by decide, rfl⟩⟩
   ·rw [if_neg ha, if_pos (by omega)]
    obtain ⟨c, rfl⟩ : ∃ c : Nat, a1 = c := ⟨a1.toNat, by omega⟩
    have hc : c < t.length := by omega
    by_cases hbel : rdOf false q2 c = true
    ·rw [if_pos hbel, Int.toNat_natCast]
     have hin := (hmem c hc).1 hbel
     obtain ⟨c0, hc0, hcl, hm0, hn0, hl0⟩ := crown_tree hg hX0
     obtain ⟨X, hX, hsub⟩ := sub_ex hm0 _ hin
     rw [Int.toNat_natCast] at hX
     have hok : Ok X := ok_mkT hg.form hX
     have hokT : Ok T := ok_mkT hg.form hg.tree
     have hkd := move_kind hb
     unfold doGood
     rw [if_pos (okB_good hg), hX, Option.bind_some]
     have hsz : sizeT T = t.length := by rw [size_pl, hg.all]
     have hlen := hg.len
     by_cases hcan : canT mir ((c : Int) == q1) X kind = true
     ·rw [if_pos hcan]
      have fin : ∀ R, Gives ((c : Int) == q1) X R → R = (if ((c : Int) == q1) = true then setW (doT mir X kind) 1 else doT mir X kind) → ∃ r1 r2, (mkR t c R t.length 0).bind outT = some (r1, r2) ∧ ((r2 ≠ 0 ∧ r1 = []) ∨ (r2 = 0 ∧ ∃ T X0 X R c_1 rt, Moved t c kind mir r1 T X0 X R c_1 rt)) := by
       intro R hR hRe
       have h1 := mkR_eq t c R _ _ _ hg.tree
       have h2 : Ok (replT c R T) := repl_ok hR.ok hokT
       have h3 : sizeT (replT c R T) = t.length := by rw [repl_size hX hR.size _ _ _ hg.tree, hsz]
       rw [h1, Option.bind_some, outT, if_pos (fullB_ok h2), if_pos (by omega)]
       exact ⟨_, _, rfl, .inr ⟨rfl, T, X0, X, R, c, _, hg, hX0, rfl, hin, hX, by rw [hp], hR, hcan, hkd, hRe, h2, h3, rfl⟩⟩
      by_cases hrt : ((c : Int) == q1) = true
      ·rw [if_pos hrt]
       rw [hrt] at fin hcan
       exact fin _ (gives_root mir hkd hok hcan) (if_pos rfl).symm
      ·rw [if_neg hrt]
       rw [Bool.not_eq_true] at hrt
       rw [hrt] at fin hcan
       by_cases hbig : 1000000 < wt (doT mir X kind)
       ·rw [if_pos hbig]; exact ⟨_, _, rfl, .inl ⟨by decide, rfl⟩⟩
       ·rw [if_neg hbig]
        exact fin _ (gives_plain mir hkd hok hcan hbig) (if_neg (by simp)).symm
     ·rw [if_neg hcan]; exact ⟨_, _, rfl, .inl ⟨by decide, rfl⟩⟩
    ·rw [if_neg hbel]; exact ⟨_, _, rfl, .inl ⟨by decide, rfl⟩⟩
  ·rw [if_neg hbt]; exact ⟨_, _, rfl, .inl ⟨by decide, rfl⟩⟩
 ·refine ⟨k, [], q3, ?_, .inl ⟨h3, rfl⟩⟩
  rw [hk, Option.bind_some]
  simp only
  rw [if_neg h3]
end Go.Proofs.Ytgleaefhflamnaa.T
namespace Go.Proofs.Ytgleaefhflamnaa.T
open Go.RowKit Go.Proofs.YtgleaefhflamnaaW.PrintWords Go.Proofs.YtgleaefhflamnaaW.PrintLast Go.Proofs.YtgleaefhflamnaaW.PrintMore
theorem crown_repl {t : List S34} {T X0 : Tr} (hg : Good t T) (h : Crown T X0) {c : Nat} (hc : (c : Int) ∈ plT X0) {R : Tr} (hRn : R ≠ .nil) (hR : allT (fun n => n.f1 = 0) R) : Crown (replT c R T) (newX c R X0) := by
 have hn := hg.nodup
 obtain ⟨n0, n1, p1, q1, q0, rfl, c1, c2, c3, c4, c5, hXn⟩ := h
 simp only [plT, List.cons_append, List.nodup_cons, List.mem_cons, List.mem_append, not_or, List.append_assoc, List.nil_append] at hn
 have h1 : ¬ p1 = (c : Int) := fun e => hn.2.1.1 (e ▸ hc)
 have hd := (List.nodup_append.1 hn.2.2).2.2
 have h2 : ¬ q1 = (c : Int) := fun e => hd _ hc q1 (by simp) e.symm
 have h3 : ¬ q0 = (c : Int) := fun e => hd _ hc q0 (by simp) e.symm
 refine ⟨n0, n1, p1, q1, q0, ?_, c1, c2, c3, c4, ?_, ?_⟩
 ·rw [replT, if_neg (show ¬ plc (Tr.node n1 p1 X0 (Tr.node sn34 q1 Tr.nil Tr.nil)) = (c : Int) from h1), if_neg (show ¬ plc (Tr.node sn34 q0 Tr.nil Tr.nil) = (c : Int) from h3), replT, if_neg (show ¬ plc (Tr.node sn34 q1 Tr.nil Tr.nil) = (c : Int) from h2)]
  have e : ∀ q : Int, replT c R (.node sn34 q .nil .nil) = .node sn34 q .nil .nil := fun q => by rw [replT, if_neg (plc_nil c), replT]
  rw [e, e]
  rfl
 ·unfold newX
  split
  ·exact hR
  ·exact repl_all hR c5
 ·unfold newX
  split
  ·exact hRn
  ·cases X0 with
   | nil => exact absurd rfl hXn
   | node _ _ _ _ => simp [replT]
theorem ren_ne {T : Tr} (a : Nat) (h : T ≠ .nil) : renT T a ≠ .nil := by
 cases T with
 | nil => exact absurd rfl h
 | node n p l r => cases l <;> simp [renT]
theorem ren_plc {T : Tr} (a : Nat) (h : T ≠ .nil) : plc (renT T a) = a := by
 cases T with
 | nil => exact absurd rfl h
 | node n p l r => cases l <;> rfl
theorem crown_ren {T X : Tr} (h : Crown T X) : Crown (renT T 0) (renT X 2) := by
 obtain ⟨n0, n1, p1, q1, q0, rfl, c1, c2, c3, c4, c5, hXn⟩ := h
 refine ⟨⟨n0.f0, n0.f1, n0.f2, n0.f3, ((0 : Nat) : Int) + 1, ((0 : Nat) : Int) + 1 + sizeT (Tr.node n1 p1 X (Tr.node sn34 q1 .nil .nil))⟩, ⟨n1.f0, n1.f1, n1.f2, n1.f3, ((0 + 1 : Nat) : Int) + 1, ((0 + 1 : Nat) : Int) + 1 + sizeT X⟩, ((0 + 1 : Nat) : Int), ((0 + 1 + 1 + sizeT X : Nat) : Int), ((0 + 1 + sizeT (Tr.node n1 p1 X (Tr.node sn34 q1 .nil .nil)) : Nat) : Int), ?_, c1, c2, c3, c4, ren_inf 2 c5, ren_ne 2 hXn⟩
 rw [ren_inner _ _ _ _ (by simp), ren_inner _ _ _ _ hXn, ren_leaf, ren_leaf]
 rfl
/-- What a move that can be done says of the two trees of the keys. -/
structure Two (t : List S34) (a1 : Int) (u : List S34) (T X0 U Y0 : Tr) (c0 : Nat) : Prop where
 good : Good t T
 crown : Crown T X0
 goodU : Good u U
 crownU : Crown U Y0
 len : u.length = t.length
 at0 : plc X0 = c0
 atU : plc Y0 = 2
 mk0 : mkT t t.length c0 = some X0
 mkU : mkT u u.length 2 = some Y0
 size0 : sizeT X0 ≤ 100000
 sizeU : sizeT Y0 ≤ 100000
 plain : a1 ≠ c0 → ∀ a, sums Y0 a = sums X0 a
 root : a1 = c0 → wt Y0 = 1 ∧ ∃ d, ∀ a, sums Y0 a = sums X0 (a + d)
theorem moved_two {t : List S34} {a1 kind : Int} {mir : Bool} {u : List S34} {T X0 X R : Tr} {c : Nat} {rt : Bool} (h : Moved t a1 kind mir u T X0 X R c rt) : ∃ c0, Two t a1 u T X0 (renT (replT c R T) 0) (renT (newX c R X0) 2) c0 := by
 have hlen := h.good.len
 obtain ⟨c0, hc0, hcl, hm0, hn0, hl0⟩ := crown_tree h.good h.crown
 have hRn := ok_ne h.gives.ok
 have hinf : allT (fun n => n.f1 = 0) R := by
  obtain ⟨X', hX', hs⟩ := sub_ex hm0 _ h.inX
  rw [Int.toNat_natCast, h.sub] at hX'
  obtain rfl := Option.some.inj hX'
  obtain ⟨_, _, _, _, _, _, _, _, _, _, c5, _⟩ := h.crown
  exact h.gives.all (hs _ c5)
 have hcr := crown_repl h.good h.crown h.inX hRn hinf
 have hgU := flat_good h.okR (by rw [h.sizeR]; exact hlen)
 have hcU := crown_ren hcr
 rw [← h.isu] at hgU
 obtain ⟨cu, hcu, hcul, hmu, hnu, hlu⟩ := crown_tree hgU hcU
 have hYn : newX c R X0 ≠ .nil := by obtain ⟨_, _, _, _, _, _, _, _, _, _, _, hh⟩ := hcr; exact hh
 have hp2 : plc (renT (newX c R X0) 2) = 2 := ren_plc 2 hYn
 obtain rfl : cu = 2 := by omega
 have hok0 : Ok X0 := ok_mkT h.good.form hm0
 have hokY : Ok (newX c R X0) := by
  unfold newX
  split
  ·exact h.gives.ok
  ·exact repl_ok h.gives.ok hok0
 have hlenu : u.length = t.length := by rw [h.isu, flT_len h.okR, h.sizeR]
 have hplace := h.place
 have hisrt := h.isrt
 refine ⟨c0, h.good, h.crown, hgU, hcU, hlenu, hc0, hp2, hm0, hmu, by rw [size_pl]; omega, by rw [size_pl]; omega, ?_, ?_⟩
 ·intro hne a
  have hrt : rt = false := by rw [← hisrt]; exact beq_eq_false_iff_ne.2 (by omega)
  rw [ren_sums hokY, newX, if_neg (by omega)]
  exact repl_sums h.sub hRn (h.gives.plain hrt) _ _ _ hm0 a
 ·intro he
  have hrt : rt = true := by rw [← hisrt]; exact beq_iff_eq.2 (by omega)
  obtain ⟨hw, d, hd⟩ := h.gives.root hrt
  have hcc : c = c0 := by omega
  subst hcc
  have hXX : X = X0 := by have := h.sub; rw [hm0] at this; exact (Option.some.inj this).symm
  subst hXX
  have hY : newX c R X = R := by rw [newX, if_pos hc0]
  rw [ren_wt, hY]
  refine ⟨hw, d, fun a => ?_⟩
  rw [ren_sums (by rw [← hY]; exact hokY), hd]
theorem root_at {t : List S34} {T X0 : Tr} (hg : Good t T) (hX : Crown T X0) : ∃ k, table_Root.f k t = some (plc X0, 0) := by
 obtain ⟨k, r1, r2, h, _, h2⟩ := root_good hg
 obtain ⟨e1, e2⟩ := h2 X0 hX
 exact ⟨k, by rw [h, e1, e2]⟩
end Go.Proofs.Ytgleaefhflamnaa.T
namespace Go.Proofs.Ytgleaefhflamnaa.T
open Go.RowKit Go.Proofs.YtgleaefhflamnaaW.PrintWords Go.Proofs.YtgleaefhflamnaaW.PrintLast Go.Proofs.YtgleaefhflamnaaW.PrintMore
/-- A node with its children's numbers. -/
def conv (t : List S34) (num : List Int) (p : Int) : S34 :=
 let n := t.getD p.toNat z34
 if n.f4 = -1 ∧ n.f5 = -1 then n else ⟨n.f0, n.f1, n.f2, n.f3, rd num n.f4, rd num n.f5⟩
theorem sub_l1 {t : List S34} (hf : FormT t) (num ps : List Int) (hn : num.length = t.length) (hp : ∀ p ∈ ps, 0 ≤ p ∧ p < t.length) (hl : ps.length ≤ 1000000) : ∀ (d i k : Nat), i + d = ps.length → d < k →
  table_sub.l1 k t num ((ps.take i).map (conv t num)) ps ps.length i = some (ps.map (conv t num)) := by
 intro d
 induction d with
 | zero =>
  intro i k hi hk
  cases k with
  | zero => omega
  | succ k =>
   obtain rfl : i = ps.length := by omega
   rw [table_sub.l1, if_neg (by omega), List.take_length]
 | succ d ih =>
  intro i k hi hk
  cases k with
  | zero => omega
  | succ k =>
   have hil : i < ps.length := by omega
   have hg : ps.getD i 0 = ps[i] := by rw [List.getD, List.getElem?_eq_getElem hil, Option.getD_some]
   have hr := hp (ps.getD i 0) (by rw [hg]; exact List.getElem_mem _)
   have htake : ps.take (i + 1) = ps.take i ++ [ps.getD i 0] := by rw [hg, List.take_append_getElem hil]
   have hlen : ((ps.take i).map (conv t num)).length = i := by rw [List.length_map, List.length_take]; omega
   have step := ih (i + 1) k (by omega) (by omega)
   rw [htake, List.map_append, List.map_singleton] at step
   have hfm := hf (ps.getD i 0).toNat (by omega)
   rw [table_sub.l1, if_pos (by omega), if_pos (by omega), if_pos (by omega), show rd ps (i : Int) = ps.getD i 0 from rfl, if_pos hr.1, if_pos hr.2, show rd_T34 t (ps.getD i 0) = t.getD (ps.getD i 0).toNat z34 from rfl, leaf_f, Option.bind_some]
   by_cases hlf : (t.getD (ps.getD i 0).toNat z34).f4 = -1 ∧ (t.getD (ps.getD i 0).toNat z34).f5 = -1
   ·rw [if_pos (by simpa using hlf), if_pos (by omega), Go.IntWalk.wrap64_in _ (by omega)]
    rw [conv, if_pos hlf] at step
    exact step
   ·rw [if_neg (by simpa using hlf), if_pos (by omega), if_pos (by omega), if_pos (by omega), if_pos (by omega), if_pos (by omega), Go.IntWalk.wrap64_in _ (by omega)]
    rw [conv, if_neg hlf] at step
    exact step
theorem sub_l0 {t : List S34} (hf : FormT t) (ps : List Int) (hp : ∀ p ∈ ps, 0 ≤ p ∧ p < t.length) (hnd : ps.Nodup) (hl : ps.length ≤ 1000000) (htl : t.length ≤ 100000) : ∀ (d i k : Nat) (num : List Int), i + d = ps.length → d + ps.length + 2 < k → num.length = t.length → (∀ j, j < i → rd num (ps.getD j 0) = j) →
  ∃ num', num'.length = t.length ∧ (∀ j, j < ps.length → rd num' (ps.getD j 0) = j) ∧ table_sub.l0 k t ps num ps ps.length i = some (ps.map (conv t num')) := by
 intro d
 induction d with
 | zero =>
  intro i k num hi hk hn hj
  cases k with
  | zero => omega
  | succ k =>
   refine ⟨num, hn, fun j h => hj j (by omega), ?_⟩
   rw [table_sub.l0, if_neg (by omega), if_pos (by omega), if_pos (by omega)]
   have := sub_l1 hf num ps hn hp hl ps.length 0 k (by omega) (by omega)
   rw [List.take_zero, List.map_nil] at this
   exact this
 | succ d ih =>
  intro i k num hi hk hn hj
  cases k with
  | zero => omega
  | succ k =>
   have hil : i < ps.length := by omega
   have hg : ∀ j (h : j < ps.length), ps.getD j 0 = ps[j] := fun j h => by rw [List.getD, List.getElem?_eq_getElem h, Option.getD_some]
   have hr := hp (ps.getD i 0) (by rw [hg i hil]; exact List.getElem_mem _)
   obtain ⟨num', h1, h2, h3⟩ := ih (i + 1) k (num.set (ps.getD i 0).toNat i) (by omega) (by omega) (by rw [List.length_set, hn]) (fun j h => by
    by_cases e : j = i
    ·subst e
     simp only [rd]
     rw [getD_set_eq _ _ _ (by omega)]
    ·have hjl : j < ps.length := by omega
     have hrj := hp (ps.getD j 0) (by rw [hg j hjl]; exact List.getElem_mem _)
     have hne : ps.getD i 0 ≠ ps.getD j 0 := by
      rw [hg i hil, hg j hjl]
      intro e2
      rcases Nat.lt_trichotomy i j with hlt | heq | hgt
      ·exact List.pairwise_iff_getElem.1 hnd i j hil hjl hlt e2
      ·exact e heq.symm
      ·exact List.pairwise_iff_getElem.1 hnd j i hjl hil hgt e2.symm
     have := hj j (by omega)
     simp only [rd] at this ⊢
     rw [getD_set_ne _ _ _ (by omega)]
     exact this)
   refine ⟨num', h1, h2, ?_⟩
   rw [table_sub.l0, if_pos (by omega), if_pos (by omega), if_pos (by omega), show rd ps (i : Int) = ps.getD i 0 from rfl, if_pos hr.1, if_pos (by omega), Go.IntWalk.wrap64_in _ (by omega)]
   exact h3
theorem plT_head {t : List S34} {k i : Nat} {T : Tr} (h : mkT t k i = some T) : ∃ q, plT T = (i : Int) :: q := by
 have e := mkT_plc h
 cases T with
 | nil => exact absurd h (fun h => mkT_nil h)
 | node n p l r => exact ⟨_, by rw [plT]; rw [plc] at e; rw [e]⟩
/-- The nodes with their new numbers are the flat table. -/
theorem conv_flat {t : List S34} (hf : ∀ i, i < t.length → fmN (t.getD i z34) t.length = true) (num : List Int) : ∀ (k i : Nat) (T : Tr) (a : Nat), mkT t k i = some T → (∀ j, j < (plT T).length → rd num ((plT T).getD j 0) = ((a + j : Nat) : Int)) → (plT T).map (conv t num) = flatT T a := by
 intro k
 induction k with
 | zero => intro i T a h; simp [mkT] at h
 | succ k ih =>
  intro i T a h hnum
  by_cases hl : (t.getD i z34).f4 = -1 ∧ (t.getD i z34).f5 = -1
  ·obtain ⟨hi, rfl⟩ := mkT_leaf hf h hl
   rw [flT_leaf]
   simp only [plT, List.append_nil, List.map_cons, List.map_nil, conv, Int.toNat_natCast]
   rw [if_pos hl]
  ·obtain ⟨k', l, r, hk, hi, h1, h2, rfl⟩ := mkT_inner hf h hl
   obtain rfl : k = k' := by omega
   have hfm := (fmN_iff _ _).1 (hf i hi)
   have hln : l ≠ .nil := fun e => mkT_nil (e ▸ h1)
   obtain ⟨ql, el⟩ := plT_head h1
   obtain ⟨qr, er⟩ := plT_head h2
   have hsl : sizeT l = (plT l).length := size_pl l
   simp only [plT, List.length_cons, List.length_append] at hnum
   have n4 : rd num (t.getD i z34).f4 = ((a + 1 : Nat) : Int) := by
    have := hnum 1 (by rw [el]; simp only [List.length_cons]; omega)
    rw [List.getD_cons_succ, el, List.cons_append, List.getD_cons_zero] at this
    rw [show (t.getD i z34).f4 = (((t.getD i z34).f4.toNat : Nat) : Int) by omega]
    exact this
   have n5 : rd num (t.getD i z34).f5 = ((a + 1 + sizeT l : Nat) : Int) := by
    have := hnum (1 + (plT l).length) (by rw [er]; simp only [List.length_cons]; omega)
    rw [Nat.add_comm 1, List.getD_cons_succ, List.getD, List.getElem?_append_right (Nat.le_refl _), Nat.sub_self, er] at this
    rw [show (t.getD i z34).f5 = (((t.getD i z34).f5.toNat : Nat) : Int) by omega]
    rw [hsl, show a + 1 + (plT l).length = a + ((plT l).length + 1) by omega]
    exact this
   have il := ih _ l (a + 1) h1 (fun j hj => by
    have := hnum (j + 1) (by omega)
    rw [List.getD_cons_succ, List.getD, List.getElem?_append_left hj] at this
    rw [show a + 1 + j = a + (j + 1) by omega]
    exact this)
   have ir := ih _ r (a + 1 + sizeT l) h2 (fun j hj => by
    have := hnum ((plT l).length + j + 1) (by omega)
    rw [List.getD_cons_succ, List.getD, List.getElem?_append_right (by omega), Nat.add_sub_cancel_left] at this
    rw [hsl, show a + 1 + (plT l).length + j = a + ((plT l).length + j + 1) by omega]
    exact this)
   rw [flT_inner _ _ _ _ hln, plT, List.map_cons, List.map_append, il, ir, conv, Int.toNat_natCast, if_neg hl, n4, n5]
   rfl
theorem sub_tree {t : List S34} (hlen : t.length ≤ 100000) (hf : ∀ i, i < t.length → fmN (t.getD i z34) t.length = true) {K : Nat} {a : Int} {T : Tr} (h0 : 0 ≤ a) (hT : mkT t K a.toNat = some T) (hn : (plT T).Nodup) (hl : (plT T).length ≤ 1000000) : ∃ k, table_sub.f k t a = some (flatT T 0) := by
 refine ⟨2 * (plT T).length + 10, ?_⟩
 unfold table_sub.f
 rw [order_f_tree hlen (formT_of hf) h0 hT hn hl _ (by omega), Option.bind_some, if_pos (by omega), if_pos (by omega), Int.toNat_natCast]
 obtain ⟨num, h1, h2, h3⟩ := sub_l0 (formT_of hf) (plT T) (plT_mem _ _ _ hT).2 hn hl hlen (plT T).length 0 (2 * (plT T).length + 10) (List.replicate t.length 0) (by omega) (by omega) List.length_replicate (fun j hj => absurd hj (by omega))
 rw [show ((0 : Nat) : Int) = 0 from rfl] at h3
 rw [h3, conv_flat hf num _ _ T 0 hT (fun j hj => by rw [h2 j hj, Nat.zero_add])]
end Go.Proofs.Ytgleaefhflamnaa.T
namespace Go.Proofs.Ytgleaefhflamnaa.T
open Go.RowKit Go.Proofs.YtgleaefhflamnaaW.PrintWords Go.Proofs.YtgleaefhflamnaaW.PrintLast Go.Proofs.YtgleaefhflamnaaW.PrintMore
/-- A tree without its places and its nodes' numbers. -/
def nT : Tr → Tr
 | .nil => .nil
 | .node n _ l r => .node ⟨n.f0, n.f1, n.f2, n.f3, 0, 0⟩ 0 (nT l) (nT r)
/-- The tree mirrored. -/
def mirT : Tr → Tr
 | .nil => .nil
 | .node n p l r => .node n p (mirT r) (mirT l)
theorem nT_nil {T : Tr} : nT T = .nil ↔ T = .nil := by cases T <;> simp [nT]
end Go.Proofs.Ytgleaefhflamnaa.T
namespace Go.Proofs.Ytgleaefhflamnaa.T
open Go.RowKit Go.Proofs.YtgleaefhflamnaaW.PrintWords Go.Proofs.YtgleaefhflamnaaW.PrintLast Go.Proofs.YtgleaefhflamnaaW.PrintMore
theorem size_n : ∀ T : Tr, sizeT (nT T) = sizeT T
 | .nil => rfl
 | .node n p l r => by rw [nT, sizeT, sizeT, size_n l, size_n r]
theorem ok_leaf {n : S34} {p : Int} {r : Tr} (h : Ok (.node n p .nil r)) : r = .nil ∧ n.f4 = -1 ∧ n.f5 = -1 := by
 rcases h.2.2 with ⟨_, h2, h3⟩ | ⟨_, h2, _⟩
 ·exact ⟨h2, h3⟩
 ·exact h2.elim
theorem ok_inner {n : S34} {p : Int} {l r : Tr} (h : Ok (.node n p l r)) (hl : l ≠ .nil) : Ok l ∧ Ok r := by
 rcases h.2.2 with ⟨h1, _⟩ | ⟨_, h1, h2⟩
 ·exact absurd h1 hl
 ·exact ⟨h1, h2⟩
/-- The flat table asks the shape alone. -/
theorem flat_shape : ∀ {T T' : Tr}, Ok T → Ok T' → nT T = nT T' → ∀ a, flatT T a = flatT T' a
 | .nil, _, h, _, _, _ => h.elim
 | _, .nil, _, h, _, _ => h.elim
 | .node n p l r, .node n' p' l' r', h, h', e, a => by
  rw [nT, nT] at e
  injection e with e1 _ e3 e4
  injection e1 with g0 g1 g2 g3
  by_cases hl : l = .nil
  ·subst hl
   obtain rfl : l' = .nil := nT_nil.1 (by rw [← e3]; rfl)
   have k := ok_leaf h
   have k' := ok_leaf h'
   rw [flT_leaf, flT_leaf]
   obtain ⟨a0, a1, a2, a3, a4, a5⟩ := n
   obtain ⟨b0, b1, b2, b3, b4, b5⟩ := n'
   simp only at g0 g1 g2 g3 k k'
   rw [g0, g1, g2, g3, k.2.1, k.2.2, k'.2.1, k'.2.2]
  ·have hl' : l' ≠ .nil := fun e => hl (nT_nil.1 (by rw [e3, e]; rfl))
   have k := ok_inner h hl
   have k' := ok_inner h' hl'
   have es : sizeT l = sizeT l' := by rw [← size_n l, ← size_n l', e3]
   rw [flT_inner _ _ _ _ hl, flT_inner _ _ _ _ hl', g0, g1, g2, g3, es, flat_shape k.1 k'.1 e3, flat_shape k.2 k'.2 e4]
theorem nT_ren : ∀ {T : Tr}, Ok T → ∀ a, nT (renT T a) = nT T
 | .nil, h, _ => h.elim
 | .node n p l r, h, a => by
  by_cases hl : l = .nil
  ·subst hl
   rw [ren_leaf, (ok_leaf h).1]
   rfl
  ·have k := ok_inner h hl
   rw [ren_inner _ _ _ _ hl, nT, nT, nT_ren k.1, nT_ren k.2]
theorem repl_no {c : Nat} {R : Tr} : ∀ {T : Tr}, (c : Int) ∉ plT T → replT c R T = T
 | .nil, _ => rfl
 | .node n p l r, h => by
  rw [plT, List.mem_cons, List.mem_append] at h
  have hh : ∀ X : Tr, (c : Int) ∉ plT X → (if plc X = c then R else replT c R X) = replT c R X := by
   intro X hX
   refine if_neg (fun e => hX ?_)
   cases X with
   | nil => rw [plc] at e; omega
   | node _ q _ _ => rw [plc] at e; rw [plT, e]; exact List.mem_cons_self
  have h1 : (c : Int) ∉ plT l := fun e => h (.inr (.inl e))
  have h2 : (c : Int) ∉ plT r := fun e => h (.inr (.inr e))
  rw [replT, hh l h1, hh r h2, repl_no h1, repl_no h2]
theorem new_no {c : Nat} {R X : Tr} (h : (c : Int) ∉ plT X) : newX c R X = X := by
 unfold newX
 rw [if_neg, repl_no h]
 intro e
 cases X with
 | nil => rw [plc] at e; omega
 | node _ q _ _ => rw [plc] at e; exact h (by rw [plT, e]; exact List.mem_cons_self)
theorem repl_new (c : Nat) (R : Tr) (n : S34) (p : Int) (l r : Tr) : replT c R (.node n p l r) = .node n p (newX c R l) (newX c R r) := rfl
end Go.Proofs.Ytgleaefhflamnaa.T
/- table.Ordered over trees. -/
namespace Go.Proofs.Ytgleaefhflamnaa.T
open Go.RowKit Go.Proofs.YtgleaefhflamnaaW.PrintWords Go.Proofs.YtgleaefhflamnaaW.PrintLast Go.Proofs.YtgleaefhflamnaaW.PrintMore
set_option linter.unusedVariables false
/-- Is each leaf of the tree where a search for it ends? -/
def ordT : Tr → S125 → Bool → Bool
 | .nil, _, _ => true
 | .node n _ .nil _, b, s => !outB n b s
 | .node n _ (.node a p x y) r, b, s => ordT (.node a p x y) (lB n b) s && ordT r (rB n b) (s || n.f1 == 1)
theorem ordT_inner (n : S34) (p : Int) {l : Tr} (r : Tr) (b : S125) (s : Bool) (hl : l ≠ .nil) : ordT (.node n p l r) b s = (ordT l (lB n b) s && ordT r (rB n b) (s || n.f1 == 1)) := by
 cases l with
 | nil => exact absurd rfl hl
 | node _ _ _ _ => rfl
theorem gD_ne {α : Type} (l : List α) (i j : Nat) (x d : α) (h : i ≠ j) : (l.set i x).getD j d = l.getD j d := by
 simp only [List.getD, List.getElem?_set_ne h]
theorem gD_eq {α : Type} (l : List α) (i : Nat) (x d : α) (h : i < l.length) : (l.set i x).getD i d = x := by
 simp only [List.getD, List.getElem?_set_self h, Option.getD_some]
theorem ordL_tree {t : List S34} (hf : ∀ i, i < t.length → fmN (t.getD i z34) t.length = true) : ∀ (k i : Nat) (T : Tr), mkT t k i = some T → (plT T).Nodup → ∀ (ps : List Int) (A : List S125) (B : List Bool), A.length = t.length → B.length = t.length →
  ∃ A' B', A'.length = t.length ∧ B'.length = t.length ∧ (∀ q : Nat, (q : Int) ∉ plT T → A'.getD q z125 = A.getD q z125 ∧ B'.getD q false = B.getD q false) ∧
   ordL t (plT T ++ ps) A B = (ordT T (A.getD i z125) (B.getD i false) && ordL t ps A' B') := by
 intro k
 induction k with
 | zero => intro i T h; simp [mkT] at h
 | succ k ih =>
  intro i T h hn ps A B hA hB
  by_cases hl : (t.getD i z34).f4 = -1 ∧ (t.getD i z34).f5 = -1
  ·obtain ⟨hi, rfl⟩ := mkT_leaf hf h hl
   refine ⟨A, B, hA, hB, fun _ _ => ⟨rfl, rfl⟩, ?_⟩
   simp only [plT, List.append_nil, List.cons_append, List.nil_append]
   rw [ordL, Int.toNat_natCast, if_pos hl, ordT]
   cases outB (t.getD i z34) (A.getD i z125) (B.getD i false) <;> simp
  ·obtain ⟨k', l, r, hk, hi, h1, h2, rfl⟩ := mkT_inner hf h hl
   obtain rfl : k = k' := by omega
   have hfm := (fmN_iff _ _).1 (hf i hi)
   have hln : l ≠ .nil := fun e => mkT_nil (e ▸ h1)
   have p1 := mkT_plc h1
   have p2 := mkT_plc h2
   have m1 := (plT_mem _ _ _ h1).1
   have m2 := (plT_mem _ _ _ h2).1
   simp only [plT, List.nodup_cons, List.mem_append, not_or] at hn
   have hd := (List.nodup_append.1 hn.2).2.2
   obtain ⟨x, hx⟩ : ∃ x : Nat, (t.getD i z34).f4 = x := ⟨(t.getD i z34).f4.toNat, by omega⟩
   obtain ⟨y, hy⟩ : ∃ y : Nat, (t.getD i z34).f5 = y := ⟨(t.getD i z34).f5.toNat, by omega⟩
   rw [hx, Int.toNat_natCast] at h1 m1
   rw [hy, Int.toNat_natCast] at h2 m2
   have hxy : x ≠ y := fun e => hd _ m1 _ (e ▸ m2) rfl
   have hyl : (y : Int) ∉ plT l := fun e => hd _ e _ m2 rfl
   generalize hN : t.getD i z34 = n at *
   generalize hb : A.getD i z125 = b
   generalize hs : B.getD i false = s
   obtain ⟨A1, B1, a1, b1, c1, e1⟩ := ih x l h1 (nodup_app_l hn.2) (plT r ++ ps) ((A.set x (lB n b)).set y (rB n b)) ((B.set x s).set y (s || n.f1 == 1)) (by rw [List.length_set, List.length_set, hA]) (by rw [List.length_set, List.length_set, hB])
   obtain ⟨A2, B2, a2, b2, c2, e2⟩ := ih y r h2 (nodup_app_r hn.2) ps A1 B1 a1 b1
   refine ⟨A2, B2, a2, b2, fun q hq => ?_, ?_⟩
   ·simp only [plT, List.mem_cons, List.mem_append, not_or] at hq
    have hqx : x ≠ q := fun e => hq.2.1 (e ▸ m1)
    have hqy : y ≠ q := fun e => hq.2.2 (e ▸ m2)
    rw [(c2 q hq.2.2).1, (c2 q hq.2.2).2, (c1 q hq.2.1).1, (c1 q hq.2.1).2, gD_ne _ _ _ _ _ hqy, gD_ne _ _ _ _ _ hqx, gD_ne _ _ _ _ _ hqy, gD_ne _ _ _ _ _ hqx]
    exact ⟨rfl, rfl⟩
   ·rw [plT, List.cons_append, List.append_assoc, ordL, Int.toNat_natCast, hN, if_neg hl, hx, hy, Int.toNat_natCast, Int.toNat_natCast, hb, hs, e1, e2, ordT_inner _ _ _ _ _ hln, (c1 y hyl).1, (c1 y hyl).2, gD_ne _ _ _ _ _ (Ne.symm hxy), gD_eq _ _ _ _ (by omega), gD_ne _ _ _ _ _ (Ne.symm hxy), gD_eq _ _ _ _ (by omega), gD_eq _ _ _ _ (by rw [List.length_set]; omega), gD_eq _ _ _ _ (by rw [List.length_set]; omega), Bool.and_assoc]
theorem ordL_good {t : List S34} {T : Tr} (hg : Good t T) : ordL t (plT T) (List.replicate t.length z125) (List.replicate t.length false) = ordT T z125 false := by
 obtain ⟨A', B', _, _, _, e⟩ := ordL_tree hg.form _ _ T hg.tree hg.nodup [] (List.replicate t.length z125) (List.replicate t.length false) List.length_replicate List.length_replicate
 have r1 : (List.replicate t.length z125).getD 0 z125 = z125 := by simp [List.getD, List.getElem?_replicate, hg.pos]
 have r2 : (List.replicate t.length false).getD 0 false = false := by simp [List.getD, List.getElem?_replicate, hg.pos]
 rw [List.append_nil, ordL, Bool.and_true, r1, r2] at e
 exact e
/-- Within bounds. -/
def inB (b : S125) (y : Int) : Prop := (b.f2 = true → b.f0 ≤ y) ∧ (b.f3 = true → y < b.f1)
theorem inB_l {n : S34} (h : n.f1 = 0) (b : S125) (y : Int) : inB (lB n b) y ↔ inB b y ∧ y < n.f0 := by
 unfold lB inB
 rw [if_pos h]
 cases hb : b.f3 <;> cases hd : b.f2 <;> by_cases hc : n.f0 < b.f1 <;> simp [hb, hc, hd] <;> omega
theorem inB_r {n : S34} (h : n.f1 = 0) (b : S125) (y : Int) : inB (rB n b) y ↔ inB b y ∧ n.f0 ≤ y := by
 unfold rB inB
 rw [if_pos h]
 cases hb : b.f3 <;> cases hd : b.f2 <;> by_cases hc : n.f0 > b.f0 <;> simp [hb, hc, hd] <;> omega
theorem ordT_bst : ∀ {X : Tr}, Ok X → allT (fun n => n.f1 = 0) X → ∀ b, (ordT X b false = true ↔ Bst X ∧ ∀ y, inK y X → inB b y)
 | .nil, h, _, _ => h.elim
 | .node n p .nil r, h, ha, b => by
  have h0 : n.f1 = 0 := ha.1
  have hk : ∀ y, inK y (.node n p .nil r) ↔ y = n.f0 := fun y => by
   simp only [inK, prs, if_pos h0, List.mem_singleton]
   exact ⟨fun ⟨q, e, e'⟩ => by rw [← e', e], fun e => ⟨_, rfl, e.symm⟩⟩
  simp only [ordT, Bst, true_and, hk, forall_eq, outB, inB, h0]
  cases b.f2 <;> cases b.f3 <;> simp <;> omega
 | .node n p (.node c d x y) r, h, ha, b => by
  have h0 : n.f1 = 0 := ha.1
  have hk := ok_inner h (by simp)
  have e1 := ordT_bst hk.1 ha.2.1 (lB n b)
  have e2 := ordT_bst hk.2 ha.2.2 (rB n b)
  rw [ordT_inner _ _ _ _ _ (by simp), h0, Bool.and_eq_true, e1, show (false || (0 : Int) == 1) = false from rfl, e2, bst_inner n p (l := .node c d x y) r (by simp)]
  simp only [inB_l h0, inB_r h0, inK_app (prs_inner n p r (l := .node c d x y) (by simp))]
  constructor
  ·rintro ⟨⟨a1, a2⟩, a3, a4⟩
   exact ⟨⟨fun y hy => (a2 y hy).2, fun y hy => (a4 y hy).2, a1, a3⟩, fun y hy => hy.elim (fun h => (a2 y h).1) (fun h => (a4 y h).1)⟩
  ·rintro ⟨⟨a1, a2, a3, a4⟩, a5⟩
   exact ⟨⟨a3, fun y hy => ⟨a5 y (.inl hy), a1 y hy⟩⟩, a4, fun y hy => ⟨a5 y (.inr hy), a2 y hy⟩⟩
theorem ordT_crown {T X0 : Tr} (h : Crown T X0) (hk : Ok X0) : (ordT T z125 false = true ↔ Bst X0) ∧ prs T = prs X0 := by
 obtain ⟨n0, n1, p1, q1, q0, rfl, c1, c2, c3, c4, c5, hXn⟩ := h
 have e0 : lB n0 z125 = z125 := by unfold lB; rw [if_neg (by omega)]
 have e1 : lB n1 z125 = z125 := by unfold lB; rw [if_neg (by omega)]
 have e2 : ∀ b s q r, ordT (.node sn34 q .nil r) b s = true := fun b s q r => by simp [ordT, outB, sn34]
 have e3 : ∀ q r, prs (.node sn34 q .nil r) = [] := fun q r => by rw [prs, if_neg (by decide)]
 refine ⟨?_, ?_⟩
 ·rw [ordT_inner _ _ _ _ _ (by simp), e0, ordT_inner _ _ _ _ _ hXn, e1, e2, e2, Bool.and_true, Bool.and_true, ordT_bst hk c5]
  exact ⟨fun h => h.1, fun h => ⟨h, fun y _ => ⟨fun e => by simp [z125] at e, fun e => by simp [z125] at e⟩⟩⟩
 ·rw [prs_inner _ _ _ (by simp), prs_inner _ _ _ hXn, e3, e3, List.append_nil, List.append_nil]
theorem prs_ren : ∀ {T : Tr}, Ok T → ∀ a, prs (renT T a) = prs T
 | .nil, h, _ => h.elim
 | .node n p .nil r, h, a => rfl
 | .node n p (.node c d x y) r, h, a => by
  have hk := ok_inner h (by simp)
  rw [ren_inner _ _ _ _ (by simp), prs_inner _ _ _ (ren_ne _ (by simp)), prs_inner _ _ _ (by simp), prs_ren hk.1, prs_ren hk.2]
theorem inK_ren {T : Tr} (h : Ok T) (a : Nat) (y : Int) : inK y (renT T a) ↔ inK y T := by rw [inK, prs_ren h]; exact Iff.rfl
theorem bst_ren : ∀ {T : Tr}, Ok T → ∀ a, (Bst (renT T a) ↔ Bst T)
 | .nil, h, _ => h.elim
 | .node n p .nil r, h, a => Iff.rfl
 | .node n p (.node c d x y) r, h, a => by
  have hk := ok_inner h (by simp)
  rw [ren_inner _ _ _ _ (by simp), bst_inner _ _ _ (ren_ne _ (by simp)), bst_inner _ _ _ (by simp), bst_ren hk.1, bst_ren hk.2]
  simp only [inK_ren hk.1, inK_ren hk.2]
/-- What is kept of a tree is kept of the whole. -/
theorem keep_repl {t : List S34} {c K : Nat} {X R : Tr} (hf : ∀ i, i < t.length → fmN (t.getD i z34) t.length = true) (hX : mkT t K c = some X) (hRn : R ≠ .nil) (hs : prs R = prs X) : ∀ (k i : Nat) (T : Tr), mkT t k i = some T → prs (newX c R T) = prs T ∧ (Bst T → (Bst X → Bst R) → Bst (newX c R T)) := by
 intro k
 induction k with
 | zero => intro i T h; simp [mkT] at h
 | succ k ih =>
  intro i T h
  by_cases hp : plc T = c
  ·rw [newX, if_pos hp]
   rw [mkT_plc h] at hp
   obtain rfl : i = c := by omega
   obtain rfl := mkT_fun t h hX
   exact ⟨hs, fun a b => b a⟩
  ·rw [newX, if_neg hp]
   by_cases hl : (t.getD i z34).f4 = -1 ∧ (t.getD i z34).f5 = -1
   ·obtain ⟨hi, rfl⟩ := mkT_leaf hf h hl
    rw [repl_new, new_no (by simp [plT])]
    exact ⟨rfl, fun h _ => h⟩
   ·obtain ⟨k', l, r, hk, hi, h1, h2, rfl⟩ := mkT_inner hf h hl
    obtain rfl : k = k' := by omega
    have hln : l ≠ .nil := fun e => mkT_nil (e ▸ h1)
    have hne : newX c R l ≠ .nil := by
     unfold newX
     split
     ·exact hRn
     ·cases l with
      | nil => exact absurd rfl hln
      | node _ _ _ _ => simp [replT]
    obtain ⟨a1, a2⟩ := ih _ l h1
    obtain ⟨b1, b2⟩ := ih _ r h2
    rw [repl_new, prs_inner _ _ _ hne, prs_inner _ _ _ hln, a1, b1, bst_inner _ _ _ hne, bst_inner _ _ _ hln]
    refine ⟨rfl, fun ⟨g1, g2, g3, g4⟩ hb => ⟨fun y hy => g1 y ?_, fun y hy => g2 y ?_, a2 g3 hb, b2 g4 hb⟩⟩
    ·rwa [inK, a1] at hy
    ·rwa [inK, b1] at hy
end Go.Proofs.Ytgleaefhflamnaa.T
namespace Go.Proofs.Ytgleaefhflamnaa.T
open Go.RowKit Go.Proofs.YtgleaefhflamnaaW.PrintWords Go.Proofs.YtgleaefhflamnaaW.PrintLast Go.Proofs.YtgleaefhflamnaaW.PrintMore
/-- The walk over trees that share no place: all places, from the top of the stack on. -/
theorem order_tree2 (t : List S34) (hlen : t.length ≤ 1000000) (hf : FormT t) (K : Nat) : ∀ (k : Nat) (met : List Bool) (out s ps : List Int), met.length = t.length → plF t K s = some ps → ps.Nodup → (∀ p ∈ ps, met.getD p.toNat false = false) → ps.length < k → out.length + ps.length ≤ 1000000 →
  table_order.l0 k t met out s.reverse = some (out ++ ps) := by
 intro k
 induction k with
 | zero => intro met out s ps _ _ _ _ h; exact absurd h (by omega)
 | succ k ih =>
  intro met out s ps hm hp hn hu hk ho
  cases s with
  | nil =>
   rw [plF] at hp
   injection hp with hp
   subst hp
   rw [List.reverse_nil, order_nil, List.append_nil]
  | cons i s =>
   obtain ⟨T, q, h0, hT, hq, rfl⟩ := plF_cons hp
   have hsl := plF_len hp
   rw [List.length_cons, List.length_append] at hsl
   have hsl2 := plF_len hq
   rw [List.length_append] at hk ho
   rw [order_step _ _ _ _ _ _ (by omega), if_pos h0]
   cases K with
   | zero => simp [mkT] at hT
   | succ K =>
    have hT0 := hT
    rw [mkT] at hT
    split at hT
    case isFalse => exact absurd hT (by simp)
    rename_i hi
    split at hT
    ·rename_i h4
     obtain ⟨Tl, hl, hT⟩ := Option.bind_eq_some_iff.1 hT
     obtain ⟨Tr', hr, hT⟩ := Option.bind_eq_some_iff.1 hT
     obtain rfl := Option.some.inj hT
     simp only [plT, List.cons_append, List.nodup_cons, List.append_assoc, List.length_cons, List.length_append] at hn hk ho hsl ⊢
     have hmi := hu i.toNat (by simp [plT])
     rw [Int.toNat_natCast] at hmi
     have h5 : 0 ≤ (t.getD i.toNat z34).f5 := by have := hf i.toNat hi; omega
     rw [if_pos (by omega), if_neg (by rw [hmi]; simp), if_pos (by omega), if_pos (by omega), if_neg (by omega), if_pos (by omega)]
     rw [ih _ _ (_ :: _ :: s) _ (by rw [List.length_set, hm]) (plF_mk h4 (mkT_mono t _ _ _ hl) (plF_mk h5 (mkT_mono t _ _ _ hr) hq)) hn.2 ?_ (by simp only [List.length_append]; omega) (by simp only [List.length_append, List.length_singleton]; omega)]
     ·rw [Int.toNat_of_nonneg h0]; simp
     ·intro p hp'
      by_cases e : i.toNat = p.toNat
      ·exfalso
       have hnn := (plF_mem hp p (by simp only [plT, List.cons_append, List.append_assoc]; exact List.mem_cons_of_mem _ hp')).1
       exact hn.1 (by rw [show ((i.toNat : Nat) : Int) = p by omega]; exact hp')
      ·rw [getD_set_ne _ _ _ e]
       exact hu p (by simp only [plT, List.cons_append, List.append_assoc]; exact List.mem_cons_of_mem _ hp')
    ·rename_i h4
     obtain rfl := Option.some.inj hT
     simp only [plT, List.cons_append, List.nodup_cons, List.nil_append, List.length_cons] at hn hk ho hsl ⊢
     have hmi := hu i.toNat (by simp [plT])
     rw [Int.toNat_natCast] at hmi
     have h45 := hf i.toNat hi
     rw [if_pos (by omega), if_neg (by rw [hmi]; simp), if_pos (by omega), if_pos (by omega), if_pos (by omega)]
     rw [ih _ _ s _ (by rw [List.length_set, hm]) hq hn.2 ?_ (by omega) (by simp only [List.length_append, List.length_singleton]; omega)]
     ·rw [Int.toNat_of_nonneg h0]; simp
     ·intro p hp'
      by_cases e : i.toNat = p.toNat
      ·exfalso
       have hnn := (plF_mem hq p hp').1
       exact hn.1 (by rw [show ((i.toNat : Nat) : Int) = p by omega]; exact hp')
      ·rw [getD_set_ne _ _ _ e]
       exact hu p (by simp only [plT, List.cons_append, List.nil_append]; exact List.mem_cons_of_mem _ hp')
theorem order_f2 (k : Nat) (t : List S34) (hlen : t.length ≤ 1000000) (a : Int) : table_order.f k t a = table_order.l0 k t (List.replicate t.length false) [] ([a] : List Int).reverse := by
 unfold table_order.f
 rw [if_pos (by omega), if_pos (by omega), Int.toNat_natCast]
 rfl
/-- order of a place over a tree. -/
theorem order_f_tree2 {t : List S34} (hlen : t.length ≤ 1000000) (hf : FormT t) {K : Nat} {a : Int} {T : Tr} (h0 : 0 ≤ a) (hT : mkT t K a.toNat = some T) (hn : (plT T).Nodup) (hl : (plT T).length ≤ 1000000) (k : Nat) (hk : (plT T).length < k) : table_order.f k t a = some (plT T) := by
 rw [order_f2 _ _ hlen]
 have hp := plF_mk h0 hT (plF.eq_1 t K)
 rw [List.append_nil] at hp
 rw [order_tree2 t hlen hf K k _ [] [a] (plT T) List.length_replicate hp hn (fun _ _ => getD_replicate_false _ _) hk (by simpa using hl)]
 rfl
theorem sub_l02 {t : List S34} (hf : FormT t) (ps : List Int) (hp : ∀ p ∈ ps, 0 ≤ p ∧ p < t.length) (hnd : ps.Nodup) (hl : ps.length ≤ 1000000) (htl : t.length ≤ 1000000) : ∀ (d i k : Nat) (num : List Int), i + d = ps.length → d + ps.length + 2 < k → num.length = t.length → (∀ j, j < i → rd num (ps.getD j 0) = j) →
  ∃ num', num'.length = t.length ∧ (∀ j, j < ps.length → rd num' (ps.getD j 0) = j) ∧ table_sub.l0 k t ps num ps ps.length i = some (ps.map (conv t num')) := by
 intro d
 induction d with
 | zero =>
  intro i k num hi hk hn hj
  cases k with
  | zero => omega
  | succ k =>
   refine ⟨num, hn, fun j h => hj j (by omega), ?_⟩
   rw [table_sub.l0, if_neg (by omega), if_pos (by omega), if_pos (by omega)]
   have := sub_l1 hf num ps hn hp hl ps.length 0 k (by omega) (by omega)
   rw [List.take_zero, List.map_nil] at this
   exact this
 | succ d ih =>
  intro i k num hi hk hn hj
  cases k with
  | zero => omega
  | succ k =>
   have hil : i < ps.length := by omega
   have hg : ∀ j (h : j < ps.length), ps.getD j 0 = ps[j] := fun j h => by rw [List.getD, List.getElem?_eq_getElem h, Option.getD_some]
   have hr := hp (ps.getD i 0) (by rw [hg i hil]; exact List.getElem_mem _)
   obtain ⟨num', h1, h2, h3⟩ := ih (i + 1) k (num.set (ps.getD i 0).toNat i) (by omega) (by omega) (by rw [List.length_set, hn]) (fun j h => by
    by_cases e : j = i
    ·subst e
     simp only [rd]
     rw [getD_set_eq _ _ _ (by omega)]
    ·have hjl : j < ps.length := by omega
     have hrj := hp (ps.getD j 0) (by rw [hg j hjl]; exact List.getElem_mem _)
     have hne : ps.getD i 0 ≠ ps.getD j 0 := by
      rw [hg i hil, hg j hjl]
      intro e2
      rcases Nat.lt_trichotomy i j with hlt | heq | hgt
      ·exact List.pairwise_iff_getElem.1 hnd i j hil hjl hlt e2
      ·exact e heq.symm
      ·exact List.pairwise_iff_getElem.1 hnd j i hjl hil hgt e2.symm
     have := hj j (by omega)
     simp only [rd] at this ⊢
     rw [getD_set_ne _ _ _ (by omega)]
     exact this)
   refine ⟨num', h1, h2, ?_⟩
   rw [table_sub.l0, if_pos (by omega), if_pos (by omega), if_pos (by omega), show rd ps (i : Int) = ps.getD i 0 from rfl, if_pos hr.1, if_pos (by omega), Go.IntWalk.wrap64_in _ (by omega)]
   exact h3
theorem sub_tree2 {t : List S34} (hlen : t.length ≤ 1000000) (hf : ∀ i, i < t.length → fmN (t.getD i z34) t.length = true) {K : Nat} {a : Int} {T : Tr} (h0 : 0 ≤ a) (hT : mkT t K a.toNat = some T) (hn : (plT T).Nodup) (hl : (plT T).length ≤ 1000000) : ∃ k, table_sub.f k t a = some (flatT T 0) := by
 refine ⟨2 * (plT T).length + 10, ?_⟩
 unfold table_sub.f
 rw [order_f_tree2 hlen (formT_of hf) h0 hT hn hl _ (by omega), Option.bind_some, if_pos (by omega), if_pos (by omega), Int.toNat_natCast]
 obtain ⟨num, h1, h2, h3⟩ := sub_l02 (formT_of hf) (plT T) (plT_mem _ _ _ hT).2 hn hl hlen (plT T).length 0 (2 * (plT T).length + 10) (List.replicate t.length 0) (by omega) (by omega) List.length_replicate (fun j hj => absurd hj (by omega))
 rw [show ((0 : Nat) : Int) = 0 from rfl] at h3
 rw [h3, conv_flat hf num _ _ T 0 hT (fun j hj => by rw [h2 j hj, Nat.zero_add])]
end Go.Proofs.Ytgleaefhflamnaa.T
namespace Go.Proofs.Ytgleaefhflamnaa.T
open Go.RowKit Go.Proofs.YtgleaefhflamnaaW.PrintWords Go.Proofs.YtgleaefhflamnaaW.PrintLast Go.Proofs.YtgleaefhflamnaaW.PrintMore
def redN (c N : Nat) (n : S34) : S34 := if n.f4 = -1 ∧ n.f5 = -1 then n else ⟨n.f0, n.f1, n.f2, n.f3, if n.f4 = c then N else n.f4, if n.f5 = c then N else n.f5⟩
def shfN (N : Nat) (n : S34) : S34 := if n.f4 = -1 ∧ n.f5 = -1 then n else ⟨n.f0, n.f1, n.f2, n.f3, n.f4 + N, n.f5 + N⟩
theorem getD_map {α β : Type} (f : α → β) (l : List α) (i : Nat) (d : α) (d' : β) (h : i < l.length) : (l.map f).getD i d' = f (l.getD i d) := by
 simp [List.getD, h]
theorem take_snoc {α : Type} (l : List α) (i : Nat) (d : α) (h : i < l.length) : l.take (i + 1) = l.take i ++ [l.getD i d] := by
 rw [List.getD, List.getElem?_eq_getElem h, Option.getD_some, List.take_append_getElem h]
theorem graft_l1 {t w : List S34} (A : List S34) (ht : t.length ≤ 100000) (hA : A.length ≤ 100000) (hw : w.length ≤ 100000) (hfw : ∀ i, i < w.length → fmN (w.getD i z34) w.length = true) : ∀ (d i k : Nat), i + d = w.length →
  table_Graft.l1 (k + d + 1) t (A ++ (w.take i).map (shfN t.length)) w w.length i = (table_sub.f k (A ++ w.map (shfN t.length)) 0).bind fun r => some (r, 0) := by
 intro d
 induction d with
 | zero =>
  intro i k hi
  obtain rfl : i = w.length := by omega
  rw [Nat.add_zero, table_Graft.l1, if_neg (by omega), List.take_length]
 | succ d ih =>
  intro i k hi
  have hil : i < w.length := by omega
  have hfm := (fmN_iff _ _).1 (hfw i hil)
  have step := ih (i + 1) k (by omega)
  rw [take_snoc w i z34 hil, List.map_append, List.map_singleton, ← List.append_assoc] at step
  rw [show k + (d + 1) + 1 = (k + d + 1) + 1 by omega, table_Graft.l1, if_pos (by omega), if_pos (by omega), if_pos (by omega), show rd_T34 w (i : Int) = w.getD i z34 from rfl, leaf_f, Option.bind_some]
  have hlen : (A ++ (w.take i).map (shfN t.length)).length < 2932031007402 := by rw [List.length_append, List.length_map, List.length_take]; omega
  rw [Go.IntWalk.wrap64_in _ (by omega)]
  by_cases hlf : (w.getD i z34).f4 = -1 ∧ (w.getD i z34).f5 = -1
  ·rw [if_pos (by simpa using hlf), if_pos hlen]
   rw [shfN, if_pos hlf] at step
   exact step
  ·rw [if_neg (by simpa using hlf), if_pos hlen, Go.IntWalk.wrap64_in _ (by omega), Go.IntWalk.wrap64_in _ (by omega)]
   rw [shfN, if_neg hlf] at step
   exact step
theorem graft_l0 {t w : List S34} (c : Nat) (ht : t.length ≤ 100000) (hw : w.length ≤ 100000) (hft : ∀ i, i < t.length → fmN (t.getD i z34) t.length = true) (hfw : ∀ i, i < w.length → fmN (w.getD i z34) w.length = true) : ∀ (d i k : Nat), i + d = t.length →
  table_Graft.l0 (k + w.length + 1 + d + 1) t c w ((t.take i).map (redN c t.length)) t t.length i = (table_sub.f k (t.map (redN c t.length) ++ w.map (shfN t.length)) 0).bind fun r => some (r, 0) := by
 intro d
 induction d with
 | zero =>
  intro i k hi
  obtain rfl : i = t.length := by omega
  rw [Nat.add_zero, table_Graft.l0, if_neg (by omega), List.take_length]
  have := graft_l1 (t := t) (t.map (redN c t.length)) ht (by rw [List.length_map]; exact ht) hw hfw w.length 0 k (by omega)
  rw [List.take_zero, List.map_nil, List.append_nil] at this
  exact this
 | succ d ih =>
  intro i k hi
  have hil : i < t.length := by omega
  have step := ih (i + 1) k (by omega)
  rw [take_snoc t i z34 hil, List.map_append, List.map_singleton] at step
  rw [show k + w.length + 1 + (d + 1) + 1 = (k + w.length + 1 + d + 1) + 1 by omega, table_Graft.l0, if_pos (by omega), if_pos (by omega), if_pos (by omega), show rd_T34 t (i : Int) = t.getD i z34 from rfl, leaf_f, Option.bind_some]
  have hlen : ((t.take i).map (redN c t.length)).length < 2932031007402 := by rw [List.length_map, List.length_take]; omega
  rw [Go.IntWalk.wrap64_in _ (by omega)]
  by_cases hlf : (t.getD i z34).f4 = -1 ∧ (t.getD i z34).f5 = -1
  ·rw [if_pos (by simpa using hlf), if_pos hlen]
   rw [redN, if_pos hlf] at step
   exact step
  ·rw [if_neg (by simpa using hlf)]
   rw [redN, if_neg hlf] at step
   by_cases h4 : (t.getD i z34).f4 = c
   ·rw [if_pos h4]
    rw [if_pos h4] at step
    by_cases h5 : (t.getD i z34).f5 = c
    ·rw [if_pos h5, if_pos hlen]; rw [if_pos h5] at step; exact step
    ·rw [if_neg h5, if_pos hlen]; rw [if_neg h5] at step; exact step
   ·rw [if_neg h4]
    rw [if_neg h4] at step
    by_cases h5 : (t.getD i z34).f5 = c
    ·rw [if_pos h5, if_pos hlen]; rw [if_pos h5] at step; exact step
    ·rw [if_neg h5, if_pos hlen]; rw [if_neg h5] at step; exact step
theorem all_form {t w : List S34} {c : Nat} (hft : ∀ i, i < t.length → fmN (t.getD i z34) t.length = true) (hfw : ∀ i, i < w.length → fmN (w.getD i z34) w.length = true) (hw0 : 0 < w.length) (ht0 : 0 < t.length) :
  ∀ i, i < (t.map (redN c t.length) ++ w.map (shfN t.length)).length → fmN ((t.map (redN c t.length) ++ w.map (shfN t.length)).getD i z34) (t.map (redN c t.length) ++ w.map (shfN t.length)).length = true := by
 intro i hi
 rw [List.length_append, List.length_map, List.length_map] at hi ⊢
 by_cases hit : i < t.length
 ·have e : (t.map (redN c t.length) ++ w.map (shfN t.length)).getD i z34 = redN c t.length (t.getD i z34) := by
   rw [List.getD, List.getElem?_append_left (by rw [List.length_map]; exact hit)]
   exact getD_map _ t i z34 z34 hit
  have hfm := (fmN_iff _ _).1 (hft i hit)
  rw [e, fmN_iff, redN]
  split
  ·omega
  ·simp only
   split <;> split <;> omega
 ·have hiw : i - t.length < w.length := by omega
  have e : (t.map (redN c t.length) ++ w.map (shfN t.length)).getD i z34 = shfN t.length (w.getD (i - t.length) z34) := by
   rw [List.getD, List.getElem?_append_right (by rw [List.length_map]; omega), List.length_map]
   exact getD_map _ w _ z34 z34 hiw
  have hfm := (fmN_iff _ _).1 (hfw _ hiw)
  rw [e, fmN_iff, shfN]
  split
  ·omega
  ·simp only
   omega
/-- The grafted part, behind the tree. -/
theorem mk_shf {w : List S34} (hfw : ∀ i, i < w.length → fmN (w.getD i z34) w.length = true) (A : List S34) : ∀ (k i : Nat) (M : Tr), mkT w k i = some M → ∃ M', mkT (A ++ w.map (shfN A.length)) k (A.length + i) = some M' ∧ nT M' = nT M ∧ plT M' = (plT M).map (· + (A.length : Int)) := by
 intro k
 induction k with
 | zero => intro i M h; simp [mkT] at h
 | succ k ih =>
  intro i M h
  have hi : i < w.length := by rw [mkT] at h; split at h; assumption; exact absurd h (by simp)
  have e : (A ++ w.map (shfN A.length)).getD (A.length + i) z34 = shfN A.length (w.getD i z34) := by
   rw [List.getD, List.getElem?_append_right (by omega), Nat.add_sub_cancel_left]
   exact getD_map _ w _ z34 z34 hi
  have hil : A.length + i < (A ++ w.map (shfN A.length)).length := by rw [List.length_append, List.length_map]; omega
  have hfm := (fmN_iff _ _).1 (hfw i hi)
  by_cases hl : (w.getD i z34).f4 = -1 ∧ (w.getD i z34).f5 = -1
  ·obtain ⟨_, rfl⟩ := mkT_leaf hfw h hl
   refine ⟨.node (w.getD i z34) ((A.length + i : Nat) : Int) .nil .nil, ?_, rfl, ?_⟩
   ·rw [mkT, if_pos hil, e, shfN, if_pos hl, if_neg (by omega)]
   ·simp only [plT, List.append_nil, List.map_cons, List.map_nil]
    rw [show ((A.length + i : Nat) : Int) = (i : Int) + A.length by omega]
  ·obtain ⟨k', l, r, hk, _, h1, h2, rfl⟩ := mkT_inner hfw h hl
   obtain rfl : k = k' := by omega
   obtain ⟨l', a1, a2, a3⟩ := ih _ l h1
   obtain ⟨r', b1, b2, b3⟩ := ih _ r h2
   refine ⟨.node ⟨(w.getD i z34).f0, (w.getD i z34).f1, (w.getD i z34).f2, (w.getD i z34).f3, (w.getD i z34).f4 + A.length, (w.getD i z34).f5 + A.length⟩ ((A.length + i : Nat) : Int) l' r', ?_, ?_, ?_⟩
   ·rw [mkT, if_pos hil, e, shfN, if_neg hl]
    simp only
    rw [if_pos (by omega), show ((w.getD i z34).f4 + (A.length : Int)).toNat = A.length + (w.getD i z34).f4.toNat by omega, a1, Option.bind_some, show ((w.getD i z34).f5 + (A.length : Int)).toNat = A.length + (w.getD i z34).f5.toNat by omega, b1, Option.bind_some]
   ·rw [nT, nT, a2, b2]
   ·rw [plT, plT, a3, b3, List.map_cons, List.map_append, show ((A.length + i : Nat) : Int) = (i : Int) + A.length by omega]
/-- The tree with its part turned to what stands behind it. -/
theorem mk_red {t B : List S34} (hft : ∀ i, i < t.length → fmN (t.getD i z34) t.length = true) {c kM : Nat} {M' : Tr} (hM : mkT (t.map (redN c t.length) ++ B) kM t.length = some M') : ∀ (k i : Nat) (T : Tr), mkT t k i = some T → ∃ T', mkT (t.map (redN c t.length) ++ B) (k + kM) i = some T' ∧ nT T' = nT (replT c M' T) ∧ plT T' = plT (replT c M' T) := by
 intro k
 induction k with
 | zero => intro i T h; simp [mkT] at h
 | succ k ih =>
  intro i T h
  have hi : i < t.length := by rw [mkT] at h; split at h; assumption; exact absurd h (by simp)
  have e : (t.map (redN c t.length) ++ B).getD i z34 = redN c t.length (t.getD i z34) := by
   rw [List.getD, List.getElem?_append_left (by rw [List.length_map]; exact hi)]
   exact getD_map _ t _ z34 z34 hi
  have hil : i < (t.map (redN c t.length) ++ B).length := by rw [List.length_append, List.length_map]; omega
  have hfm := (fmN_iff _ _).1 (hft i hi)
  by_cases hl : (t.getD i z34).f4 = -1 ∧ (t.getD i z34).f5 = -1
  ·obtain ⟨_, rfl⟩ := mkT_leaf hft h hl
   refine ⟨.node (t.getD i z34) i .nil .nil, ?_, ?_, ?_⟩
   ·rw [show k + 1 + kM = (k + kM) + 1 by omega, mkT, if_pos hil, e, redN, if_pos hl, if_neg (by omega)]
   ·rw [replT, if_neg (plc_nil c)]; rfl
   ·rw [replT, if_neg (plc_nil c)]; rfl
  ·obtain ⟨k', l, r, hk, _, h1, h2, rfl⟩ := mkT_inner hft h hl
   obtain rfl : k = k' := by omega
   have side : ∀ (f : Int) (X : Tr), mkT t k f.toNat = some X → 0 ≤ f → ∃ X', mkT (t.map (redN c t.length) ++ B) (k + kM) (if f = c then (t.length : Int) else f).toNat = some X' ∧ nT X' = nT (if plc X = c then M' else replT c M' X) ∧ plT X' = plT (if plc X = c then M' else replT c M' X) := by
    intro f X hX h0
    have hp := mkT_plc hX
    by_cases hf : f = c
    ·refine ⟨M', ?_, ?_, ?_⟩
     ·rw [if_pos hf, Int.toNat_natCast]; exact mkT_le _ (by omega) hM
     ·rw [if_pos (by rw [hp]; omega)]
     ·rw [if_pos (by rw [hp]; omega)]
    ·obtain ⟨X', a1, a2, a3⟩ := ih _ X hX
     refine ⟨X', ?_, ?_, ?_⟩
     ·rw [if_neg hf]; exact a1
     ·rw [if_neg (by rw [hp]; omega)]; exact a2
     ·rw [if_neg (by rw [hp]; omega)]; exact a3
   obtain ⟨l', a1, a2, a3⟩ := side _ l h1 (by omega)
   obtain ⟨r', b1, b2, b3⟩ := side _ r h2 (by omega)
   refine ⟨.node (redN c t.length (t.getD i z34)) i l' r', ?_, ?_, ?_⟩
   ·rw [show k + 1 + kM = (k + kM) + 1 by omega, mkT, if_pos hil, e]
    have hr4 : (redN c t.length (t.getD i z34)).f4 = if (t.getD i z34).f4 = c then (t.length : Int) else (t.getD i z34).f4 := by rw [redN, if_neg hl]
    have hr5 : (redN c t.length (t.getD i z34)).f5 = if (t.getD i z34).f5 = c then (t.length : Int) else (t.getD i z34).f5 := by rw [redN, if_neg hl]
    rw [hr4, hr5, if_pos (by split <;> omega), a1, Option.bind_some, b1, Option.bind_some]
   ·rw [replT, nT, nT, a2, b2, redN, if_neg hl]
   ·rw [replT, plT, plT, a3, b3]
theorem new_pl {c : Nat} {M : Tr} (hM : (plT M).Nodup) : ∀ {T : Tr}, (plT T).Nodup → (∀ p ∈ plT T, p ∉ plT M) → (plT (newX c M T)).Nodup ∧ (∀ p ∈ plT (newX c M T), p ∈ plT T ∨ p ∈ plT M)
 | .nil, _, _ => by
  have : newX c M .nil = .nil := new_no (by simp [plT])
  rw [this]
  exact ⟨List.nodup_nil, fun p hp => absurd hp (by simp [plT])⟩
 | .node n p l r, hn, hd => by
  by_cases hp : p = c
  ·rw [newX, plc, if_pos hp]
   exact ⟨hM, fun q hq => .inr hq⟩
  ·rw [newX, plc, if_neg hp, repl_new]
   simp only [plT, List.nodup_cons, List.mem_append, List.mem_cons] at hn hd ⊢
   have hl := new_pl (c := c) hM (nodup_app_l hn.2) (fun q hq => hd q (.inr (.inl hq)))
   have hr := new_pl (c := c) hM (nodup_app_r hn.2) (fun q hq => hd q (.inr (.inr hq)))
   have hdis := (List.nodup_append.1 hn.2).2.2
   have hpM : p ∉ plT M := hd p (.inl rfl)
   by_cases hcl : (c : Int) ∈ plT l
   ·have hcr : (c : Int) ∉ plT r := fun e => hdis _ hcl _ e rfl
    rw [new_no hcr] at hr ⊢
    refine ⟨⟨?_, List.nodup_append.2 ⟨hl.1, hr.1, ?_⟩⟩, ?_⟩
    ·rintro (h | h)
     ·rcases hl.2 _ h with h | h
      ·exact hn.1 (.inl h)
      ·exact hpM h
     ·exact hn.1 (.inr h)
    ·intro a ha b hb e
     subst e
     rcases hl.2 _ ha with h | h
     ·exact hdis _ h _ hb rfl
     ·exact hd a (.inr (.inr hb)) h
    ·rintro q (h | h | h)
     ·exact .inl (.inl h)
     ·rcases hl.2 _ h with h | h
      ·exact .inl (.inr (.inl h))
      ·exact .inr h
     ·exact .inl (.inr (.inr h))
   ·rw [new_no hcl] at hl ⊢
    refine ⟨⟨?_, List.nodup_append.2 ⟨hl.1, hr.1, ?_⟩⟩, ?_⟩
    ·rintro (h | h)
     ·exact hn.1 (.inl h)
     ·rcases hr.2 _ h with h | h
      ·exact hn.1 (.inr h)
      ·exact hpM h
    ·intro a ha b hb e
     subst e
     rcases hr.2 _ hb with h | h
     ·exact hdis _ ha _ h rfl
     ·exact hd a (.inr (.inl ha)) h
    ·rintro q (h | h | h)
     ·exact .inl (.inl h)
     ·exact .inl (.inr (.inl h))
     ·rcases hr.2 _ h with h | h
      ·exact .inl (.inr (.inr h))
      ·exact .inr h
theorem nT_new {c : Nat} {M M' : Tr} (h : nT M' = nT M) : ∀ T : Tr, nT (newX c M' T) = nT (newX c M T)
 | .nil => by rw [new_no (by simp [plT]), new_no (by simp [plT])]
 | .node n p l r => by
  by_cases hp : p = c
  ·rw [newX, newX, plc, if_pos hp, if_pos hp, h]
  ·rw [newX, newX, plc, if_neg hp, if_neg hp, repl_new, repl_new, nT, nT, nT_new h l, nT_new h r]
end Go.Proofs.Ytgleaefhflamnaa.T
namespace Go.Proofs.Ytgleaefhflamnaa.T
open Go.RowKit Go.Proofs.YtgleaefhflamnaaW.PrintWords Go.Proofs.YtgleaefhflamnaaW.PrintLast Go.Proofs.YtgleaefhflamnaaW.PrintMore
theorem good_ok {t : List S34} {T : Tr} (h : Good t T) : Ok T := ok_mkT h.form h.tree
theorem good_plc {t : List S34} {T : Tr} (h : Good t T) : plc T = 0 := mkT_plc h.tree
theorem all_sub {t w : List S34} {T M : Tr} (hg : Good t T) (hw : Good w M) {c : Nat} (hc0 : c ≠ 0) : ∃ k, table_sub.f k (t.map (redN c t.length) ++ w.map (shfN t.length)) 0 = some (flatT (replT c M T) 0) := by
 have hfm := all_form (c := c) hg.form hw.form hw.pos hg.pos
 obtain ⟨M', m1, m2, m3⟩ := mk_shf hw.form (t.map (redN c t.length)) _ 0 M hw.tree
 simp only [List.length_map, Nat.add_zero] at m1 m3
 obtain ⟨T', t1, t2, t3⟩ := mk_red (c := c) hg.form m1 _ 0 T hg.tree
 have hTn : newX c M' T = replT c M' T := by rw [newX, good_plc hg, if_neg (by omega)]
 have hTn' : newX c M T = replT c M T := by rw [newX, good_plc hg, if_neg (by omega)]
 have hMn : (plT M').Nodup := by
  rw [m3]
  exact List.Pairwise.map _ (fun a b hab => by omega) hw.nodup
 have hd : ∀ p ∈ plT T, p ∉ plT M' := by
  intro p hp hq
  have h1 := (plT_mem _ _ _ hg.tree).2 p hp
  rw [m3, List.mem_map] at hq
  obtain ⟨q, hq, rfl⟩ := hq
  have h2 := (plT_mem _ _ _ hw.tree).2 q hq
  omega
 have hnd := (new_pl (c := c) hMn hg.nodup hd)
 have hlen := hg.len
 have hlenw := hw.len
 have hsz : (plT T').length ≤ 1000000 := by
  have hle : (plT T').length ≤ (t.map (redN c t.length) ++ w.map (shfN t.length)).length := by
   have hmem := (plT_mem _ _ _ t1).2
   have hnd' : (plT T').Nodup := by rw [t3, ← hTn]; exact hnd.1
   have : ((plT T').map Int.toNat).Nodup := by
    refine List.pairwise_map.2 (List.Pairwise.imp_of_mem ?_ hnd')
    intro a b ha hb hne e
    have := hmem a ha
    have := hmem b hb
    exact hne (by omega)
   have hsub : (plT T').map Int.toNat ⊆ List.range (t.map (redN c t.length) ++ w.map (shfN t.length)).length := by
    intro x hx
    rw [List.mem_map] at hx
    obtain ⟨a, ha, rfl⟩ := hx
    have := hmem a ha
    rw [List.mem_range]
    omega
   have := List.Nodup.length_le_of_subset this hsub
   rwa [List.length_map, List.length_range] at this
  rw [List.length_append, List.length_map, List.length_map] at hle
  omega
 obtain ⟨k, hk⟩ := sub_tree2 (t := t.map (redN c t.length) ++ w.map (shfN t.length)) (a := 0) (by rw [List.length_append, List.length_map, List.length_map]; omega) hfm (by omega) t1 (by rw [t3, ← hTn]; exact hnd.1) hsz
 refine ⟨k, ?_⟩
 rw [hk, flat_shape (ok_mkT hfm t1) (repl_ok (good_ok hw) (good_ok hg)) ?_ 0]
 rw [t2, ← hTn, nT_new m2, hTn']
theorem graft_tree {t w : List S34} {T M X : Tr} (hg : Good t T) (hw : Good w M) {c : Nat} (hc0 : c ≠ 0) (hct : c < t.length) (hX : mkT t t.length c = some X) (hXn : (plT X).Nodup) (hXl : (plT X).length ≤ t.length) (hs : t.length + w.length ≤ 100000 + (plT X).length) :
  ∃ k, table_Graft.f k t c w = some (flatT (replT c M T) 0, 0) := by
 obtain ⟨k0, h0⟩ := all_sub hg hw hc0
 obtain ⟨k1, h1⟩ := check_good hg
 obtain ⟨k2, h2⟩ := check_good hw
 have hlen := hg.len
 have hlenw := hw.len
 have hq : max k0 (max k1 k2) ≤ max k0 (max k1 k2) := Nat.le_refl _
 have e0 := up_to (fun k => table_sub.mono _ 0 k) (Nat.le_max_left k0 (max k1 k2)) h0
 refine ⟨max k0 (max k1 k2) + w.length + 1 + t.length + 1 + 1, ?_⟩
 unfold table_Graft.f table_both.f
 rw [up_to (fun k => table_Check.mono _ k) (by omega : k1 ≤ _) h1, Option.bind_some, if_pos rfl, up_to (fun k => table_Check.mono _ k) (by omega : k2 ≤ _) h2, Option.bind_some, Option.bind_some, if_pos rfl, if_neg (by omega), show decide ((c : Int) ≥ (t.length : Int)) = false by simp; omega]
 rw [table_Graft.j0, if_neg (by simp), order_f_tree (a := (c : Int)) hg.len (formT_of hg.form) (by omega) hX hXn (by omega) _ (by omega), Option.bind_some]
 rw [Go.IntWalk.wrap64_in ((t.length : Int) - ((plT X).length : Int)) (by omega), Go.IntWalk.wrap64_in _ (by omega), if_neg (by omega), if_neg (by omega), Go.IntWalk.wrap64_in _ (by omega), if_pos (by omega), if_pos (by omega)]
 have := graft_l0 (t := t) (w := w) c hlen hlenw hg.form hw.form t.length 0 (max k0 (max k1 k2)) (by omega)
 rw [List.take_zero, List.map_nil] at this
 rw [show ((0 : Nat) : Int) = 0 from rfl] at this
 rw [this, e0, Option.bind_some]
end Go.Proofs.Ytgleaefhflamnaa.T
namespace Go.Proofs.Ytgleaefhflamnaa.T
open Go.RowKit Go.Proofs.YtgleaefhflamnaaW.PrintWords Go.Proofs.YtgleaefhflamnaaW.PrintLast Go.Proofs.YtgleaefhflamnaaW.PrintMore
theorem Sub_tree {t : List S34} {T X : Tr} (hg : Good t T) {c : Nat} (hct : c < t.length) (hX : mkT t t.length c = some X) (hXn : (plT X).Nodup) (hXl : (plT X).length ≤ t.length) : ∃ k, table_Sub.f k t c = some (flatT X 0, 0) := by
 have hlen := hg.len
 obtain ⟨k1, h1⟩ := check_good hg
 obtain ⟨k, hk⟩ := sub_tree (t := t) (a := (c : Int)) hlen hg.form (by omega) hX hXn (by omega)
 refine ⟨max k k1, ?_⟩
 unfold table_Sub.f
 rw [up_to (fun k => table_Check.mono _ k) (by omega : k1 ≤ _) h1, Option.bind_some, if_pos rfl, if_neg (by omega), if_neg (by omega), up_to (fun k => table_sub.mono _ _ k) (by omega : k ≤ _) hk, Option.bind_some]
end Go.Proofs.Ytgleaefhflamnaa.T
namespace Go.Proofs.Ytgleaefhflamnaa.T
open Go.RowKit Go.Proofs.YtgleaefhflamnaaW.PrintWords Go.Proofs.YtgleaefhflamnaaW.PrintLast Go.Proofs.YtgleaefhflamnaaW.PrintMore
/-- The tree with its tree of the keys mirrored, written out. -/
theorem mir_crown {T X0 : Tr} (h : Crown T X0) (hn : (plT T).Nodup) {c0 : Nat} (hc : plc X0 = c0) (M : Tr) : ∃ n0 n1 p1 q1 q0, T = .node n0 0 (.node n1 p1 X0 (.node sn34 q1 .nil .nil)) (.node sn34 q0 .nil .nil) ∧
  replT c0 M T = .node n0 0 (.node n1 p1 M (.node sn34 q1 .nil .nil)) (.node sn34 q0 .nil .nil) := by
 obtain ⟨n0, n1, p1, q1, q0, rfl, c1, c2, c3, c4, c5, hXn⟩ := h
 have hc0 : (c0 : Int) ∈ plT X0 := by
  cases X0 with
  | nil => exact absurd rfl hXn
  | node n p l r => rw [plc] at hc; rw [plT, hc]; exact List.mem_cons_self
 simp only [plT, List.cons_append, List.nodup_cons, List.mem_cons, List.mem_append, not_or, List.append_assoc, List.nil_append] at hn
 have h1 : ¬ p1 = (c0 : Int) := fun e => hn.2.1.1 (e ▸ hc0)
 have hd := (List.nodup_append.1 hn.2.2).2.2
 have h2 : ¬ q1 = (c0 : Int) := fun e => hd _ hc0 q1 (by simp) e.symm
 have h3 : ¬ q0 = (c0 : Int) := fun e => hd _ hc0 q0 (by simp) e.symm
 refine ⟨n0, n1, p1, q1, q0, rfl, ?_⟩
 have s1 : ∀ q : Int, ¬ q = (c0 : Int) → newX c0 M (.node sn34 q .nil .nil) = .node sn34 q .nil .nil := fun q hq => new_no (by simp only [plT, List.append_nil, List.mem_singleton]; exact fun e => hq e.symm)
 have s2 : newX c0 M (.node n1 p1 X0 (.node sn34 q1 .nil .nil)) = .node n1 p1 M (.node sn34 q1 .nil .nil) := by
  rw [newX, plc, if_neg h1, repl_new, s1 q1 h2, newX, if_pos hc]
 rw [repl_new, s2, s1 q0 h3]
structure Flip (t : List S34) (T X0 : Tr) (c0 : Nat) (W : Tr) : Prop where
 at0 : plc X0 = c0
 isW : W = replT c0 (mirT X0) T
 ok : Ok W
 size : sizeT W = t.length
 crown : Crown W (mirT X0)
 nodup : (plT W).Nodup
 mem : ∀ p, p ∈ plT X0 → p ∈ plT W
 good : Good (flatT W 0) (renT W 0)
 crownR : Crown (renT W 0) (renT (mirT X0) 2)
end Go.Proofs.Ytgleaefhflamnaa.T
namespace Go.Proofs.Ytgleaefhflamnaa.T
open Go.RowKit Go.Proofs.YtgleaefhflamnaaW.PrintWords Go.Proofs.YtgleaefhflamnaaW.PrintLast Go.Proofs.YtgleaefhflamnaaW.PrintMore
attribute [local go_sem] max2_int min2_int max_two min_two max_three min_three max_four min_four   -- for this text's walks alone
set_option linter.unusedVariables false
set_option linter.unusedSimpArgs false
mutual
def larchlaw18_StepsSums.j0 : Nat → List (S34) → Int → List (S34) → Int → Int → Bool → Option (Bool)
 | 0, _, _, _, _, _, _ => none
 | k + 1, x0, x1, x7, x9, x11, x45 => if x45 = true then (some false) else ((larchlaw18_sums.f k x0 x9 0 ([] : List Int)).bind fun t236 => ((larchlaw18_sums.f k x7 x11 0 ([] : List Int)).bind fun t239 => (if (t236.length : Int) = (t239.length : Int) then (if x1 = x9 then (if 0 ≤ x11 then (if x11 < (x7.length : Int) then (larchlaw18_StepsSums.j1 k x1 x9 t236 t239 (((rd_T34 x7 x11).f2) != 1)) else (none)) else (none)) else (larchlaw18_StepsSums.j1 k x1 x9 t236 t239 false)) else (larchlaw18_StepsSums.j1 k x1 x9 t236 t239 true))))
def larchlaw18_StepsSums.j1 : Nat → Int → Int → List Int → List Int → Bool → Option (Bool)
 | 0, _, _, _, _, _ => none
 | k + 1, x1, x9, x13, x14, x69 => if x69 = true then (some false) else (larchlaw18_StepsSums.l0 k x1 x9 x13 x14 (x13.length : Int) 0)
def larchlaw18_StepsSums.l0 : Nat → Int → Int → List Int → List Int → Int → Int → Option (Bool)
 | 0, _, _, _, _, _, _ => none
 | k + 1, x1, x9, x13, x14, x71, x72 => if x72 < x71 then (if 0 ≤ x72 then (if x72 < (x14.length : Int) then (if x72 < (x13.length : Int) then (if 0 < (x14.length : Int) then (if 0 < (x13.length : Int) then (if (wrap64 ((rd x14 x72) - (rd x13 x72))) = (wrap64 ((rd x14 0) - (rd x13 0))) then (if x1 = x9 then (larchlaw18_StepsSums.l0 k x1 x9 x13 x14 x71 (wrap64 (x72 + 1))) else (if (rd x13 x72) = (rd x14 x72) then (larchlaw18_StepsSums.l0 k x1 x9 x13 x14 x71 (wrap64 (x72 + 1))) else (some false))) else (some false)) else (none)) else (none)) else (none)) else (none)) else (none)) else (some true)
end
def larchlaw18_StepsSums.f (k : Nat) (l0 : List (S34)) (a1 : Int) (a2_0 : Int) (a2_1 : Bool) : Option (Bool) := (larchlaw18_awake.f k).bind fun t227 => (if t227 = true then ((larchlaw18_done.f k l0 a1 a2_0 a2_1).bind fun bt228 => (if bt228.2 = true then ((table_Root.f k l0).bind fun bt232 => ((table_Root.f k bt228.1).bind fun bt234 => (if bt232.2 = 0 then (larchlaw18_StepsSums.j0 k l0 a1 bt228.1 bt232.1 bt234.1 (bt234.2 != 0)) else (larchlaw18_StepsSums.j0 k l0 a1 bt228.1 bt232.1 bt234.1 true)))) else (some ((bt228.1.length : Int) == 0)))) else (some false))
def larchlaw18_red.f (l0 : List (S34)) (a1 : Int) (a2 : Int) : Option (Int) := if 0 ≤ a1 then (if a1 < (l0.length : Int) then (if ((rd_T34 l0 a1).f2) = 0 then (if 0 ≤ a2 then (if a2 < (l0.length : Int) then (if ((rd_T34 l0 a2).f2) = 0 then (some 1) else (some 0)) else (none)) else (none)) else (some 0)) else (none)) else (none)
end Go.Proofs.Ytgleaefhflamnaa.T
namespace Go.Proofs.Ytgleaefhflamnaa.T
open Go.RowKit Go.Proofs.YtgleaefhflamnaaW.PrintWords Go.Proofs.YtgleaefhflamnaaW.PrintLast Go.Proofs.YtgleaefhflamnaaW.PrintMore
theorem done_f {k : Nat} {t : List S34} {a1 kind : Int} {mir : Bool} {r1 : List S34} {r2 : Int} (h : steps_Do.f k t a1 kind mir = some (r1, r2)) : larchlaw18_done.f k t a1 kind mir = some (r1, r2 == 0) := by
 unfold larchlaw18_done.f larchlaw18_to.f
 rw [Option.bind_some]
 simp only
 rw [h, Option.bind_some]
end Go.Proofs.Ytgleaefhflamnaa.T
namespace Go.Proofs.Ytgleaefhflamnaa.T
open Go.RowKit Go.Proofs.YtgleaefhflamnaaW.PrintWords Go.Proofs.YtgleaefhflamnaaW.PrintLast Go.Proofs.YtgleaefhflamnaaW.PrintMore
attribute [local go_sem] max2_int min2_int max_two min_two max_three min_three max_four min_four   -- for this text's walks alone
set_option linter.unusedVariables false
set_option linter.unusedSimpArgs false
def larchlaw18_bad.f : Nat → List (S34) → Int → Option (Int)
 | 0, _, _ => none
 | k + 1, l0, a1 => if 0 ≤ a1 then (if a1 < (l0.length : Int) then (if ((rd_T34 l0 a1).f4) ≥ 0 then ((larchlaw18_red.f l0 ((rd_T34 l0 a1).f4) a1).bind fun t254 => ((larchlaw18_red.f l0 ((rd_T34 l0 a1).f5) a1).bind fun t256 => ((larchlaw18_bad.f k l0 ((rd_T34 l0 a1).f4)).bind fun t258 => ((larchlaw18_bad.f k l0 ((rd_T34 l0 a1).f5)).bind fun t260 => (some (wrap64 ((mx (wrap64 (((rd_T34 l0 a1).f2) - 1)) 0) + (wrap64 ((wrap64 ((wrap64 (t254 + t256)) + t258)) + t260))))))))) else (some (mx (wrap64 (((rd_T34 l0 a1).f2) - 1)) 0))) else (none)) else (none)
def larchlaw18_StepsViolations.j0 : Nat → List (S34) → List (S34) → Int → Int → Bool → Int → Bool → Option (Bool)
 | 0, _, _, _, _, _, _, _ => none
 | k + 1, x0, x7, x9, x11, x45, x262000, x262001 => if x45 = true then (some false) else ((larchlaw18_bad.f k x0 x9).bind fun t271 => ((larchlaw18_bad.f k x7 x11).bind fun t272 => (if x262000 = 2 then (if t272 ≤ t271 then (some (decide (t272 < t271))) else (some false)) else (if x262000 = 3 then (if t272 ≤ t271 then (some (decide (t272 < t271))) else (some false)) else (if x262000 ≥ 5 then (if t272 ≤ t271 then (if x262000 ≤ 11 then (some (decide (t272 < t271))) else (some true)) else (some false)) else (if t272 ≤ t271 then (some true) else (some false)))))))
def larchlaw18_StepsViolations.f (k : Nat) (l0 : List (S34)) (a1 : Int) (a2_0 : Int) (a2_1 : Bool) : Option (Bool) := (larchlaw18_awake.f k).bind fun t262 => (if t262 = true then ((larchlaw18_done.f k l0 a1 a2_0 a2_1).bind fun bt263 => (if bt263.2 = true then ((table_Root.f k l0).bind fun bt267 => ((table_Root.f k bt263.1).bind fun bt269 => (if bt267.2 = 0 then (larchlaw18_StepsViolations.j0 k l0 bt263.1 bt267.1 bt269.1 (bt269.2 != 0) a2_0 a2_1) else (larchlaw18_StepsViolations.j0 k l0 bt263.1 bt267.1 bt269.1 true a2_0 a2_1)))) else (some ((bt263.1.length : Int) == 0)))) else (some false))
end Go.Proofs.Ytgleaefhflamnaa.T
namespace Go.Proofs.Ytgleaefhflamnaa.T
open Go.RowKit Go.Proofs.YtgleaefhflamnaaW.PrintWords Go.Proofs.YtgleaefhflamnaaW.PrintLast Go.Proofs.YtgleaefhflamnaaW.PrintMore
theorem same_self (y : List S34) (hy : y.length ≤ 1000000) : ∃ k, larchref18_SameTable.f k y y = some true := by
 have key : ∀ (d i k : Nat), i + d = y.length → d < k → larchref18_SameTable.l0 k y y i = some true := by
  intro d
  induction d with
  | zero =>
   intro i k hi hk
   cases k with
   | zero => omega
   | succ k => rw [larchref18_SameTable.l0, if_neg (by omega)]
  | succ d ih =>
   intro i k hi hk
   cases k with
   | zero => omega
   | succ k =>
    rw [larchref18_SameTable.l0, if_pos (by omega), if_pos (by omega), if_pos (by omega), if_neg (by simp), Go.IntWalk.wrap64_in _ (by omega)]
    exact ih (i + 1) k (by omega) (by omega)
 refine ⟨y.length + 1, ?_⟩
 unfold larchref18_SameTable.f
 rw [if_pos rfl]
 exact key y.length 0 _ (by omega) (by omega)
end Go.Proofs.Ytgleaefhflamnaa.T
/- StepsLeaves: what the law's calls come to, for a move that can be done. -/
namespace Go.Proofs.Ytgleaefhflamnaa.T
open Go.RowKit Go.Proofs.YtgleaefhflamnaaW.PrintWords Go.Proofs.YtgleaefhflamnaaW.PrintLast Go.Proofs.YtgleaefhflamnaaW.PrintMore
set_option linter.unusedVariables false
theorem doT_keep (m rt : Bool) {X : Tr} {kind : Int} (hk : 1 ≤ kind ∧ kind ≤ 12) (hX : Ok X) (hc : canT m rt X kind = true) : Keep X (doT m X kind) := by
 have hd : kind = 1 ∨ kind = 2 ∨ kind = 3 ∨ kind = 4 ∨ kind = 5 ∨ kind = 6 ∨ kind = 7 ∨ kind = 8 ∨ kind = 9 ∨ kind = 10 ∨ kind = 11 ∨ kind = 12 := by omega
 rcases hd with rfl | rfl | rfl | rfl | rfl | rfl | rfl | rfl | rfl | rfl | rfl | rfl
 ·exact do1_keep m hX hc
 ·exact do2_keep m hX hc
 ·exact do3_keep m hX hc
 ·exact do4_keep m hX hc
 ·exact do5_keep m hX hc
 ·exact do6_keep m hX hc
 ·exact do7_keep m hX hc
 ·exact do8_keep m hX hc
 ·exact do9_keep m hX hc
 ·exact do10_keep m hX hc
 ·exact do11_keep m hX hc
 ·exact ⟨prs_as 1 X, fun _ h => bst_as.2 h⟩
theorem repl_two {T X0 : Tr} (h : Crown T X0) (hn : (plT T).Nodup) {c0 c : Nat} (hc0 : plc X0 = c0) (hc : (c : Int) ∈ plT X0) (R : Tr) : replT c R T = replT c0 (newX c R X0) T := by
 obtain ⟨n0, n1, p1, q1, q0, rfl, e⟩ := mir_crown h hn hc0 (newX c R X0)
 rw [e]
 simp only [plT, List.cons_append, List.nodup_cons, List.mem_cons, List.mem_append, not_or, List.append_assoc, List.nil_append] at hn
 have h1 : ¬ p1 = (c : Int) := fun e => hn.2.1.1 (e ▸ hc)
 have hd := (List.nodup_append.1 hn.2.2).2.2
 have h2 : ¬ q1 = (c : Int) := fun e => hd _ hc q1 (by simp) e.symm
 have h3 : ¬ q0 = (c : Int) := fun e => hd _ hc q0 (by simp) e.symm
 have s1 : ∀ q : Int, ¬ q = (c : Int) → newX c R (.node sn34 q .nil .nil) = .node sn34 q .nil .nil := fun q hq => new_no (by simp only [plT, List.append_nil, List.mem_singleton]; exact fun e => hq e.symm)
 rw [repl_new, s1 q0 h3, newX, plc, if_neg h1, repl_new, s1 q1 h2]
/-- The places of the leaves; their keys and values. -/
def lfP (t : List S34) (p : Int) : Bool := decide ((t.getD p.toNat z34).f4 = -1 ∧ (t.getD p.toNat z34).f5 = -1)
def prP (t : List S34) (ps : List Int) : List S78 := (ps.filter (fun p => decide ((t.getD p.toNat z34).f1 = 0))).map (fun p => ⟨(t.getD p.toNat z34).f0, (t.getD p.toNat z34).f3⟩)
theorem prP_app (t : List S34) (a b : List Int) : prP t (a ++ b) = prP t a ++ prP t b := by simp [prP]
theorem prs_mk {t : List S34} (hf : ∀ i, i < t.length → fmN (t.getD i z34) t.length = true) : ∀ (k i : Nat) (T : Tr), mkT t k i = some T → prP t ((plT T).filter (lfP t)) = prs T := by
 intro k
 induction k with
 | zero => intro i T h; simp [mkT] at h
 | succ k ih =>
  intro i T h
  by_cases hl : (t.getD i z34).f4 = -1 ∧ (t.getD i z34).f5 = -1
  ·obtain ⟨hi, rfl⟩ := mkT_leaf hf h hl
   have : lfP t (i : Int) = true := by rw [lfP, Int.toNat_natCast]; exact decide_eq_true hl
   simp only [plT, List.append_nil, List.filter_cons, List.filter_nil, this, if_true, prP, List.map_nil, Int.toNat_natCast, prs]
   by_cases h1 : (t.getD i z34).f1 = 0
   ·simp only [h1, decide_true, if_true, List.map_cons, List.map_nil, Int.toNat_natCast]
   ·simp only [h1, decide_false, Bool.false_eq_true, if_false, List.map_nil]
  ·obtain ⟨k', l, r, hk, hi, h1, h2, rfl⟩ := mkT_inner hf h hl
   obtain rfl : k = k' := by omega
   have hln : l ≠ .nil := fun e => mkT_nil (e ▸ h1)
   have : ¬ lfP t (i : Int) = true := by rw [lfP, Int.toNat_natCast]; simpa using hl
   rw [prs_inner _ _ _ hln, plT, List.filter_cons, if_neg this, List.filter_append, prP_app, ih _ l h1, ih _ r h2]
theorem leaves_l0 {t : List S34} (ps : List Int) (hp : ∀ p ∈ ps, 0 ≤ p ∧ p < t.length) (hl : ps.length ≤ 1000000) : ∀ (d i k : Nat), i + d = ps.length → d < k →
  table_Leaves.l0 k t ((ps.take i).filter (lfP t)) ps ps.length i = some (ps.filter (lfP t), 0) := by
 intro d
 induction d with
 | zero =>
  intro i k hi hk
  obtain ⟨k, rfl⟩ : ∃ x, k = x + 1 := ⟨k - 1, by omega⟩
  rw [table_Leaves.l0, if_neg (by omega), List.take_of_length_le (by omega)]
 | succ d ih =>
  intro i k hi hk
  obtain ⟨k, rfl⟩ : ∃ x, k = x + 1 := ⟨k - 1, by omega⟩
  have hil : i < ps.length := by omega
  have hg : ps.getD i 0 = ps[i] := by rw [List.getD, List.getElem?_eq_getElem hil, Option.getD_some]
  have hr := hp (ps.getD i 0) (by rw [hg]; exact List.getElem_mem _)
  have htake : ps.take (i + 1) = ps.take i ++ [ps.getD i 0] := by rw [hg, List.take_append_getElem hil]
  have hfl : ((ps.take i).filter (lfP t)).length ≤ 1000000 := Nat.le_trans (List.length_filter_le _ _) (by rw [List.length_take]; omega)
  have step := ih (i + 1) k (by omega) (by omega)
  rw [htake, List.filter_append, List.filter_cons, List.filter_nil] at step
  rw [table_Leaves.l0, if_pos (by omega), if_pos (by omega), if_pos (by omega), show rd ps (i : Int) = ps.getD i 0 from rfl, if_pos hr.1, if_pos hr.2, show rd_T34 t (ps.getD i 0) = t.getD (ps.getD i 0).toNat z34 from rfl, leaf_f, Option.bind_some]
  by_cases hlf : (t.getD (ps.getD i 0).toNat z34).f4 = -1 ∧ (t.getD (ps.getD i 0).toNat z34).f5 = -1
  ·rw [if_pos (show lfP t (ps.getD i 0) = true from decide_eq_true hlf)] at step
   rw [if_pos (by simpa using hlf), if_pos (by omega), Go.IntWalk.wrap64_in _ (by omega)]
   exact step
  ·rw [if_neg (show ¬ lfP t (ps.getD i 0) = true by rw [lfP]; simpa using hlf), List.append_nil] at step
   rw [if_neg (by simpa using hlf), Go.IntWalk.wrap64_in _ (by omega)]
   exact step
theorem pairs_l0 {t : List S34} (ps : List Int) (hp : ∀ p ∈ ps, 0 ≤ p ∧ p < t.length) (hl : ps.length ≤ 1000000) : ∀ (d i k : Nat), i + d = ps.length → d < k →
  table_Pairs.l0 k t (prP t (ps.take i)) ps ps.length i = some (prP t ps, 0) := by
 intro d
 induction d with
 | zero =>
  intro i k hi hk
  obtain ⟨k, rfl⟩ : ∃ x, k = x + 1 := ⟨k - 1, by omega⟩
  rw [table_Pairs.l0, if_neg (by omega), List.take_of_length_le (by omega)]
 | succ d ih =>
  intro i k hi hk
  obtain ⟨k, rfl⟩ : ∃ x, k = x + 1 := ⟨k - 1, by omega⟩
  have hil : i < ps.length := by omega
  have hg : ps.getD i 0 = ps[i] := by rw [List.getD, List.getElem?_eq_getElem hil, Option.getD_some]
  have hr := hp (ps.getD i 0) (by rw [hg]; exact List.getElem_mem _)
  have htake : ps.take (i + 1) = ps.take i ++ [ps.getD i 0] := by rw [hg, List.take_append_getElem hil]
  have hfl : (prP t (ps.take i)).length ≤ 1000000 := by rw [prP, List.length_map]; exact Nat.le_trans (List.length_filter_le _ _) (by rw [List.length_take]; omega)
  have step := ih (i + 1) k (by omega) (by omega)
  rw [htake, prP_app] at step
  rw [table_Pairs.l0, if_pos (by omega), if_pos (by omega), if_pos (by omega), show rd ps (i : Int) = ps.getD i 0 from rfl, if_pos hr.1, if_pos hr.2, show rd_T34 t (ps.getD i 0) = t.getD (ps.getD i 0).toNat z34 from rfl]
  by_cases h1 : (t.getD (ps.getD i 0).toNat z34).f1 = 0
  ·rw [show prP t [ps.getD i 0] = [⟨(t.getD (ps.getD i 0).toNat z34).f0, (t.getD (ps.getD i 0).toNat z34).f3⟩] by simp only [prP, List.filter_cons, List.filter_nil, h1, decide_true, if_true, List.map_cons, List.map_nil]] at step
   rw [if_pos h1, if_pos (by omega), Go.IntWalk.wrap64_in _ (by omega)]
   exact step
  ·rw [show prP t [ps.getD i 0] = [] by simp only [prP, List.filter_cons, List.filter_nil, h1, decide_false, Bool.false_eq_true, if_false, List.map_nil], List.append_nil] at step
   rw [if_neg h1, Go.IntWalk.wrap64_in _ (by omega)]
   exact step
theorem pairs_tree {t : List S34} {T : Tr} (hg : Good t T) : ∃ k, table_Pairs.f k t = some (prs T, 0) := by
 have hlen := hg.len
 have hall := hg.all
 obtain ⟨k1, h1⟩ := check_good hg
 have hm := (plT_mem _ _ _ hg.tree).2
 have hle : ((plT T).filter (lfP t)).length ≤ (plT T).length := List.length_filter_le _ _
 refine ⟨max k1 ((plT T).length + 1), ?_⟩
 unfold table_Pairs.f table_Leaves.f
 rw [up_to (fun k => table_Check.mono _ k) (by omega : k1 ≤ _) h1, Option.bind_some, if_pos rfl, order_f_tree hlen (formT_of hg.form) (by omega) hg.tree hg.nodup (by omega) _ (by omega), Option.bind_some]
 have e1 := leaves_l0 (plT T) hm (by omega) (plT T).length 0 (max k1 ((plT T).length + 1)) (by omega) (by omega)
 rw [List.take_zero, List.filter_nil, show ((0 : Nat) : Int) = 0 from rfl] at e1
 rw [e1, Option.bind_some]
 simp only
 rw [if_pos trivial]
 have e2 := pairs_l0 ((plT T).filter (lfP t)) (fun p hp => hm p (List.mem_filter.1 hp).1) (by omega) ((plT T).filter (lfP t)).length 0 (max k1 ((plT T).length + 1)) (by omega) (by omega)
 rw [List.take_zero, show prP t [] = [] from rfl, show ((0 : Nat) : Int) = 0 from rfl, prs_mk hg.form _ _ _ hg.tree] at e2
 exact e2
theorem norm_tree {t : List S34} {T : Tr} (hg : Good t T) : ∃ k, table_Norm.f k t = some (flatT T 0, 0) := by
 have hlen := hg.len
 have hall := hg.all
 obtain ⟨k1, h1⟩ := check_good hg
 obtain ⟨k, hk⟩ := sub_tree (t := t) (a := 0) hlen hg.form (by omega) hg.tree hg.nodup (by omega)
 refine ⟨max k k1, ?_⟩
 unfold table_Norm.f
 rw [up_to (fun k => table_Check.mono _ k) (by omega : k1 ≤ _) h1, Option.bind_some, if_pos rfl, up_to (fun k => table_sub.mono _ _ k) (by omega : k ≤ _) hk, Option.bind_some]
/-- What the law's calls come to. -/
theorem leaves_facts {t : List S34} {a1 kind : Int} {mir : Bool} {u : List S34} {T X0 X R : Tr} {c : Nat} {rt : Bool} (h : Moved t a1 kind mir u T X0 X R c rt) :
  ∃ (k c0 : Nat) (v : List S34) (P : List S78) (U : Tr), Good u U ∧ u.length = t.length ∧ table_Norm.f k u = some (u, 0) ∧ table_Pairs.f k t = some (P, 0) ∧ table_Pairs.f k u = some (P, 0) ∧ P.length ≤ 1000000 ∧
   (ordT T z125 false = true → ordT U z125 false = true) ∧ table_Root.f k u = some (2, 0) ∧ table_Root.f k t = some ((c0 : Int), 0) ∧ table_Sub.f k u 2 = some (v, 0) ∧ table_Graft.f k t c0 v = some (u, 0) ∧ larchref18_SameTable.f k u u = some true := by
 obtain ⟨c0, ht⟩ := moved_two h
 have hg := h.good
 have hgU := ht.goodU
 have hlen := hg.len
 have hlu := ht.len
 have hokT : Ok T := good_ok hg
 have hRn := ok_ne h.gives.ok
 have hokX : Ok X := ok_mkT hg.form h.sub
 have hok0 : Ok X0 := ok_mkT hg.form ht.mk0
 have hokY : Ok (newX c R X0) := by
  unfold newX
  split
  ·exact h.gives.ok
  ·exact repl_ok h.gives.ok hok0
 obtain ⟨c0', hc0', hcl, hm0, hn0, hl0⟩ := crown_tree hg h.crown
 obtain rfl : c0 = c0' := by have := ht.at0; omega
 obtain ⟨cu, hcu, hcul, hmu, hnu, hluu⟩ := crown_tree hgU ht.crownU
 obtain rfl : cu = 2 := by have := ht.atU; omega
 have hkeep : Keep X R := by
  have hk := doT_keep mir rt h.kinds hokX h.can
  rw [h.isR]
  split
  ·exact ⟨(prs_set 1 _).trans hk.prs, fun a b => bst_set.2 (hk.bst a b)⟩
  ·exact hk
 have hinX : allT (fun n => n.f1 = 0) X := by
  obtain ⟨X', hX', hs⟩ := sub_ex hm0 _ h.inX
  rw [Int.toNat_natCast, h.sub] at hX'
  obtain rfl := Option.some.inj hX'
  obtain ⟨_, _, _, _, _, _, _, _, _, _, c5, _⟩ := h.crown
  exact hs _ c5
 have kp := keep_repl hg.form h.sub hRn hkeep.prs _ _ _ hm0
 have o1 := ordT_crown h.crown hok0
 have hokU : Ok (renT (newX c R X0) 2) := ok_mkT hgU.form ht.mkU
 have o2 := ordT_crown ht.crownU hokU
 have hprs : prs (renT (replT c R T) 0) = prs T := by rw [o2.2, prs_ren hokY, kp.1, o1.2]
 have hord : ordT T z125 false = true → ordT (renT (replT c R T) 0) z125 false = true := fun ho => o2.1.2 ((bst_ren hokY 2).2 (kp.2 (o1.1.1 ho) (hkeep.bst hinX)))
 obtain ⟨k1, h1⟩ := norm_tree hgU
 obtain ⟨k2, h2⟩ := pairs_tree hg
 obtain ⟨k3, h3⟩ := pairs_tree hgU
 obtain ⟨k4, h4⟩ := root_at hgU ht.crownU
 obtain ⟨k5, h5⟩ := root_at hg h.crown
 obtain ⟨k6, h6⟩ := Sub_tree hgU hcul hmu hnu hluu
 obtain ⟨k8, h8⟩ := same_self u (by omega)
 have eu : flatT (renT (replT c R T) 0) 0 = u := by rw [h.isu]; exact flat_shape (good_ok hgU) h.okR (nT_ren h.okR 0) 0
 have hsz : sizeT (renT (newX c R X0) 2) ≤ 100000 := ht.sizeU
 have hgV : Good (flatT (renT (newX c R X0) 2) 0) (renT (renT (newX c R X0) 2) 0) := flat_good hokU hsz
 have hc1 : c0 ≠ 0 := by
  rintro rfl
  have htr := hg.tree
  rw [hm0] at htr
  obtain rfl := Option.some.inj htr
  obtain ⟨n0, n1, p1, q1, q0, e, _⟩ := h.crown
  have := congrArg sizeT e
  simp only [sizeT] at this
  omega
 have hp0 := size_pl X0
 have hpu := size_pl (renT (newX c R X0) 2)
 have hvl : (flatT (renT (newX c R X0) 2) 0).length = sizeT (renT (newX c R X0) 2) := flT_len hokU 0
 have hsX : sizeT (renT (newX c R X0) 2) = sizeT X0 := by
  rw [← size_n, nT_ren hokY, size_n, newX]
  split
  ·rename_i hp
   have hcc : c = c0 := by omega
   subst hcc
   have hXX : X = X0 := by have := h.sub; rw [hm0] at this; exact (Option.some.inj this).symm
   rw [← hXX]
   exact h.gives.size
  ·exact repl_size h.sub h.gives.size _ _ _ hm0
 obtain ⟨k7, h7⟩ := graft_tree hg hgV hc1 hcl hm0 hn0 (by omega) (by omega)
 have eG : flatT (replT c0 (renT (renT (newX c R X0) 2) 0) T) 0 = u := by
  rw [h.isu, repl_two h.crown hg.nodup ht.at0 h.inX R]
  refine flat_shape (repl_ok (good_ok hgV) hokT) (repl_ok hokY hokT) ?_ 0
  have hT : ∀ M, newX c0 M T = replT c0 M T := fun M => by rw [newX, good_plc hg, if_neg (by omega)]
  rw [← hT, ← hT, nT_new ((nT_ren hokU 0).trans (nT_ren hokY 2))]
 have hPl : (prs T).length ≤ 1000000 := by
  have := prs_mk hg.form _ _ _ hg.tree
  rw [← this, prP, List.length_map]
  refine Nat.le_trans (List.length_filter_le _ _) (Nat.le_trans (List.length_filter_le _ _) ?_)
  rw [hg.all]; omega
 rw [eu] at h1
 rw [hprs] at h3
 rw [eG] at h7
 rw [ht.atU] at h4
 rw [ht.at0] at h5
 have big : ∀ n, n ≤ k1 + k2 + k3 + k4 + k5 + k6 + k7 + k8 → n ≤ k1 + k2 + k3 + k4 + k5 + k6 + k7 + k8 := fun _ h => h
 refine ⟨k1 + k2 + k3 + k4 + k5 + k6 + k7 + k8, c0, _, prs T, _, hgU, hlu, up_to (fun k => table_Norm.mono _ k) (by omega : k1 ≤ _) h1, up_to (fun k => table_Pairs.mono _ k) (by omega : k2 ≤ _) h2, up_to (fun k => table_Pairs.mono _ k) (by omega : k3 ≤ _) h3, hPl, hord, up_to (fun k => table_Root.mono _ k) (by omega : k4 ≤ _) h4,
  up_to (fun k => table_Root.mono _ k) (by omega : k5 ≤ _) h5, up_to (fun k => table_Sub.mono _ _ k) (by omega : k6 ≤ _) h6, up_to (fun k => table_Graft.mono _ _ _ k) (by omega : k7 ≤ _) h7, up_to (fun k => larchref18_SameTable.mono _ _ k) (by omega : k8 ≤ _) h8⟩
end Go.Proofs.Ytgleaefhflamnaa.T
/- StepsLeaves: for every table, place and move the law returns true. -/
namespace Go.Proofs.Ytgleaefhflamnaa.T
open Go.RowKit Go.Proofs.YtgleaefhflamnaaW.PrintWords Go.Proofs.YtgleaefhflamnaaW.PrintLast Go.Proofs.YtgleaefhflamnaaW.PrintMore
set_option linter.unusedVariables false
theorem ordered_good {t : List S34} {T : Tr} (hg : Good t T) (A0 : Option Addr) (c0 : Nat) (w : World) (hr0 : Kd.C k34 w A0 t.length t) (hc0 : t.length ≤ c0) :
  Calls Try.prog 37 #[.slice A0 t.length c0] w fun e w' => e = .returned (.tuple #[.bool (ordT T z125 false), .int .i64 0]) ∧ Below w.heap.size w w' := by
 have hlen := hg.len
 have hall := hg.all
 obtain ⟨k1, h1⟩ := check_good hg
 have hm := (plT_mem _ _ _ hg.tree).2
 rw [← ordL_good hg]
 refine ordered_calls (max k1 ((plT T).length + 1)) A0 c0 t (plT T) w hr0 hc0 (up_to (fun k => table_Check.mono _ k) (by omega : k1 ≤ _) h1) (order_f_tree hlen (formT_of hg.form) (by omega) hg.tree hg.nodup (by omega) _ (by omega)) hg.pos hlen (by omega) (fun p hp => ?_) (fun i hi hl => ?_)
 ·have := hm p hp
  exact ⟨p.toNat, by omega, by omega⟩
 ·have := (fmN_iff _ _).1 (hg.form i hi)
  exact ⟨(t.getD i z34).f4.toNat, (t.getD i z34).f5.toNat, by omega, by omega, by omega, by omega⟩
theorem leaves_any (A0 : Option Addr) (c0 : Nat) (l0 : List S34) (a1 kind : Int) (mir : Bool) (w : World) (hr0 : Kd.C k34 w A0 l0.length l0) (hc0 : l0.length ≤ c0) :
  Calls Try.prog 9 #[.slice A0 l0.length c0, .int .i64 a1, .agg #[.int .i64 kind, .bool mir]] w fun e w' => e = .returned (.bool true) ∧ Below w.heap.size w w' := by
 obtain ⟨kd, r1, r2, hkd, hr⟩ := do_total l0 a1 kind mir
 have hdn := done_f hkd
 have upD : ∀ {K}, kd ≤ K → larchlaw18_done.f K l0 a1 kind mir = some (r1, r2 == 0) := fun h => up_to (fun k => larchlaw18_done.mono l0 a1 kind mir k) h hdn
 rcases hr with ⟨h2, rfl⟩ | ⟨rfl, T, X0, X, R, c, rt, hm⟩
 ·exact leaves_no kd A0 c0 l0 a1 kind mir w hr0 hc0 (by rw [upD (Nat.le_refl _), show (r2 == 0) = false by simpa using h2])
 ·obtain ⟨kf, d0, v, P, U, hgU, hlu, f1, f2, f3, hP, ho, f4, f5, f6, f7, f8⟩ := leaves_facts hm
  have hab : ordT T z125 false = false ∨ ordT U z125 false = true := by
   cases h : ordT T z125 false with
   | false => exact .inl rfl
   | true => exact .inr (ho h)
  exact leaves_full (kd + kf) A0 c0 l0 a1 kind mir w hr0 hc0 r1 (upD (by omega)) (up_to (fun k => table_Norm.mono _ k) (by omega : kf ≤ _) f1) P (up_to (fun k => table_Pairs.mono _ k) (by omega : kf ≤ _) f2) (up_to (fun k => table_Pairs.mono _ k) (by omega : kf ≤ _) f3) hP _ _ hab
   (fun A c W h1 h2 => ordered_good hm.good A c W h1 h2) (fun A c W h1 h2 => ordered_good hgU A c W h1 h2) 2 d0 (up_to (fun k => table_Root.mono _ k) (by omega : kf ≤ _) f4) (up_to (fun k => larchref18_SameTable.mono _ _ k) (by omega : kf ≤ _) f8) (up_to (fun k => table_Root.mono _ k) (by omega : kf ≤ _) f5) hlu v (up_to (fun k => table_Sub.mono _ _ k) (by omega : kf ≤ _) f6) (up_to (fun k => table_Graft.mono _ _ _ k) (by omega : kf ≤ _) f7)
end Go.Proofs.Ytgleaefhflamnaa.T
