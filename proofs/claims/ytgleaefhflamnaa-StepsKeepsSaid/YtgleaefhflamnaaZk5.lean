/- A part of the proof: see YtgleaefhflamnaaLawStepsKeeps. -/
import Derived.Test.YtgleaefhflamnaaZk4
set_option linter.unusedVariables false
set_option linter.unusedSimpArgs false
set_option maxHeartbeats 32000000
set_option maxRecDepth 100000
namespace Go.Proofs.Ytgleaefhflamnaa.T
open Go.RowKit Go.Proofs.YtgleaefhflamnaaW.PrintWords Go.Proofs.YtgleaefhflamnaaW.PrintLast Go.Proofs.YtgleaefhflamnaaW.PrintMore
attribute [local go_sem] Try.underlying24 Try.underlying34 Try.underlying62 Try.underlying107 Try.underlying111 Try.underlying116
theorem rdo1 (p : Option Addr) (nx : S34) (px : Int) (nl : S34) (pl : Int) (nr : S34) (pr : Int) (tll tlr trl trr : Tr) (w : World) (h : Rp (fun _ => True) w (.pointer p) (.node nx px (.node nl pl tll tlr) (.node nr pr trl trr))) :
  Calls Try.prog 55 #[.pointer p, .int .i64 1] w fun e w' => ∃ q, e = .returned (.pointer q) ∧ Rp (fun _ => True) w' (.pointer q) (.node ⟨nx.f0, nx.f1, (wrap64 (nx.f2 - 1)), 0, 0, 0⟩ (-1) (setW (.node nl pl tll tlr) 1) (setW (.node nr pr trl trr) 1)) ∧ Below w.heap.size w w' := by
 have Hx := Am h
 obtain ⟨bx, vx, ux, e, hx, ax, cx, _⟩ := h
 obtain rfl : p = some ⟨bx, 0, none⟩ := by injection e
 have Hl := Am ax
 obtain ⟨bl, vl, ul, rfl, hl, al, cl, _⟩ := ax
 have Hll := Am al
 obtain ⟨qll, rfl⟩ := al.ptr
 clear al
 have Hlr := Am cl
 obtain ⟨qlr, rfl⟩ := cl.ptr
 clear cl
 have Bl := Am hl
 clear hl
 have Hr := Am cx
 obtain ⟨br, vr, ur, rfl, hr, ar, cr, _⟩ := cx
 have Hrl := Am ar
 obtain ⟨qrl, rfl⟩ := ar.ptr
 clear ar
 have Hrr := Am cr
 obtain ⟨qrr, rfl⟩ := cr.ptr
 clear cr
 have Br := Am hr
 clear hr
 have Bx := Am hx
 clear hx
 go_enter Try.func55, Try.ntmps55
 go_wp2
 refine sG 10 (w0 := w) (below_drew (Below.refl _ _)) fun w1 hHeld => ?_
 refine pu 0 10 ?_
 refine pu 1 11 ?_
 refine pu 2 12 ?_
 refine tb 3 13 hHeld (fun _ s => blkB s Bx.out) ?_
 refine pu 4 14 ?_
 refine pu 5 15 ?_
 refine pu 6 16 ?_
 refine tb 7 17 hHeld (fun _ s => blkB s Bx.out) ?_
 refine pu 8 5 ?_
 refine pu 9 6 ?_
 refine done_ (by kernel_rfl) ?_
 go_wp2_with (fail)
 refine (rw_any _ _ _ (Hx.out.below hHeld)).mono ?_
 rintro e _ ⟨he, rfl⟩
 obtain rfl : e = .returned (.int .i64 nx.f2) := he
 go_wp2_with (fail)
 refine (rwith_any _ nl pl _ _ _ _ (Hl.out.below hHeld)).mono ?_
 rintro _ v1 ⟨z1, rfl, h, hb⟩
 have HB := Am (bel_t' hHeld hb)
 have Hz1 := Am h
 clear h hb
 replace hHeld := HB.out
 clear HB
 go_wp2_with (fail)
 refine (rwith_any _ nr pr _ _ _ _ (Hr.out.below hHeld)).mono ?_
 rintro _ v2 ⟨z2, rfl, h, hb⟩
 have HB := Am (bel_t' hHeld hb)
 replace Hz1 := Am (Hz1.out.below hb)
 have Hz2 := Am h
 clear h hb
 replace hHeld := HB.out
 clear HB
 go_wp2_with (fail)
 refine (rnode_any _ _ _ nx px _ _ _ _ _ _ (Hx.out.below hHeld) Hz1.out Hz2.out).mono ?_
 rintro _ v3 ⟨z3, rfl, h, hb⟩
 have HB := Am (bel_t' hHeld hb)
 replace Hz1 := Am (Hz1.out.below hb)
 replace Hz2 := Am (Hz2.out.below hb)
 have Hz3 := Am h
 clear h hb
 clear Hz1
 clear Hz2
 replace hHeld := HB.out
 clear HB
 go_wp2
 go_ret
 exact ⟨_, rfl, Hz3.out, hHeld⟩
theorem rdo2 (p : Option Addr) (nx : S34) (px : Int) (nl : S34) (pl : Int) (tr tll tlr : Tr) (w : World) (h : Rp (fun _ => True) w (.pointer p) (.node nx px (.node nl pl tll tlr) tr)) :
  Calls Try.prog 55 #[.pointer p, .int .i64 2] w fun e w' => ∃ q, e = .returned (.pointer q) ∧ Rp (fun _ => True) w' (.pointer q) (.node ⟨nl.f0, nl.f1, nx.f2, 0, 0, 0⟩ (-1) tll (.node ⟨nx.f0, nx.f1, 0, 0, 0, 0⟩ (-1) tlr tr)) ∧ Below w.heap.size w w' := by
 have Hx := Am h
 obtain ⟨bx, vx, ux, e, hx, ax, cx, _⟩ := h
 obtain rfl : p = some ⟨bx, 0, none⟩ := by injection e
 have Hl := Am ax
 obtain ⟨bl, vl, ul, rfl, hl, al, cl, _⟩ := ax
 have Hll := Am al
 obtain ⟨qll, rfl⟩ := al.ptr
 clear al
 have Hlr := Am cl
 obtain ⟨qlr, rfl⟩ := cl.ptr
 clear cl
 have Bl := Am hl
 clear hl
 have Hr := Am cx
 obtain ⟨qr, rfl⟩ := cx.ptr
 clear cx
 have Bx := Am hx
 clear hx
 go_enter Try.func55, Try.ntmps55
 go_wp2
 refine sG 10 (w0 := w) (below_drew (Below.refl _ _)) fun w1 hHeld => ?_
 refine pu 0 10 ?_
 refine pu 1 11 ?_
 refine pu 2 12 ?_
 refine tb 3 13 hHeld (fun _ s => blkB s Bx.out) ?_
 refine pu 4 14 ?_
 refine pu 5 15 ?_
 refine pu 6 16 ?_
 refine tb 7 17 hHeld (fun _ s => blkB s Bx.out) ?_
 refine pu 8 5 ?_
 refine pu 9 6 ?_
 refine done_ (by kernel_rfl) ?_
 go_wp2_with (fail)
 refine (rw_any _ _ _ (Hx.out.below hHeld)).mono ?_
 rintro e _ ⟨he, rfl⟩
 obtain rfl : e = .returned (.int .i64 nx.f2) := he
 go_wp2
 refine sT 15 [] (S := fun W' => Below w.heap.size w W') (below_drew hHeld) fun hH => ?_
 refine gen_any (fun W => Below w.heap.size w W) (below_drew hHeld) (fun w2 k1 => ?_)
 clear hH hHeld
 have hHeld := k1
 clear k1
 refine pu 0 33 ?_
 refine pu 1 34 ?_
 refine pu 2 35 ?_
 refine pu 3 36 ?_
 refine pu 4 37 ?_
 refine tb 5 38 hHeld (fun _ s => blkB s Bl.out) ?_
 refine pu 6 39 ?_
 refine pu 7 40 ?_
 refine pu 8 41 ?_
 refine pu 9 42 ?_
 refine tb 10 43 hHeld (fun _ s => blkB s Bl.out) ?_
 refine pu 11 44 ?_
 refine on 12 45 fun K hK => ?_
 refine gO Try.func83 #[.pointer (some ⟨bx, 0, none⟩), .int .i64 0, .pointer qlr, .pointer qr] ?_
 refine (rnode_any _ _ _ nx px _ _ _ _ _ _ (Hx.out.below hHeld) (Hlr.out.below hHeld) (Hr.out.below hHeld)).mono ?_
 rintro _ v1 ⟨z1, rfl, h, hb⟩
 have HB := Am (bel_t' hHeld hb)
 have Hz1 := Am h
 clear h hb
 refine ⟨_, rfl, ?_⟩
 refine hK.out _ _ HB.out (fun hHeld => ?_)
 clear hK K HB
 refine nm 45 ?_
 refine on 13 46 fun K hK => ?_
 refine gO Try.func83 #[.pointer (some ⟨bl, 0, none⟩), .int .i64 nx.f2, .pointer qll, .pointer z1] ?_
 refine (rnode_any _ _ _ nl pl _ _ _ _ _ _ (Hl.out.below hHeld) (Hll.out.below hHeld) Hz1.out).mono ?_
 rintro _ v2 ⟨z2, rfl, h, hb⟩
 have HB := Am (bel_t' hHeld hb)
 replace Hz1 := Am (Hz1.out.below hb)
 have Hz2 := Am h
 clear h hb
 clear Hz1
 refine ⟨_, rfl, ?_⟩
 refine hK.out _ _ HB.out (fun hHeld => ?_)
 clear hK K HB
 refine nm 46 ?_
 refine pu 14 4 ?_
 refine done_ (by kernel_rfl) ?_
 go_wp2
 go_ret
 exact ⟨_, rfl, Hz2.out, hHeld⟩
theorem rdo3 (p : Option Addr) (nx : S34) (px : Int) (nl : S34) (pl : Int) (nlr : S34) (plr : Int) (tr tll tlrl tlrr : Tr) (w : World) (h : Rp (fun _ => True) w (.pointer p) (.node nx px (.node nl pl tll (.node nlr plr tlrl tlrr)) tr)) :
  Calls Try.prog 55 #[.pointer p, .int .i64 3] w fun e w' => ∃ q, e = .returned (.pointer q) ∧ Rp (fun _ => True) w' (.pointer q) (.node ⟨nlr.f0, nlr.f1, nx.f2, 0, 0, 0⟩ (-1) (.node ⟨nl.f0, nl.f1, 0, 0, 0, 0⟩ (-1) tll tlrl) (.node ⟨nx.f0, nx.f1, 0, 0, 0, 0⟩ (-1) tlrr tr)) ∧ Below w.heap.size w w' := by
 have Hx := Am h
 obtain ⟨bx, vx, ux, e, hx, ax, cx, _⟩ := h
 obtain rfl : p = some ⟨bx, 0, none⟩ := by injection e
 have Hl := Am ax
 obtain ⟨bl, vl, ul, rfl, hl, al, cl, _⟩ := ax
 have Hll := Am al
 obtain ⟨qll, rfl⟩ := al.ptr
 clear al
 have Hlr := Am cl
 obtain ⟨blr, vlr, ulr, rfl, hlr, alr, clr, _⟩ := cl
 have Hlrl := Am alr
 obtain ⟨qlrl, rfl⟩ := alr.ptr
 clear alr
 have Hlrr := Am clr
 obtain ⟨qlrr, rfl⟩ := clr.ptr
 clear clr
 have Blr := Am hlr
 clear hlr
 have Bl := Am hl
 clear hl
 have Hr := Am cx
 obtain ⟨qr, rfl⟩ := cx.ptr
 clear cx
 have Bx := Am hx
 clear hx
 go_enter Try.func55, Try.ntmps55
 go_wp2
 refine sG 10 (w0 := w) (below_drew (Below.refl _ _)) fun w1 hHeld => ?_
 refine pu 0 10 ?_
 refine pu 1 11 ?_
 refine pu 2 12 ?_
 refine tb 3 13 hHeld (fun _ s => blkB s Bx.out) ?_
 refine pu 4 14 ?_
 refine pu 5 15 ?_
 refine pu 6 16 ?_
 refine tb 7 17 hHeld (fun _ s => blkB s Bx.out) ?_
 refine pu 8 5 ?_
 refine pu 9 6 ?_
 refine done_ (by kernel_rfl) ?_
 go_wp2_with (fail)
 refine (rw_any _ _ _ (Hx.out.below hHeld)).mono ?_
 rintro e _ ⟨he, rfl⟩
 obtain rfl : e = .returned (.int .i64 nx.f2) := he
 go_wp2
 refine sT 30 [] (S := fun W' => Below w.heap.size w W') (below_drew hHeld) fun hH => ?_
 refine gen_any (fun W => Below w.heap.size w W) (below_drew hHeld) (fun w2 k1 => ?_)
 clear hH hHeld
 have hHeld := k1
 clear k1
 refine pu 0 49 ?_
 refine pu 1 50 ?_
 refine pu 2 51 ?_
 refine tb 3 52 hHeld (fun _ s => blkB s Bl.out) ?_
 refine pu 4 53 ?_
 refine pu 5 54 ?_
 refine pu 6 55 ?_
 refine pu 7 56 ?_
 refine pu 8 57 ?_
 refine tb 9 58 hHeld (fun _ s => blkB s Bl.out) ?_
 refine pu 10 59 ?_
 refine pu 11 60 ?_
 refine pu 12 61 ?_
 refine tb 13 62 hHeld (fun _ s => blkB s Bl.out) ?_
 refine pu 14 63 ?_
 refine pu 15 64 ?_
 refine tb 16 65 hHeld (fun _ s => blkB s Blr.out) ?_
 refine pu 18 67 ?_
 refine pu 19 68 ?_
 refine pu 20 69 ?_
 refine pu 21 70 ?_
 refine tb 22 71 hHeld (fun _ s => blkB s Bl.out) ?_
 refine pu 23 72 ?_
 refine pu 24 73 ?_
 refine tb 25 74 hHeld (fun _ s => blkB s Blr.out) ?_
 refine pu 26 75 ?_
 refine on 17 66 fun K hK => ?_
 refine gO Try.func83 #[.pointer (some ⟨bl, 0, none⟩), .int .i64 0, .pointer qll, .pointer qlrl] ?_
 refine (rnode_any _ _ _ nl pl _ _ _ _ _ _ (Hl.out.below hHeld) (Hll.out.below hHeld) (Hlrl.out.below hHeld)).mono ?_
 rintro _ v1 ⟨z1, rfl, h, hb⟩
 have HB := Am (bel_t' hHeld hb)
 have Hz1 := Am h
 clear h hb
 refine ⟨_, rfl, ?_⟩
 refine hK.out _ _ HB.out (fun hHeld => ?_)
 clear hK K HB
 refine nm 66 ?_
 refine on 27 76 fun K hK => ?_
 refine gO Try.func83 #[.pointer (some ⟨bx, 0, none⟩), .int .i64 0, .pointer qlrr, .pointer qr] ?_
 refine (rnode_any _ _ _ nx px _ _ _ _ _ _ (Hx.out.below hHeld) (Hlrr.out.below hHeld) (Hr.out.below hHeld)).mono ?_
 rintro _ v2 ⟨z2, rfl, h, hb⟩
 have HB := Am (bel_t' hHeld hb)
 replace Hz1 := Am (Hz1.out.below hb)
 have Hz2 := Am h
 clear h hb
 refine ⟨_, rfl, ?_⟩
 refine hK.out _ _ HB.out (fun hHeld => ?_)
 clear hK K HB
 refine nm 76 ?_
 refine on 28 77 fun K hK => ?_
 refine gO Try.func83 #[.pointer (some ⟨blr, 0, none⟩), .int .i64 nx.f2, .pointer z1, .pointer z2] ?_
 refine (rnode_any _ _ _ nlr plr _ _ _ _ _ _ (Hlr.out.below hHeld) Hz1.out Hz2.out).mono ?_
 rintro _ v3 ⟨z3, rfl, h, hb⟩
 have HB := Am (bel_t' hHeld hb)
 replace Hz1 := Am (Hz1.out.below hb)
 replace Hz2 := Am (Hz2.out.below hb)
 have Hz3 := Am h
 clear h hb
 clear Hz1
 clear Hz2
 refine ⟨_, rfl, ?_⟩
 refine hK.out _ _ HB.out (fun hHeld => ?_)
 clear hK K HB
 refine nm 77 ?_
 refine pu 29 4 ?_
 refine done_ (by kernel_rfl) ?_
 go_wp2
 go_ret
 exact ⟨_, rfl, Hz3.out, hHeld⟩
theorem rdo4 (p : Option Addr) (nx : S34) (px : Int) (nl : S34) (pl : Int) (nr : S34) (pr : Int) (tll tlr trl trr : Tr) (w : World) (h : Rp (fun _ => True) w (.pointer p) (.node nx px (.node nl pl tll tlr) (.node nr pr trl trr))) :
  Calls Try.prog 55 #[.pointer p, .int .i64 4] w fun e w' => ∃ q, e = .returned (.pointer q) ∧ Rp (fun _ => True) w' (.pointer q) (.node ⟨nx.f0, nx.f1, (wrap64 (nx.f2 + 1)), 0, 0, 0⟩ (-1) (setW (.node nl pl tll tlr) (wrap64 (nl.f2 - 1))) (setW (.node nr pr trl trr) 0)) ∧ Below w.heap.size w w' := by
 have Hx := Am h
 obtain ⟨bx, vx, ux, e, hx, ax, cx, _⟩ := h
 obtain rfl : p = some ⟨bx, 0, none⟩ := by injection e
 have Hl := Am ax
 obtain ⟨bl, vl, ul, rfl, hl, al, cl, _⟩ := ax
 have Hll := Am al
 obtain ⟨qll, rfl⟩ := al.ptr
 clear al
 have Hlr := Am cl
 obtain ⟨qlr, rfl⟩ := cl.ptr
 clear cl
 have Bl := Am hl
 clear hl
 have Hr := Am cx
 obtain ⟨br, vr, ur, rfl, hr, ar, cr, _⟩ := cx
 have Hrl := Am ar
 obtain ⟨qrl, rfl⟩ := ar.ptr
 clear ar
 have Hrr := Am cr
 obtain ⟨qrr, rfl⟩ := cr.ptr
 clear cr
 have Br := Am hr
 clear hr
 have Bx := Am hx
 clear hx
 go_enter Try.func55, Try.ntmps55
 go_wp2
 refine sG 10 (w0 := w) (below_drew (Below.refl _ _)) fun w1 hHeld => ?_
 refine pu 0 10 ?_
 refine pu 1 11 ?_
 refine pu 2 12 ?_
 refine tb 3 13 hHeld (fun _ s => blkB s Bx.out) ?_
 refine pu 4 14 ?_
 refine pu 5 15 ?_
 refine pu 6 16 ?_
 refine tb 7 17 hHeld (fun _ s => blkB s Bx.out) ?_
 refine pu 8 5 ?_
 refine pu 9 6 ?_
 refine done_ (by kernel_rfl) ?_
 go_wp2_with (fail)
 refine (rw_any _ _ _ (Hx.out.below hHeld)).mono ?_
 rintro e _ ⟨he, rfl⟩
 obtain rfl : e = .returned (.int .i64 nx.f2) := he
 go_wp2_with (fail)
 refine (rw_any _ _ _ (Hl.out.below hHeld)).mono ?_
 rintro e _ ⟨he, rfl⟩
 obtain rfl : e = .returned (.int .i64 nl.f2) := he
 go_wp2_with (fail)
 refine (rwith_any _ nl pl _ _ _ _ (Hl.out.below hHeld)).mono ?_
 rintro _ v1 ⟨z1, rfl, h, hb⟩
 have HB := Am (bel_t' hHeld hb)
 have Hz1 := Am h
 clear h hb
 replace hHeld := HB.out
 clear HB
 go_wp2_with (fail)
 refine (rwith_any _ nr pr _ _ _ _ (Hr.out.below hHeld)).mono ?_
 rintro _ v2 ⟨z2, rfl, h, hb⟩
 have HB := Am (bel_t' hHeld hb)
 replace Hz1 := Am (Hz1.out.below hb)
 have Hz2 := Am h
 clear h hb
 replace hHeld := HB.out
 clear HB
 go_wp2_with (fail)
 refine (rnode_any _ _ _ nx px _ _ _ _ _ _ (Hx.out.below hHeld) Hz1.out Hz2.out).mono ?_
 rintro _ v3 ⟨z3, rfl, h, hb⟩
 have HB := Am (bel_t' hHeld hb)
 replace Hz1 := Am (Hz1.out.below hb)
 replace Hz2 := Am (Hz2.out.below hb)
 have Hz3 := Am h
 clear h hb
 clear Hz1
 clear Hz2
 replace hHeld := HB.out
 clear HB
 go_wp2
 go_ret
 exact ⟨_, rfl, Hz3.out, hHeld⟩
theorem rdo5 (p : Option Addr) (nx : S34) (px : Int) (nl : S34) (pl : Int) (nr : S34) (pr : Int) (nrl : S34) (prl : Int) (tll tlr trr trll trlr : Tr) (w : World) (h : Rp (fun _ => True) w (.pointer p) (.node nx px (.node nl pl tll tlr) (.node nr pr (.node nrl prl trll trlr) trr))) :
  Calls Try.prog 55 #[.pointer p, .int .i64 5] w fun e w' => ∃ q, e = .returned (.pointer q) ∧ Rp (fun _ => True) w' (.pointer q) (.node ⟨nr.f0, nr.f1, nx.f2, 0, 0, 0⟩ (-1) (.node ⟨nx.f0, nx.f1, 1, 0, 0, 0⟩ (-1) (setW (.node nl pl tll tlr) (wrap64 (nl.f2 - 1))) (setW (.node nrl prl trll trlr) (wrap64 (nrl.f2 - 1)))) trr) ∧ Below w.heap.size w w' := by
 have Hx := Am h
 obtain ⟨bx, vx, ux, e, hx, ax, cx, _⟩ := h
 obtain rfl : p = some ⟨bx, 0, none⟩ := by injection e
 have Hl := Am ax
 obtain ⟨bl, vl, ul, rfl, hl, al, cl, _⟩ := ax
 have Hll := Am al
 obtain ⟨qll, rfl⟩ := al.ptr
 clear al
 have Hlr := Am cl
 obtain ⟨qlr, rfl⟩ := cl.ptr
 clear cl
 have Bl := Am hl
 clear hl
 have Hr := Am cx
 obtain ⟨br, vr, ur, rfl, hr, ar, cr, _⟩ := cx
 have Hrl := Am ar
 obtain ⟨brl, vrl, url, rfl, hrl, arl, crl, _⟩ := ar
 have Hrll := Am arl
 obtain ⟨qrll, rfl⟩ := arl.ptr
 clear arl
 have Hrlr := Am crl
 obtain ⟨qrlr, rfl⟩ := crl.ptr
 clear crl
 have Brl := Am hrl
 clear hrl
 have Hrr := Am cr
 obtain ⟨qrr, rfl⟩ := cr.ptr
 clear cr
 have Br := Am hr
 clear hr
 have Bx := Am hx
 clear hx
 go_enter Try.func55, Try.ntmps55
 go_wp2
 refine sG 10 (w0 := w) (below_drew (Below.refl _ _)) fun w1 hHeld => ?_
 refine pu 0 10 ?_
 refine pu 1 11 ?_
 refine pu 2 12 ?_
 refine tb 3 13 hHeld (fun _ s => blkB s Bx.out) ?_
 refine pu 4 14 ?_
 refine pu 5 15 ?_
 refine pu 6 16 ?_
 refine tb 7 17 hHeld (fun _ s => blkB s Bx.out) ?_
 refine pu 8 5 ?_
 refine pu 9 6 ?_
 refine done_ (by kernel_rfl) ?_
 go_wp2_with (fail)
 refine (rw_any _ _ _ (Hx.out.below hHeld)).mono ?_
 rintro e _ ⟨he, rfl⟩
 obtain rfl : e = .returned (.int .i64 nx.f2) := he
 go_wp2
 refine sT 26 [] (S := fun W' => Below w.heap.size w W') (below_drew hHeld) fun hH => ?_
 refine gen_any (fun W => Below w.heap.size w W) (below_drew hHeld) (fun w2 k1 => ?_)
 clear hH hHeld
 have hHeld := k1
 clear k1
 refine pu 0 93 ?_
 refine pu 1 94 ?_
 refine pu 2 95 ?_
 refine pu 3 96 ?_
 refine pu 4 97 ?_
 refine pu 8 101 ?_
 refine pu 9 102 ?_
 refine pu 10 103 ?_
 refine tb 11 104 hHeld (fun _ s => blkB s Br.out) ?_
 refine pu 12 105 ?_
 refine pu 13 106 ?_
 refine pu 14 107 ?_
 refine tb 15 108 hHeld (fun _ s => blkB s Br.out) ?_
 refine pu 20 113 ?_
 refine pu 21 114 ?_
 refine pu 22 115 ?_
 refine tb 23 116 hHeld (fun _ s => blkB s Br.out) ?_
 refine on 5 98 fun K hK => ?_
 refine gO Try.func80 #[.pointer (some ⟨bl, 0, none⟩)] ?_
 refine (rw_any _ _ _ (Hl.out.below hHeld)).mono ?_
 rintro e _ ⟨he, rfl⟩
 obtain rfl : e = .returned (.int .i64 nl.f2) := he
 refine ⟨_, rfl, ?_⟩
 refine hK.out _ _ hHeld (fun hHeld => ?_)
 clear hK K
 refine nm 98 ?_
 refine pu 6 99 ?_
 refine on 7 100 fun K hK => ?_
 refine gO Try.func56 #[.pointer (some ⟨bl, 0, none⟩), .int .i64 (wrap64 (nl.f2 - 1))] ?_
 refine (rwith_any _ nl pl _ _ _ _ (Hl.out.below hHeld)).mono ?_
 rintro _ v1 ⟨z1, rfl, h, hb⟩
 have HB := Am (bel_t' hHeld hb)
 have Hz1 := Am h
 clear h hb
 refine ⟨_, rfl, ?_⟩
 refine hK.out _ _ HB.out (fun hHeld => ?_)
 clear hK K HB
 refine nm 100 ?_
 refine on 16 109 fun K hK => ?_
 refine gO Try.func80 #[.pointer (some ⟨brl, 0, none⟩)] ?_
 refine (rw_any _ _ _ (Hrl.out.below hHeld)).mono ?_
 rintro e _ ⟨he, rfl⟩
 obtain rfl : e = .returned (.int .i64 nrl.f2) := he
 refine ⟨_, rfl, ?_⟩
 refine hK.out _ _ hHeld (fun hHeld => ?_)
 clear hK K
 refine nm 109 ?_
 refine pu 17 110 ?_
 refine on 18 111 fun K hK => ?_
 refine gO Try.func56 #[.pointer (some ⟨brl, 0, none⟩), .int .i64 (wrap64 (nrl.f2 - 1))] ?_
 refine (rwith_any _ nrl prl _ _ _ _ (Hrl.out.below hHeld)).mono ?_
 rintro _ v2 ⟨z2, rfl, h, hb⟩
 have HB := Am (bel_t' hHeld hb)
 replace Hz1 := Am (Hz1.out.below hb)
 have Hz2 := Am h
 clear h hb
 refine ⟨_, rfl, ?_⟩
 refine hK.out _ _ HB.out (fun hHeld => ?_)
 clear hK K HB
 refine nm 111 ?_
 refine on 19 112 fun K hK => ?_
 refine gO Try.func83 #[.pointer (some ⟨bx, 0, none⟩), .int .i64 1, .pointer z1, .pointer z2] ?_
 refine (rnode_any _ _ _ nx px _ _ _ _ _ _ (Hx.out.below hHeld) Hz1.out Hz2.out).mono ?_
 rintro _ v3 ⟨z3, rfl, h, hb⟩
 have HB := Am (bel_t' hHeld hb)
 replace Hz1 := Am (Hz1.out.below hb)
 replace Hz2 := Am (Hz2.out.below hb)
 have Hz3 := Am h
 clear h hb
 clear Hz1
 clear Hz2
 refine ⟨_, rfl, ?_⟩
 refine hK.out _ _ HB.out (fun hHeld => ?_)
 clear hK K HB
 refine nm 112 ?_
 refine on 24 117 fun K hK => ?_
 refine gO Try.func83 #[.pointer (some ⟨br, 0, none⟩), .int .i64 nx.f2, .pointer z3, .pointer qrr] ?_
 refine (rnode_any _ _ _ nr pr _ _ _ _ _ _ (Hr.out.below hHeld) Hz3.out (Hrr.out.below hHeld)).mono ?_
 rintro _ v4 ⟨z4, rfl, h, hb⟩
 have HB := Am (bel_t' hHeld hb)
 replace Hz3 := Am (Hz3.out.below hb)
 have Hz4 := Am h
 clear h hb
 clear Hz3
 refine ⟨_, rfl, ?_⟩
 refine hK.out _ _ HB.out (fun hHeld => ?_)
 clear hK K HB
 refine nm 117 ?_
 refine pu 25 4 ?_
 refine done_ (by kernel_rfl) ?_
 go_wp2
 go_ret
 exact ⟨_, rfl, Hz4.out, hHeld⟩
theorem rdo6 (p : Option Addr) (nx : S34) (px : Int) (nl : S34) (pl : Int) (nr : S34) (pr : Int) (nrl : S34) (prl : Int) (tll tlr trr trll trlr : Tr) (w : World) (h : Rp (fun _ => True) w (.pointer p) (.node nx px (.node nl pl tll tlr) (.node nr pr (.node nrl prl trll trlr) trr))) :
  Calls Try.prog 55 #[.pointer p, .int .i64 6] w fun e w' => ∃ q, e = .returned (.pointer q) ∧ Rp (fun _ => True) w' (.pointer q) (.node ⟨nr.f0, nr.f1, nx.f2, 0, 0, 0⟩ (-1) (.node ⟨nx.f0, nx.f1, 1, 0, 0, 0⟩ (-1) (setW (.node nl pl tll tlr) (wrap64 (nl.f2 - 1))) (setW (.node nrl prl trll trlr) 0)) trr) ∧ Below w.heap.size w w' := by
 have Hx := Am h
 obtain ⟨bx, vx, ux, e, hx, ax, cx, _⟩ := h
 obtain rfl : p = some ⟨bx, 0, none⟩ := by injection e
 have Hl := Am ax
 obtain ⟨bl, vl, ul, rfl, hl, al, cl, _⟩ := ax
 have Hll := Am al
 obtain ⟨qll, rfl⟩ := al.ptr
 clear al
 have Hlr := Am cl
 obtain ⟨qlr, rfl⟩ := cl.ptr
 clear cl
 have Bl := Am hl
 clear hl
 have Hr := Am cx
 obtain ⟨br, vr, ur, rfl, hr, ar, cr, _⟩ := cx
 have Hrl := Am ar
 obtain ⟨brl, vrl, url, rfl, hrl, arl, crl, _⟩ := ar
 have Hrll := Am arl
 obtain ⟨qrll, rfl⟩ := arl.ptr
 clear arl
 have Hrlr := Am crl
 obtain ⟨qrlr, rfl⟩ := crl.ptr
 clear crl
 have Brl := Am hrl
 clear hrl
 have Hrr := Am cr
 obtain ⟨qrr, rfl⟩ := cr.ptr
 clear cr
 have Br := Am hr
 clear hr
 have Bx := Am hx
 clear hx
 go_enter Try.func55, Try.ntmps55
 go_wp2
 refine sG 10 (w0 := w) (below_drew (Below.refl _ _)) fun w1 hHeld => ?_
 refine pu 0 10 ?_
 refine pu 1 11 ?_
 refine pu 2 12 ?_
 refine tb 3 13 hHeld (fun _ s => blkB s Bx.out) ?_
 refine pu 4 14 ?_
 refine pu 5 15 ?_
 refine pu 6 16 ?_
 refine tb 7 17 hHeld (fun _ s => blkB s Bx.out) ?_
 refine pu 8 5 ?_
 refine pu 9 6 ?_
 refine done_ (by kernel_rfl) ?_
 go_wp2_with (fail)
 refine (rw_any _ _ _ (Hx.out.below hHeld)).mono ?_
 rintro e _ ⟨he, rfl⟩
 obtain rfl : e = .returned (.int .i64 nx.f2) := he
 go_wp2
 refine sT 20 [] (S := fun W' => Below w.heap.size w W') (below_drew hHeld) fun hH => ?_
 refine gen_any (fun W => Below w.heap.size w W) (below_drew hHeld) (fun w2 k1 => ?_)
 clear hH hHeld
 have hHeld := k1
 clear k1
 refine pu 0 120 ?_
 refine pu 1 121 ?_
 refine pu 2 122 ?_
 refine pu 3 123 ?_
 refine pu 4 124 ?_
 refine pu 8 128 ?_
 refine pu 9 129 ?_
 refine pu 10 130 ?_
 refine tb 11 131 hHeld (fun _ s => blkB s Br.out) ?_
 refine pu 14 134 ?_
 refine pu 15 135 ?_
 refine pu 16 136 ?_
 refine tb 17 137 hHeld (fun _ s => blkB s Br.out) ?_
 refine on 5 125 fun K hK => ?_
 refine gO Try.func80 #[.pointer (some ⟨bl, 0, none⟩)] ?_
 refine (rw_any _ _ _ (Hl.out.below hHeld)).mono ?_
 rintro e _ ⟨he, rfl⟩
 obtain rfl : e = .returned (.int .i64 nl.f2) := he
 refine ⟨_, rfl, ?_⟩
 refine hK.out _ _ hHeld (fun hHeld => ?_)
 clear hK K
 refine nm 125 ?_
 refine pu 6 126 ?_
 refine on 7 127 fun K hK => ?_
 refine gO Try.func56 #[.pointer (some ⟨bl, 0, none⟩), .int .i64 (wrap64 (nl.f2 - 1))] ?_
 refine (rwith_any _ nl pl _ _ _ _ (Hl.out.below hHeld)).mono ?_
 rintro _ v1 ⟨z1, rfl, h, hb⟩
 have HB := Am (bel_t' hHeld hb)
 have Hz1 := Am h
 clear h hb
 refine ⟨_, rfl, ?_⟩
 refine hK.out _ _ HB.out (fun hHeld => ?_)
 clear hK K HB
 refine nm 127 ?_
 refine on 12 132 fun K hK => ?_
 refine gO Try.func56 #[.pointer (some ⟨brl, 0, none⟩), .int .i64 0] ?_
 refine (rwith_any _ nrl prl _ _ _ _ (Hrl.out.below hHeld)).mono ?_
 rintro _ v2 ⟨z2, rfl, h, hb⟩
 have HB := Am (bel_t' hHeld hb)
 replace Hz1 := Am (Hz1.out.below hb)
 have Hz2 := Am h
 clear h hb
 refine ⟨_, rfl, ?_⟩
 refine hK.out _ _ HB.out (fun hHeld => ?_)
 clear hK K HB
 refine nm 132 ?_
 refine on 13 133 fun K hK => ?_
 refine gO Try.func83 #[.pointer (some ⟨bx, 0, none⟩), .int .i64 1, .pointer z1, .pointer z2] ?_
 refine (rnode_any _ _ _ nx px _ _ _ _ _ _ (Hx.out.below hHeld) Hz1.out Hz2.out).mono ?_
 rintro _ v3 ⟨z3, rfl, h, hb⟩
 have HB := Am (bel_t' hHeld hb)
 replace Hz1 := Am (Hz1.out.below hb)
 replace Hz2 := Am (Hz2.out.below hb)
 have Hz3 := Am h
 clear h hb
 clear Hz1
 clear Hz2
 refine ⟨_, rfl, ?_⟩
 refine hK.out _ _ HB.out (fun hHeld => ?_)
 clear hK K HB
 refine nm 133 ?_
 refine on 18 138 fun K hK => ?_
 refine gO Try.func83 #[.pointer (some ⟨br, 0, none⟩), .int .i64 nx.f2, .pointer z3, .pointer qrr] ?_
 refine (rnode_any _ _ _ nr pr _ _ _ _ _ _ (Hr.out.below hHeld) Hz3.out (Hrr.out.below hHeld)).mono ?_
 rintro _ v4 ⟨z4, rfl, h, hb⟩
 have HB := Am (bel_t' hHeld hb)
 replace Hz3 := Am (Hz3.out.below hb)
 have Hz4 := Am h
 clear h hb
 clear Hz3
 refine ⟨_, rfl, ?_⟩
 refine hK.out _ _ HB.out (fun hHeld => ?_)
 clear hK K HB
 refine nm 138 ?_
 refine pu 19 4 ?_
 refine done_ (by kernel_rfl) ?_
 go_wp2
 go_ret
 exact ⟨_, rfl, Hz4.out, hHeld⟩
theorem rdo7 (p : Option Addr) (nx : S34) (px : Int) (nl : S34) (pl : Int) (nr : S34) (pr : Int) (nrl : S34) (prl : Int) (nrll : S34) (prll : Int) (tll tlr trr trlr trlll trllr : Tr) (w : World) (h : Rp (fun _ => True) w (.pointer p) (.node nx px (.node nl pl tll tlr) (.node nr pr (.node nrl prl (.node nrll prll trlll trllr) trlr) trr))) :
  Calls Try.prog 55 #[.pointer p, .int .i64 7] w fun e w' => ∃ q, e = .returned (.pointer q) ∧ Rp (fun _ => True) w' (.pointer q) (.node ⟨nr.f0, nr.f1, nx.f2, 0, 0, 0⟩ (-1) (.node ⟨nrll.f0, nrll.f1, 0, 0, 0, 0⟩ (-1) (.node ⟨nx.f0, nx.f1, 1, 0, 0, 0⟩ (-1) (setW (.node nl pl tll tlr) (wrap64 (nl.f2 - 1))) trlll) (.node ⟨nrl.f0, nrl.f1, 1, 0, 0, 0⟩ (-1) trllr trlr)) trr) ∧ Below w.heap.size w w' := by
 have Hx := Am h
 obtain ⟨bx, vx, ux, e, hx, ax, cx, _⟩ := h
 obtain rfl : p = some ⟨bx, 0, none⟩ := by injection e
 have Hl := Am ax
 obtain ⟨bl, vl, ul, rfl, hl, al, cl, _⟩ := ax
 have Hll := Am al
 obtain ⟨qll, rfl⟩ := al.ptr
 clear al
 have Hlr := Am cl
 obtain ⟨qlr, rfl⟩ := cl.ptr
 clear cl
 have Bl := Am hl
 clear hl
 have Hr := Am cx
 obtain ⟨br, vr, ur, rfl, hr, ar, cr, _⟩ := cx
 have Hrl := Am ar
 obtain ⟨brl, vrl, url, rfl, hrl, arl, crl, _⟩ := ar
 have Hrll := Am arl
 obtain ⟨brll, vrll, urll, rfl, hrll, arll, crll, _⟩ := arl
 have Hrlll := Am arll
 obtain ⟨qrlll, rfl⟩ := arll.ptr
 clear arll
 have Hrllr := Am crll
 obtain ⟨qrllr, rfl⟩ := crll.ptr
 clear crll
 have Brll := Am hrll
 clear hrll
 have Hrlr := Am crl
 obtain ⟨qrlr, rfl⟩ := crl.ptr
 clear crl
 have Brl := Am hrl
 clear hrl
 have Hrr := Am cr
 obtain ⟨qrr, rfl⟩ := cr.ptr
 clear cr
 have Br := Am hr
 clear hr
 have Bx := Am hx
 clear hx
 go_enter Try.func55, Try.ntmps55
 go_wp2
 refine sG 10 (w0 := w) (below_drew (Below.refl _ _)) fun w1 hHeld => ?_
 refine pu 0 10 ?_
 refine pu 1 11 ?_
 refine pu 2 12 ?_
 refine tb 3 13 hHeld (fun _ s => blkB s Bx.out) ?_
 refine pu 4 14 ?_
 refine pu 5 15 ?_
 refine pu 6 16 ?_
 refine tb 7 17 hHeld (fun _ s => blkB s Bx.out) ?_
 refine pu 8 5 ?_
 refine pu 9 6 ?_
 refine done_ (by kernel_rfl) ?_
 go_wp2_with (fail)
 refine (rw_any _ _ _ (Hx.out.below hHeld)).mono ?_
 rintro e _ ⟨he, rfl⟩
 obtain rfl : e = .returned (.int .i64 nx.f2) := he
 obtain ⟨y0, y1, y2, y3, y4, y5, y6, y7, y8⟩ := rd9 (blkB hHeld Br.out)
 go_wp2
 clear y0 y1 y2 y3 y4 y5 y6 y7 y8
 refine sT 40 [] (S := fun W' => Below w.heap.size w W') (below_drew hHeld) fun hH => ?_
 refine gen_any (fun W => Below w.heap.size w W) (below_drew hHeld) (fun w2 k1 => ?_)
 clear hH hHeld
 have hHeld := k1
 clear k1
 refine pu 0 145 ?_
 refine pu 1 146 ?_
 refine pu 2 147 ?_
 refine pu 3 148 ?_
 refine pu 4 149 ?_
 refine tb 5 150 hHeld (fun _ s => blkB s Brl.out) ?_
 refine pu 6 151 ?_
 refine pu 7 152 ?_
 refine pu 8 153 ?_
 refine pu 12 157 ?_
 refine pu 13 158 ?_
 refine pu 14 159 ?_
 refine tb 15 160 hHeld (fun _ s => blkB s Brl.out) ?_
 refine pu 16 161 ?_
 refine pu 17 162 ?_
 refine tb 18 163 hHeld (fun _ s => blkB s Brll.out) ?_
 refine pu 20 165 ?_
 refine pu 21 166 ?_
 refine pu 22 167 ?_
 refine pu 23 168 ?_
 refine tb 24 169 hHeld (fun _ s => blkB s Brl.out) ?_
 refine pu 25 170 ?_
 refine pu 26 171 ?_
 refine tb 27 172 hHeld (fun _ s => blkB s Brll.out) ?_
 refine pu 28 173 ?_
 refine pu 29 174 ?_
 refine pu 30 175 ?_
 refine tb 31 176 hHeld (fun _ s => blkB s Brl.out) ?_
 refine pu 34 179 ?_
 refine pu 35 180 ?_
 refine pu 36 181 ?_
 refine tb 37 182 hHeld (fun _ s => blkB s Br.out) ?_
 refine on 9 154 fun K hK => ?_
 refine gO Try.func80 #[.pointer (some ⟨bl, 0, none⟩)] ?_
 refine (rw_any _ _ _ (Hl.out.below hHeld)).mono ?_
 rintro e _ ⟨he, rfl⟩
 obtain rfl : e = .returned (.int .i64 nl.f2) := he
 refine ⟨_, rfl, ?_⟩
 refine hK.out _ _ hHeld (fun hHeld => ?_)
 clear hK K
 refine nm 154 ?_
 refine pu 10 155 ?_
 refine on 11 156 fun K hK => ?_
 refine gO Try.func56 #[.pointer (some ⟨bl, 0, none⟩), .int .i64 (wrap64 (nl.f2 - 1))] ?_
 refine (rwith_any _ nl pl _ _ _ _ (Hl.out.below hHeld)).mono ?_
 rintro _ v1 ⟨z1, rfl, h, hb⟩
 have HB := Am (bel_t' hHeld hb)
 have Hz1 := Am h
 clear h hb
 refine ⟨_, rfl, ?_⟩
 refine hK.out _ _ HB.out (fun hHeld => ?_)
 clear hK K HB
 refine nm 156 ?_
 refine on 19 164 fun K hK => ?_
 refine gO Try.func83 #[.pointer (some ⟨bx, 0, none⟩), .int .i64 1, .pointer z1, .pointer qrlll] ?_
 refine (rnode_any _ _ _ nx px _ _ _ _ _ _ (Hx.out.below hHeld) Hz1.out (Hrlll.out.below hHeld)).mono ?_
 rintro _ v2 ⟨z2, rfl, h, hb⟩
 have HB := Am (bel_t' hHeld hb)
 replace Hz1 := Am (Hz1.out.below hb)
 have Hz2 := Am h
 clear h hb
 clear Hz1
 refine ⟨_, rfl, ?_⟩
 refine hK.out _ _ HB.out (fun hHeld => ?_)
 clear hK K HB
 refine nm 164 ?_
 refine on 32 177 fun K hK => ?_
 refine gO Try.func83 #[.pointer (some ⟨brl, 0, none⟩), .int .i64 1, .pointer qrllr, .pointer qrlr] ?_
 refine (rnode_any _ _ _ nrl prl _ _ _ _ _ _ (Hrl.out.below hHeld) (Hrllr.out.below hHeld) (Hrlr.out.below hHeld)).mono ?_
 rintro _ v3 ⟨z3, rfl, h, hb⟩
 have HB := Am (bel_t' hHeld hb)
 replace Hz2 := Am (Hz2.out.below hb)
 have Hz3 := Am h
 clear h hb
 refine ⟨_, rfl, ?_⟩
 refine hK.out _ _ HB.out (fun hHeld => ?_)
 clear hK K HB
 refine nm 177 ?_
 refine on 33 178 fun K hK => ?_
 refine gO Try.func83 #[.pointer (some ⟨brll, 0, none⟩), .int .i64 0, .pointer z2, .pointer z3] ?_
 refine (rnode_any _ _ _ nrll prll _ _ _ _ _ _ (Hrll.out.below hHeld) Hz2.out Hz3.out).mono ?_
 rintro _ v4 ⟨z4, rfl, h, hb⟩
 have HB := Am (bel_t' hHeld hb)
 replace Hz2 := Am (Hz2.out.below hb)
 replace Hz3 := Am (Hz3.out.below hb)
 have Hz4 := Am h
 clear h hb
 clear Hz2
 clear Hz3
 refine ⟨_, rfl, ?_⟩
 refine hK.out _ _ HB.out (fun hHeld => ?_)
 clear hK K HB
 refine nm 178 ?_
 refine on 38 183 fun K hK => ?_
 refine gO Try.func83 #[.pointer (some ⟨br, 0, none⟩), .int .i64 nx.f2, .pointer z4, .pointer qrr] ?_
 refine (rnode_any _ _ _ nr pr _ _ _ _ _ _ (Hr.out.below hHeld) Hz4.out (Hrr.out.below hHeld)).mono ?_
 rintro _ v5 ⟨z5, rfl, h, hb⟩
 have HB := Am (bel_t' hHeld hb)
 replace Hz4 := Am (Hz4.out.below hb)
 have Hz5 := Am h
 clear h hb
 clear Hz4
 refine ⟨_, rfl, ?_⟩
 refine hK.out _ _ HB.out (fun hHeld => ?_)
 clear hK K HB
 refine nm 183 ?_
 refine pu 39 4 ?_
 refine done_ (by kernel_rfl) ?_
 go_wp2
 go_ret
 exact ⟨_, rfl, Hz5.out, hHeld⟩
theorem rdo8 (p : Option Addr) (nx : S34) (px : Int) (nl : S34) (pl : Int) (nr : S34) (pr : Int) (nrl : S34) (prl : Int) (nrlr : S34) (prlr : Int) (tll tlr trr trll trlrl trlrr : Tr) (w : World) (h : Rp (fun _ => True) w (.pointer p) (.node nx px (.node nl pl tll tlr) (.node nr pr (.node nrl prl trll (.node nrlr prlr trlrl trlrr)) trr))) :
  Calls Try.prog 55 #[.pointer p, .int .i64 8] w fun e w' => ∃ q, e = .returned (.pointer q) ∧ Rp (fun _ => True) w' (.pointer q) (.node ⟨nr.f0, nr.f1, nx.f2, 0, 0, 0⟩ (-1) (.node ⟨nrl.f0, nrl.f1, 0, 0, 0, 0⟩ (-1) (.node ⟨nx.f0, nx.f1, 1, 0, 0, 0⟩ (-1) (setW (.node nl pl tll tlr) (wrap64 (nl.f2 - 1))) trll) (setW (.node nrlr prlr trlrl trlrr) 1)) trr) ∧ Below w.heap.size w w' := by
 have Hx := Am h
 obtain ⟨bx, vx, ux, e, hx, ax, cx, _⟩ := h
 obtain rfl : p = some ⟨bx, 0, none⟩ := by injection e
 have Hl := Am ax
 obtain ⟨bl, vl, ul, rfl, hl, al, cl, _⟩ := ax
 have Hll := Am al
 obtain ⟨qll, rfl⟩ := al.ptr
 clear al
 have Hlr := Am cl
 obtain ⟨qlr, rfl⟩ := cl.ptr
 clear cl
 have Bl := Am hl
 clear hl
 have Hr := Am cx
 obtain ⟨br, vr, ur, rfl, hr, ar, cr, _⟩ := cx
 have Hrl := Am ar
 obtain ⟨brl, vrl, url, rfl, hrl, arl, crl, _⟩ := ar
 have Hrll := Am arl
 obtain ⟨qrll, rfl⟩ := arl.ptr
 clear arl
 have Hrlr := Am crl
 obtain ⟨brlr, vrlr, urlr, rfl, hrlr, arlr, crlr, _⟩ := crl
 have Hrlrl := Am arlr
 obtain ⟨qrlrl, rfl⟩ := arlr.ptr
 clear arlr
 have Hrlrr := Am crlr
 obtain ⟨qrlrr, rfl⟩ := crlr.ptr
 clear crlr
 have Brlr := Am hrlr
 clear hrlr
 have Brl := Am hrl
 clear hrl
 have Hrr := Am cr
 obtain ⟨qrr, rfl⟩ := cr.ptr
 clear cr
 have Br := Am hr
 clear hr
 have Bx := Am hx
 clear hx
 go_enter Try.func55, Try.ntmps55
 go_wp2
 refine sG 10 (w0 := w) (below_drew (Below.refl _ _)) fun w1 hHeld => ?_
 refine pu 0 10 ?_
 refine pu 1 11 ?_
 refine pu 2 12 ?_
 refine tb 3 13 hHeld (fun _ s => blkB s Bx.out) ?_
 refine pu 4 14 ?_
 refine pu 5 15 ?_
 refine pu 6 16 ?_
 refine tb 7 17 hHeld (fun _ s => blkB s Bx.out) ?_
 refine pu 8 5 ?_
 refine pu 9 6 ?_
 refine done_ (by kernel_rfl) ?_
 go_wp2_with (fail)
 refine (rw_any _ _ _ (Hx.out.below hHeld)).mono ?_
 rintro e _ ⟨he, rfl⟩
 obtain rfl : e = .returned (.int .i64 nx.f2) := he
 obtain ⟨y0, y1, y2, y3, y4, y5, y6, y7, y8⟩ := rd9 (blkB hHeld Br.out)
 go_wp2
 clear y0 y1 y2 y3 y4 y5 y6 y7 y8
 refine sT 26 [] (S := fun W' => Below w.heap.size w W') (below_drew hHeld) fun hH => ?_
 refine gen_any (fun W => Below w.heap.size w W) (below_drew hHeld) (fun w2 k1 => ?_)
 clear hH hHeld
 have hHeld := k1
 clear k1
 refine pu 0 190 ?_
 refine pu 1 191 ?_
 refine pu 2 192 ?_
 refine pu 3 193 ?_
 refine pu 4 194 ?_
 refine pu 5 195 ?_
 refine pu 9 199 ?_
 refine pu 10 200 ?_
 refine pu 11 201 ?_
 refine tb 12 202 hHeld (fun _ s => blkB s Brl.out) ?_
 refine pu 14 204 ?_
 refine pu 15 205 ?_
 refine pu 16 206 ?_
 refine tb 17 207 hHeld (fun _ s => blkB s Brl.out) ?_
 refine pu 20 210 ?_
 refine pu 21 211 ?_
 refine pu 22 212 ?_
 refine tb 23 213 hHeld (fun _ s => blkB s Br.out) ?_
 refine on 6 196 fun K hK => ?_
 refine gO Try.func80 #[.pointer (some ⟨bl, 0, none⟩)] ?_
 refine (rw_any _ _ _ (Hl.out.below hHeld)).mono ?_
 rintro e _ ⟨he, rfl⟩
 obtain rfl : e = .returned (.int .i64 nl.f2) := he
 refine ⟨_, rfl, ?_⟩
 refine hK.out _ _ hHeld (fun hHeld => ?_)
 clear hK K
 refine nm 196 ?_
 refine pu 7 197 ?_
 refine on 8 198 fun K hK => ?_
 refine gO Try.func56 #[.pointer (some ⟨bl, 0, none⟩), .int .i64 (wrap64 (nl.f2 - 1))] ?_
 refine (rwith_any _ nl pl _ _ _ _ (Hl.out.below hHeld)).mono ?_
 rintro _ v1 ⟨z1, rfl, h, hb⟩
 have HB := Am (bel_t' hHeld hb)
 have Hz1 := Am h
 clear h hb
 refine ⟨_, rfl, ?_⟩
 refine hK.out _ _ HB.out (fun hHeld => ?_)
 clear hK K HB
 refine nm 198 ?_
 refine on 13 203 fun K hK => ?_
 refine gO Try.func83 #[.pointer (some ⟨bx, 0, none⟩), .int .i64 1, .pointer z1, .pointer qrll] ?_
 refine (rnode_any _ _ _ nx px _ _ _ _ _ _ (Hx.out.below hHeld) Hz1.out (Hrll.out.below hHeld)).mono ?_
 rintro _ v2 ⟨z2, rfl, h, hb⟩
 have HB := Am (bel_t' hHeld hb)
 replace Hz1 := Am (Hz1.out.below hb)
 have Hz2 := Am h
 clear h hb
 clear Hz1
 refine ⟨_, rfl, ?_⟩
 refine hK.out _ _ HB.out (fun hHeld => ?_)
 clear hK K HB
 refine nm 203 ?_
 refine on 18 208 fun K hK => ?_
 refine gO Try.func56 #[.pointer (some ⟨brlr, 0, none⟩), .int .i64 1] ?_
 refine (rwith_any _ nrlr prlr _ _ _ _ (Hrlr.out.below hHeld)).mono ?_
 rintro _ v3 ⟨z3, rfl, h, hb⟩
 have HB := Am (bel_t' hHeld hb)
 replace Hz2 := Am (Hz2.out.below hb)
 have Hz3 := Am h
 clear h hb
 refine ⟨_, rfl, ?_⟩
 refine hK.out _ _ HB.out (fun hHeld => ?_)
 clear hK K HB
 refine nm 208 ?_
 refine on 19 209 fun K hK => ?_
 refine gO Try.func83 #[.pointer (some ⟨brl, 0, none⟩), .int .i64 0, .pointer z2, .pointer z3] ?_
 refine (rnode_any _ _ _ nrl prl _ _ _ _ _ _ (Hrl.out.below hHeld) Hz2.out Hz3.out).mono ?_
 rintro _ v4 ⟨z4, rfl, h, hb⟩
 have HB := Am (bel_t' hHeld hb)
 replace Hz2 := Am (Hz2.out.below hb)
 replace Hz3 := Am (Hz3.out.below hb)
 have Hz4 := Am h
 clear h hb
 clear Hz2
 clear Hz3
 refine ⟨_, rfl, ?_⟩
 refine hK.out _ _ HB.out (fun hHeld => ?_)
 clear hK K HB
 refine nm 209 ?_
 refine on 24 214 fun K hK => ?_
 refine gO Try.func83 #[.pointer (some ⟨br, 0, none⟩), .int .i64 nx.f2, .pointer z4, .pointer qrr] ?_
 refine (rnode_any _ _ _ nr pr _ _ _ _ _ _ (Hr.out.below hHeld) Hz4.out (Hrr.out.below hHeld)).mono ?_
 rintro _ v5 ⟨z5, rfl, h, hb⟩
 have HB := Am (bel_t' hHeld hb)
 replace Hz4 := Am (Hz4.out.below hb)
 have Hz5 := Am h
 clear h hb
 clear Hz4
 refine ⟨_, rfl, ?_⟩
 refine hK.out _ _ HB.out (fun hHeld => ?_)
 clear hK K HB
 refine nm 214 ?_
 refine pu 25 4 ?_
 refine done_ (by kernel_rfl) ?_
 go_wp2
 go_ret
 exact ⟨_, rfl, Hz5.out, hHeld⟩
theorem rdo9 (p : Option Addr) (nx : S34) (px : Int) (nl : S34) (pl : Int) (nr : S34) (pr : Int) (nrr : S34) (prr : Int) (tll tlr trl trrl trrr : Tr) (w : World) (h : Rp (fun _ => True) w (.pointer p) (.node nx px (.node nl pl tll tlr) (.node nr pr trl (.node nrr prr trrl trrr)))) :
  Calls Try.prog 55 #[.pointer p, .int .i64 9] w fun e w' => ∃ q, e = .returned (.pointer q) ∧ Rp (fun _ => True) w' (.pointer q) (.node ⟨nr.f0, nr.f1, nx.f2, 0, 0, 0⟩ (-1) (.node ⟨nx.f0, nx.f1, 1, 0, 0, 0⟩ (-1) (setW (.node nl pl tll tlr) (wrap64 (nl.f2 - 1))) trl) (setW (.node nrr prr trrl trrr) 1)) ∧ Below w.heap.size w w' := by
 have Hx := Am h
 obtain ⟨bx, vx, ux, e, hx, ax, cx, _⟩ := h
 obtain rfl : p = some ⟨bx, 0, none⟩ := by injection e
 have Hl := Am ax
 obtain ⟨bl, vl, ul, rfl, hl, al, cl, _⟩ := ax
 have Hll := Am al
 obtain ⟨qll, rfl⟩ := al.ptr
 clear al
 have Hlr := Am cl
 obtain ⟨qlr, rfl⟩ := cl.ptr
 clear cl
 have Bl := Am hl
 clear hl
 have Hr := Am cx
 obtain ⟨br, vr, ur, rfl, hr, ar, cr, _⟩ := cx
 have Hrl := Am ar
 obtain ⟨qrl, rfl⟩ := ar.ptr
 clear ar
 have Hrr := Am cr
 obtain ⟨brr, vrr, urr, rfl, hrr, arr, crr, _⟩ := cr
 have Hrrl := Am arr
 obtain ⟨qrrl, rfl⟩ := arr.ptr
 clear arr
 have Hrrr := Am crr
 obtain ⟨qrrr, rfl⟩ := crr.ptr
 clear crr
 have Brr := Am hrr
 clear hrr
 have Br := Am hr
 clear hr
 have Bx := Am hx
 clear hx
 go_enter Try.func55, Try.ntmps55
 go_wp2
 refine sG 10 (w0 := w) (below_drew (Below.refl _ _)) fun w1 hHeld => ?_
 refine pu 0 10 ?_
 refine pu 1 11 ?_
 refine pu 2 12 ?_
 refine tb 3 13 hHeld (fun _ s => blkB s Bx.out) ?_
 refine pu 4 14 ?_
 refine pu 5 15 ?_
 refine pu 6 16 ?_
 refine tb 7 17 hHeld (fun _ s => blkB s Bx.out) ?_
 refine pu 8 5 ?_
 refine pu 9 6 ?_
 refine done_ (by kernel_rfl) ?_
 go_wp2_with (fail)
 refine (rw_any _ _ _ (Hx.out.below hHeld)).mono ?_
 rintro e _ ⟨he, rfl⟩
 obtain rfl : e = .returned (.int .i64 nx.f2) := he
 go_wp2
 refine sT 20 [] (S := fun W' => Below w.heap.size w W') (below_drew hHeld) fun hH => ?_
 refine gen_any (fun W => Below w.heap.size w W) (below_drew hHeld) (fun w2 k1 => ?_)
 clear hH hHeld
 have hHeld := k1
 clear k1
 refine pu 0 217 ?_
 refine pu 1 218 ?_
 refine pu 2 219 ?_
 refine pu 3 220 ?_
 refine pu 4 221 ?_
 refine pu 8 225 ?_
 refine pu 9 226 ?_
 refine pu 10 227 ?_
 refine tb 11 228 hHeld (fun _ s => blkB s Br.out) ?_
 refine pu 13 230 ?_
 refine pu 14 231 ?_
 refine pu 15 232 ?_
 refine tb 16 233 hHeld (fun _ s => blkB s Br.out) ?_
 refine on 5 222 fun K hK => ?_
 refine gO Try.func80 #[.pointer (some ⟨bl, 0, none⟩)] ?_
 refine (rw_any _ _ _ (Hl.out.below hHeld)).mono ?_
 rintro e _ ⟨he, rfl⟩
 obtain rfl : e = .returned (.int .i64 nl.f2) := he
 refine ⟨_, rfl, ?_⟩
 refine hK.out _ _ hHeld (fun hHeld => ?_)
 clear hK K
 refine nm 222 ?_
 refine pu 6 223 ?_
 refine on 7 224 fun K hK => ?_
 refine gO Try.func56 #[.pointer (some ⟨bl, 0, none⟩), .int .i64 (wrap64 (nl.f2 - 1))] ?_
 refine (rwith_any _ nl pl _ _ _ _ (Hl.out.below hHeld)).mono ?_
 rintro _ v1 ⟨z1, rfl, h, hb⟩
 have HB := Am (bel_t' hHeld hb)
 have Hz1 := Am h
 clear h hb
 refine ⟨_, rfl, ?_⟩
 refine hK.out _ _ HB.out (fun hHeld => ?_)
 clear hK K HB
 refine nm 224 ?_
 refine on 12 229 fun K hK => ?_
 refine gO Try.func83 #[.pointer (some ⟨bx, 0, none⟩), .int .i64 1, .pointer z1, .pointer qrl] ?_
 refine (rnode_any _ _ _ nx px _ _ _ _ _ _ (Hx.out.below hHeld) Hz1.out (Hrl.out.below hHeld)).mono ?_
 rintro _ v2 ⟨z2, rfl, h, hb⟩
 have HB := Am (bel_t' hHeld hb)
 replace Hz1 := Am (Hz1.out.below hb)
 have Hz2 := Am h
 clear h hb
 clear Hz1
 refine ⟨_, rfl, ?_⟩
 refine hK.out _ _ HB.out (fun hHeld => ?_)
 clear hK K HB
 refine nm 229 ?_
 refine on 17 234 fun K hK => ?_
 refine gO Try.func56 #[.pointer (some ⟨brr, 0, none⟩), .int .i64 1] ?_
 refine (rwith_any _ nrr prr _ _ _ _ (Hrr.out.below hHeld)).mono ?_
 rintro _ v3 ⟨z3, rfl, h, hb⟩
 have HB := Am (bel_t' hHeld hb)
 replace Hz2 := Am (Hz2.out.below hb)
 have Hz3 := Am h
 clear h hb
 refine ⟨_, rfl, ?_⟩
 refine hK.out _ _ HB.out (fun hHeld => ?_)
 clear hK K HB
 refine nm 234 ?_
 refine on 18 235 fun K hK => ?_
 refine gO Try.func83 #[.pointer (some ⟨br, 0, none⟩), .int .i64 nx.f2, .pointer z2, .pointer z3] ?_
 refine (rnode_any _ _ _ nr pr _ _ _ _ _ _ (Hr.out.below hHeld) Hz2.out Hz3.out).mono ?_
 rintro _ v4 ⟨z4, rfl, h, hb⟩
 have HB := Am (bel_t' hHeld hb)
 replace Hz2 := Am (Hz2.out.below hb)
 replace Hz3 := Am (Hz3.out.below hb)
 have Hz4 := Am h
 clear h hb
 clear Hz2
 clear Hz3
 refine ⟨_, rfl, ?_⟩
 refine hK.out _ _ HB.out (fun hHeld => ?_)
 clear hK K HB
 refine nm 235 ?_
 refine pu 19 4 ?_
 refine done_ (by kernel_rfl) ?_
 go_wp2
 go_ret
 exact ⟨_, rfl, Hz4.out, hHeld⟩
theorem rdo10 (p : Option Addr) (nx : S34) (px : Int) (nl : S34) (pl : Int) (nr : S34) (pr : Int) (nrl : S34) (prl : Int) (tll tlr trr trll trlr : Tr) (w : World) (h : Rp (fun _ => True) w (.pointer p) (.node nx px (.node nl pl tll tlr) (.node nr pr (.node nrl prl trll trlr) trr))) :
  Calls Try.prog 55 #[.pointer p, .int .i64 10] w fun e w' => ∃ q, e = .returned (.pointer q) ∧ Rp (fun _ => True) w' (.pointer q) (.node ⟨nrl.f0, nrl.f1, nx.f2, 0, 0, 0⟩ (-1) (.node ⟨nx.f0, nx.f1, 1, 0, 0, 0⟩ (-1) (setW (.node nl pl tll tlr) (wrap64 (nl.f2 - 1))) trll) (.node ⟨nr.f0, nr.f1, 1, 0, 0, 0⟩ (-1) trlr trr)) ∧ Below w.heap.size w w' := by
 have Hx := Am h
 obtain ⟨bx, vx, ux, e, hx, ax, cx, _⟩ := h
 obtain rfl : p = some ⟨bx, 0, none⟩ := by injection e
 have Hl := Am ax
 obtain ⟨bl, vl, ul, rfl, hl, al, cl, _⟩ := ax
 have Hll := Am al
 obtain ⟨qll, rfl⟩ := al.ptr
 clear al
 have Hlr := Am cl
 obtain ⟨qlr, rfl⟩ := cl.ptr
 clear cl
 have Bl := Am hl
 clear hl
 have Hr := Am cx
 obtain ⟨br, vr, ur, rfl, hr, ar, cr, _⟩ := cx
 have Hrl := Am ar
 obtain ⟨brl, vrl, url, rfl, hrl, arl, crl, _⟩ := ar
 have Hrll := Am arl
 obtain ⟨qrll, rfl⟩ := arl.ptr
 clear arl
 have Hrlr := Am crl
 obtain ⟨qrlr, rfl⟩ := crl.ptr
 clear crl
 have Brl := Am hrl
 clear hrl
 have Hrr := Am cr
 obtain ⟨qrr, rfl⟩ := cr.ptr
 clear cr
 have Br := Am hr
 clear hr
 have Bx := Am hx
 clear hx
 go_enter Try.func55, Try.ntmps55
 go_wp2
 refine sG 10 (w0 := w) (below_drew (Below.refl _ _)) fun w1 hHeld => ?_
 refine pu 0 10 ?_
 refine pu 1 11 ?_
 refine pu 2 12 ?_
 refine tb 3 13 hHeld (fun _ s => blkB s Bx.out) ?_
 refine pu 4 14 ?_
 refine pu 5 15 ?_
 refine pu 6 16 ?_
 refine tb 7 17 hHeld (fun _ s => blkB s Bx.out) ?_
 refine pu 8 5 ?_
 refine pu 9 6 ?_
 refine done_ (by kernel_rfl) ?_
 go_wp2_with (fail)
 refine (rw_any _ _ _ (Hx.out.below hHeld)).mono ?_
 rintro e _ ⟨he, rfl⟩
 obtain rfl : e = .returned (.int .i64 nx.f2) := he
 go_wp2
 refine sT 34 [] (S := fun W' => Below w.heap.size w W') (below_drew hHeld) fun hH => ?_
 refine gen_any (fun W => Below w.heap.size w W) (below_drew hHeld) (fun w2 k1 => ?_)
 clear hH hHeld
 have hHeld := k1
 clear k1
 refine pu 0 238 ?_
 refine pu 1 239 ?_
 refine pu 2 240 ?_
 refine tb 3 241 hHeld (fun _ s => blkB s Br.out) ?_
 refine pu 4 242 ?_
 refine pu 5 243 ?_
 refine pu 6 244 ?_
 refine pu 7 245 ?_
 refine pu 11 249 ?_
 refine pu 12 250 ?_
 refine pu 13 251 ?_
 refine tb 14 252 hHeld (fun _ s => blkB s Br.out) ?_
 refine pu 15 253 ?_
 refine pu 16 254 ?_
 refine tb 17 255 hHeld (fun _ s => blkB s Brl.out) ?_
 refine pu 19 257 ?_
 refine pu 20 258 ?_
 refine pu 21 259 ?_
 refine pu 22 260 ?_
 refine tb 23 261 hHeld (fun _ s => blkB s Br.out) ?_
 refine pu 24 262 ?_
 refine pu 25 263 ?_
 refine tb 26 264 hHeld (fun _ s => blkB s Brl.out) ?_
 refine pu 27 265 ?_
 refine pu 28 266 ?_
 refine pu 29 267 ?_
 refine tb 30 268 hHeld (fun _ s => blkB s Br.out) ?_
 refine on 8 246 fun K hK => ?_
 refine gO Try.func80 #[.pointer (some ⟨bl, 0, none⟩)] ?_
 refine (rw_any _ _ _ (Hl.out.below hHeld)).mono ?_
 rintro e _ ⟨he, rfl⟩
 obtain rfl : e = .returned (.int .i64 nl.f2) := he
 refine ⟨_, rfl, ?_⟩
 refine hK.out _ _ hHeld (fun hHeld => ?_)
 clear hK K
 refine nm 246 ?_
 refine pu 9 247 ?_
 refine on 10 248 fun K hK => ?_
 refine gO Try.func56 #[.pointer (some ⟨bl, 0, none⟩), .int .i64 (wrap64 (nl.f2 - 1))] ?_
 refine (rwith_any _ nl pl _ _ _ _ (Hl.out.below hHeld)).mono ?_
 rintro _ v1 ⟨z1, rfl, h, hb⟩
 have HB := Am (bel_t' hHeld hb)
 have Hz1 := Am h
 clear h hb
 refine ⟨_, rfl, ?_⟩
 refine hK.out _ _ HB.out (fun hHeld => ?_)
 clear hK K HB
 refine nm 248 ?_
 refine on 18 256 fun K hK => ?_
 refine gO Try.func83 #[.pointer (some ⟨bx, 0, none⟩), .int .i64 1, .pointer z1, .pointer qrll] ?_
 refine (rnode_any _ _ _ nx px _ _ _ _ _ _ (Hx.out.below hHeld) Hz1.out (Hrll.out.below hHeld)).mono ?_
 rintro _ v2 ⟨z2, rfl, h, hb⟩
 have HB := Am (bel_t' hHeld hb)
 replace Hz1 := Am (Hz1.out.below hb)
 have Hz2 := Am h
 clear h hb
 clear Hz1
 refine ⟨_, rfl, ?_⟩
 refine hK.out _ _ HB.out (fun hHeld => ?_)
 clear hK K HB
 refine nm 256 ?_
 refine on 31 269 fun K hK => ?_
 refine gO Try.func83 #[.pointer (some ⟨br, 0, none⟩), .int .i64 1, .pointer qrlr, .pointer qrr] ?_
 refine (rnode_any _ _ _ nr pr _ _ _ _ _ _ (Hr.out.below hHeld) (Hrlr.out.below hHeld) (Hrr.out.below hHeld)).mono ?_
 rintro _ v3 ⟨z3, rfl, h, hb⟩
 have HB := Am (bel_t' hHeld hb)
 replace Hz2 := Am (Hz2.out.below hb)
 have Hz3 := Am h
 clear h hb
 refine ⟨_, rfl, ?_⟩
 refine hK.out _ _ HB.out (fun hHeld => ?_)
 clear hK K HB
 refine nm 269 ?_
 refine on 32 270 fun K hK => ?_
 refine gO Try.func83 #[.pointer (some ⟨brl, 0, none⟩), .int .i64 nx.f2, .pointer z2, .pointer z3] ?_
 refine (rnode_any _ _ _ nrl prl _ _ _ _ _ _ (Hrl.out.below hHeld) Hz2.out Hz3.out).mono ?_
 rintro _ v4 ⟨z4, rfl, h, hb⟩
 have HB := Am (bel_t' hHeld hb)
 replace Hz2 := Am (Hz2.out.below hb)
 replace Hz3 := Am (Hz3.out.below hb)
 have Hz4 := Am h
 clear h hb
 clear Hz2
 clear Hz3
 refine ⟨_, rfl, ?_⟩
 refine hK.out _ _ HB.out (fun hHeld => ?_)
 clear hK K HB
 refine nm 270 ?_
 refine pu 33 4 ?_
 refine done_ (by kernel_rfl) ?_
 go_wp2
 go_ret
 exact ⟨_, rfl, Hz4.out, hHeld⟩
theorem rdo11 (p : Option Addr) (nx : S34) (px : Int) (nl : S34) (pl : Int) (nr : S34) (pr : Int) (tll tlr trl trr : Tr) (w : World) (h : Rp (fun _ => True) w (.pointer p) (.node nx px (.node nl pl tll tlr) (.node nr pr trl trr))) :
  Calls Try.prog 55 #[.pointer p, .int .i64 11] w fun e w' => ∃ q, e = .returned (.pointer q) ∧ Rp (fun _ => True) w' (.pointer q) (.node ⟨nx.f0, nx.f1, (wrap64 (nx.f2 + 1)), 0, 0, 0⟩ (-1) (setW (.node nl pl tll tlr) (wrap64 (nl.f2 - 1))) (setW (.node nr pr trl trr) (wrap64 (nr.f2 - 1)))) ∧ Below w.heap.size w w' := by
 have Hx := Am h
 obtain ⟨bx, vx, ux, e, hx, ax, cx, _⟩ := h
 obtain rfl : p = some ⟨bx, 0, none⟩ := by injection e
 have Hl := Am ax
 obtain ⟨bl, vl, ul, rfl, hl, al, cl, _⟩ := ax
 have Hll := Am al
 obtain ⟨qll, rfl⟩ := al.ptr
 clear al
 have Hlr := Am cl
 obtain ⟨qlr, rfl⟩ := cl.ptr
 clear cl
 have Bl := Am hl
 clear hl
 have Hr := Am cx
 obtain ⟨br, vr, ur, rfl, hr, ar, cr, _⟩ := cx
 have Hrl := Am ar
 obtain ⟨qrl, rfl⟩ := ar.ptr
 clear ar
 have Hrr := Am cr
 obtain ⟨qrr, rfl⟩ := cr.ptr
 clear cr
 have Br := Am hr
 clear hr
 have Bx := Am hx
 clear hx
 go_enter Try.func55, Try.ntmps55
 go_wp2
 refine sG 10 (w0 := w) (below_drew (Below.refl _ _)) fun w1 hHeld => ?_
 refine pu 0 10 ?_
 refine pu 1 11 ?_
 refine pu 2 12 ?_
 refine tb 3 13 hHeld (fun _ s => blkB s Bx.out) ?_
 refine pu 4 14 ?_
 refine pu 5 15 ?_
 refine pu 6 16 ?_
 refine tb 7 17 hHeld (fun _ s => blkB s Bx.out) ?_
 refine pu 8 5 ?_
 refine pu 9 6 ?_
 refine done_ (by kernel_rfl) ?_
 go_wp2_with (fail)
 refine (rw_any _ _ _ (Hx.out.below hHeld)).mono ?_
 rintro e _ ⟨he, rfl⟩
 obtain rfl : e = .returned (.int .i64 nx.f2) := he
 go_wp2_with (fail)
 refine (rw_any _ _ _ (Hl.out.below hHeld)).mono ?_
 rintro e _ ⟨he, rfl⟩
 obtain rfl : e = .returned (.int .i64 nl.f2) := he
 go_wp2_with (fail)
 refine (rwith_any _ nl pl _ _ _ _ (Hl.out.below hHeld)).mono ?_
 rintro _ v1 ⟨z1, rfl, h, hb⟩
 have HB := Am (bel_t' hHeld hb)
 have Hz1 := Am h
 clear h hb
 replace hHeld := HB.out
 clear HB
 go_wp2_with (fail)
 refine (rw_any _ _ _ (Hr.out.below hHeld)).mono ?_
 rintro e _ ⟨he, rfl⟩
 obtain rfl : e = .returned (.int .i64 nr.f2) := he
 go_wp2_with (fail)
 refine (rwith_any _ nr pr _ _ _ _ (Hr.out.below hHeld)).mono ?_
 rintro _ v2 ⟨z2, rfl, h, hb⟩
 have HB := Am (bel_t' hHeld hb)
 replace Hz1 := Am (Hz1.out.below hb)
 have Hz2 := Am h
 clear h hb
 replace hHeld := HB.out
 clear HB
 go_wp2_with (fail)
 refine (rnode_any _ _ _ nx px _ _ _ _ _ _ (Hx.out.below hHeld) Hz1.out Hz2.out).mono ?_
 rintro _ v3 ⟨z3, rfl, h, hb⟩
 have HB := Am (bel_t' hHeld hb)
 replace Hz1 := Am (Hz1.out.below hb)
 replace Hz2 := Am (Hz2.out.below hb)
 have Hz3 := Am h
 clear h hb
 clear Hz1
 clear Hz2
 replace hHeld := HB.out
 clear HB
 go_wp2
 go_ret
 exact ⟨_, rfl, Hz3.out, hHeld⟩
theorem rdo12 (p : Option Addr) (nx : S34) (px : Int) (tl tr : Tr) (w : World) (h : Rp (fun _ => True) w (.pointer p) (.node nx px tl tr)) :
  Calls Try.prog 55 #[.pointer p, .int .i64 12] w fun e w' => ∃ q, e = .returned (.pointer q) ∧ Rp (fun _ => True) w' (.pointer q) (setW (.node nx px tl tr) 1) ∧ Below w.heap.size w w' := by
 have Hx := Am h
 obtain ⟨bx, vx, ux, e, hx, ax, cx, _⟩ := h
 obtain rfl : p = some ⟨bx, 0, none⟩ := by injection e
 have Hl := Am ax
 obtain ⟨ql, rfl⟩ := ax.ptr
 clear ax
 have Hr := Am cx
 obtain ⟨qr, rfl⟩ := cx.ptr
 clear cx
 have Bx := Am hx
 clear hx
 go_enter Try.func55, Try.ntmps55
 go_wp2
 refine sG 10 (w0 := w) (below_drew (Below.refl _ _)) fun w1 hHeld => ?_
 refine pu 0 10 ?_
 refine pu 1 11 ?_
 refine pu 2 12 ?_
 refine tb 3 13 hHeld (fun _ s => blkB s Bx.out) ?_
 refine pu 4 14 ?_
 refine pu 5 15 ?_
 refine pu 6 16 ?_
 refine tb 7 17 hHeld (fun _ s => blkB s Bx.out) ?_
 refine pu 8 5 ?_
 refine pu 9 6 ?_
 refine done_ (by kernel_rfl) ?_
 go_wp2_with (fail)
 refine (rw_any _ _ _ (Hx.out.below hHeld)).mono ?_
 rintro e _ ⟨he, rfl⟩
 obtain rfl : e = .returned (.int .i64 nx.f2) := he
 go_wp2_with (fail)
 refine (rwith_any _ nx px _ _ _ _ (Hx.out.below hHeld)).mono ?_
 rintro _ v1 ⟨z1, rfl, h, hb⟩
 have HB := Am (bel_t' hHeld hb)
 have Hz1 := Am h
 clear h hb
 replace hHeld := HB.out
 clear HB
 go_wp2
 go_ret
 exact ⟨_, rfl, Hz1.out, hHeld⟩
section
def greatT : Tr → Bool
 | .nil => false
 | .node n _ l r => decide (n.f2 > 1000000) || greatT l || greatT r
def insT (a : Int) (Y : Tr) : Tr → Tr
 | .nil => .nil
 | .node n p l r => if p = a then Y else .node n p (insT a Y l) (insT a Y r)
variable {S : Nat → Prop}
theorem rgreat_any : ∀ (T : Tr) (v : Value) (w : World), Rp S w v T → Calls Try.prog 57 #[v] w fun e w' => e = .returned (.bool (greatT T)) ∧ w' = w
 | .nil, v, w, h => by
  obtain rfl := h
  rw [greatT]
  go_enter Try.func57, Try.ntmps57
  go_wp2
  go_ret
  exact ⟨rfl, rfl⟩
 | .node n p l r, v, w, h => by
  obtain ⟨b, vl, vr, rfl, hb, hl, hr, _⟩ := h
  obtain ⟨ql, rfl⟩ := hl.ptr
  obtain ⟨qr, rfl⟩ := hr.ptr
  have HL := Am hl
  have HR := Am hr
  obtain ⟨z0, z1, z2, z3, z4, z5, z6, z7, z8⟩ := rd9 hb
  clear hb hl hr
  rw [greatT]
  cases q1 : decide (n.f2 > 1000000) with
  | true =>
   rw [Bool.true_or, Bool.true_or]
   go_enter Try.func57, Try.ntmps57
   go_wp2
   go_ret
   exact ⟨rfl, rfl⟩
  | false =>
   rw [Bool.false_or]
   cases q2 : greatT l with
   | true =>
    rw [Bool.true_or]
    go_enter Try.func57, Try.ntmps57
    go_wp2_with (fail)
    refine (rgreat_any l _ _ HL.out).mono ?_
    rintro e _ ⟨he, rfl⟩
    rw [q2] at he
    subst he
    go_wp2
    go_ret
    exact ⟨rfl, rfl⟩
   | false =>
    rw [Bool.false_or]
    go_enter Try.func57, Try.ntmps57
    go_wp2_with (fail)
    refine (rgreat_any l _ _ HL.out).mono ?_
    rintro e _ ⟨he, rfl⟩
    rw [q2] at he
    subst he
    go_wp2_with (fail)
    refine (rgreat_any r _ _ HR.out).mono ?_
    rintro _ _ ⟨rfl, rfl⟩
    go_wp2
    go_ret
    exact ⟨rfl, rfl⟩
theorem rinstead_any (a : Int) (y : Option Addr) (Y : Tr) : ∀ (T : Tr) (v : Value) (w : World), Rp (fun _ => True) w v T → Rp (fun _ => True) w (.pointer y) Y → Calls Try.prog 58 #[v, .int .i64 a, .pointer y] w fun e w' => ∃ q, e = .returned (.pointer q) ∧ Rp (fun _ => True) w' (.pointer q) (insT a Y T) ∧ Below w.heap.size w w'
 | .nil, v, w, h, hy => by
  obtain rfl := h
  go_enter Try.func58, Try.ntmps58
  go_wp2
  go_ret
  exact ⟨_, rfl, rfl, Below.refl _ _⟩
 | .node n p l r, v, w, h, hy => by
  obtain ⟨b, vl, vr, rfl, hb, hl, hr, _⟩ := h
  obtain ⟨ql, rfl⟩ := hl.ptr
  obtain ⟨qr, rfl⟩ := hr.ptr
  have HL := Am hl
  have HR := Am hr
  have HY := Am hy
  have HB := Am hb
  obtain ⟨z0, z1, z2, z3, z4, z5, z6, z7, z8⟩ := rd9 hb
  clear hb hl hr hy
  rw [insT]
  by_cases hp : p = a
  ·have q1 : (p == a) = true := by simpa using hp
   rw [if_pos hp]
   clear HB HL HR hp
   go_enter Try.func58, Try.ntmps58
   go_wp2
   go_ret
   exact ⟨_, rfl, HY.out, Below.refl _ _⟩
  ·have q1 : (p == a) = false := by simpa using hp
   rw [if_neg hp]
   clear hp
   go_enter Try.func58, Try.ntmps58
   go_wp2
   clear z0 z1 z2 z3 z4 z5 z6 z7 z8
   refine sG 25 (w0 := w) (below_drew (Below.refl _ _)) fun w2 hHeld => ?_
   refine pu 0 16 ?_
   refine pu 1 17 ?_
   refine pu 2 18 ?_
   refine tb 3 19 hHeld (fun _ s => blkB s HB.out) ?_
   refine pu 4 20 ?_
   refine pu 5 21 ?_
   refine pu 6 22 ?_
   refine tb 7 23 hHeld (fun _ s => blkB s HB.out) ?_
   refine pu 8 24 ?_
   refine pu 9 25 ?_
   refine pu 11 27 ?_
   refine pu 12 28 ?_
   refine pu 13 29 ?_
   refine tb 14 30 hHeld (fun _ s => blkB s HB.out) ?_
   refine pu 15 31 ?_
   refine pu 16 32 ?_
   refine pu 18 34 ?_
   refine pu 19 35 ?_
   refine pu 20 36 ?_
   refine tb 21 37 hHeld (fun _ s => blkB s HB.out) ?_
   refine on 10 26 fun K hK => ?_
   refine gO Try.func58 #[.pointer ql, .int .i64 a, .pointer y] ?_
   refine (rinstead_any a y Y l _ _ (HL.out.below hHeld) (HY.out.below hHeld)).mono ?_
   rintro _ w3 ⟨x1, rfl, h1, hb1⟩
   have H1 := Am h1
   have HB2 := Am (bel_t' hHeld hb1)
   clear h1 hb1
   refine ⟨_, rfl, ?_⟩
   refine hK.out _ _ HB2.out (fun hHeld => ?_)
   clear hK K HB2
   refine nm 26 ?_
   refine on 17 33 fun K hK => ?_
   refine gO Try.func58 #[.pointer qr, .int .i64 a, .pointer y] ?_
   refine (rinstead_any a y Y r _ _ (HR.out.below hHeld) (HY.out.below hHeld)).mono ?_
   rintro _ w4 ⟨x2, rfl, h2, hb2⟩
   have H2 := Am h2
   have H1' := Am (H1.out.below hb2)
   have HB2 := Am (bel_t' hHeld hb2)
   clear h2 hb2 H1
   refine ⟨_, rfl, ?_⟩
   refine hK.out _ _ HB2.out (fun hHeld => ?_)
   clear hK K HB2
   refine nm 33 ?_
   refine pu 22 38 ?_
   refine on 23 39 fun K hK => ?_
   refine box_step (by rfl) (N := 39) rfl (cs := rdC n p (.pointer x1) (.pointer x2)) (t := 107) ?hr ?_
   case hr => first | (go_simp; done) | (go_simp; rfl)
   intro g hg w5 k5 b5
   subst hg
   have HF := Am (And.intro k5 (And.intro (H1'.out.below b5) (And.intro (H2.out.below b5) (bel_t' hHeld b5))))
   clear k5 b5 H1' H2
   refine hK.out _ _ HF.out.2.2.2 (fun hHeld => ?_)
   clear hK K
   refine nm 39 ?_
   refine pu 24 6 ?_
   refine done_ (by kernel_rfl) ?_
   go_wp2
   go_ret
   exact ⟨_, rfl, ⟨_, _, _, rfl, HF.out.1, HF.out.2.1, HF.out.2.2.1, trivial⟩, hHeld⟩
end
def layT : Tr → Nat → List S34
 | .nil, _ => []
 | .node n _ .nil _, _ => [⟨n.f0, n.f1, n.f2, n.f3, -1, -1⟩]
 | .node n _ (.node n' p' l' r') r, a => ⟨n.f0, n.f1, n.f2, n.f3, a + 1, a + 1 + sizeT (.node n' p' l' r')⟩ :: (layT (.node n' p' l' r') (a + 1) ++ layT r (a + 1 + sizeT (.node n' p' l' r')))
theorem R_ptr {W : World} {base : Nat} {ok : Nat → Prop} {v : Value} {xs : List S34} (h : Kd.R k34 34 W base ok v xs) (hne : xs ≠ []) : ∃ g c, v = .slice (some ⟨g, 0, none⟩) xs.length c ∧ base ≤ g ∧ ∃ cs, W.heap[g]? = some (.cells cs 34 (0, 0)) := by
 obtain ⟨h1, cs, h2, h3, h4⟩ := h
 rcases h2.2 with ⟨rfl, h⟩ | ⟨g, c, cur, rfl, hg, hh, _⟩
 ·exact absurd (List.eq_nil_of_length_eq_zero h) hne
 ·exact ⟨g, c, rfl, hg, cur, hh⟩
theorem getD_snoc (xs : List S34) (n : S34) : (xs ++ [n]).getD xs.length z34 = n := by simp [List.getD]
theorem R_c45 {W : World} {base : Nat} {ok : Nat → Prop} {g c : Nat} {xs : List S34} (h : Kd.R k34 34 W base ok (.slice (some ⟨g, 0, none⟩) xs.length c) xs) {i : Nat} (hi : i < xs.length) :
  (∀ j u, ([.int .i64 (xs.getD i z34).f0, .int .i64 (xs.getD i z34).f1, .int .i64 (xs.getD i z34).f2, .int .i64 (xs.getD i z34).f3, .int .i64 (xs.getD i z34).f4, .int .i64 (xs.getD i z34).f5] : List Value)[j]? = some u → W.cell? ⟨g, i * 6 + j, none⟩ = some u) := by
 obtain ⟨ad, e, y0, y1, y2, y3, y4, y5⟩ := at_T34 (Kd.R_reads' h).2.2 (i : Int) (by omega) (by omega)
 obtain rfl : ad = ⟨g, 0, none⟩ := by injection e with e; exact e.symm
 rw [Int.toNat_natCast, show rd_T34 xs (i : Int) = xs.getD i z34 from rfl] at y0 y1 y2 y3 y4 y5
 have ea : (⟨g, 0, none⟩ : Addr).add (i * 6) = ⟨g, i * 6, none⟩ := by
  unfold Addr.add
  split
  ·rename_i h; rw [h]
  ·simp
 rw [ea] at y0 y1 y2 y3 y4 y5
 intro j u hj
 match j, hj with
 | 0, hj => rw [← (Option.some.inj hj)]; exact y0
 | 1, hj => rw [← (Option.some.inj hj)]; exact y1
 | 2, hj => rw [← (Option.some.inj hj)]; exact y2
 | 3, hj => rw [← (Option.some.inj hj)]; exact y3
 | 4, hj => rw [← (Option.some.inj hj)]; exact y4
 | 5, hj => rw [← (Option.some.inj hj)]; exact y5
 | j + 6, hj => simp at hj
theorem snoc45 {W : World} {base : Nat} {ok : Nat → Prop} {g c : Nat} {xs : List S34} {n : S34} (h : Kd.R k34 34 W base ok (.slice (some ⟨g, 0, none⟩) (xs ++ [n]).length c) (xs ++ [n])) : W.cell? ⟨g, xs.length * 6 + 4, none⟩ = some (.int .i64 n.f4) ∧ W.cell? ⟨g, xs.length * 6 + 5, none⟩ = some (.int .i64 n.f5) := by
 have hi : xs.length < (xs ++ [n]).length := by simp
 have h4 := R_c45 h hi 4 _ rfl
 have h5 := R_c45 h hi 5 _ rfl
 rw [getD_snoc] at h4 h5
 exact ⟨h4, h5⟩
theorem R_f4 {W w0 : World} {g c : Nat} {xs : List S34} (h : Kd.R k34 34 W w0.heap.size (fun _ => True) (.slice (some ⟨g, 0, none⟩) xs.length c) xs) (hb : Below w0.heap.size w0 W) {i : Nat} (hi : i < xs.length) (x : Int) :
  Kd.R k34 34 (W.setCell ⟨g, i * 6 + 4, none⟩ (.int .i64 x)) w0.heap.size (fun _ => True) (.slice (some ⟨g, 0, none⟩) xs.length c) (xs.set i ⟨(xs.getD i z34).f0, (xs.getD i z34).f1, (xs.getD i z34).f2, (xs.getD i z34).f3, x, (xs.getD i z34).f5⟩) ∧ Below w0.heap.size w0 (W.setCell ⟨g, i * 6 + 4, none⟩ (.int .i64 x)) := by
 obtain ⟨h1, h2⟩ := Kd.R_seg (seg := [.int .i64 x]) (j := 4) (okp := fun _ => False) (x' := ⟨(xs.getD i z34).f0, (xs.getD i z34).f1, (xs.getD i z34).f2, (xs.getD i z34).f3, x, (xs.getD i z34).f5⟩) h (i : Int) (by omega) (by omega) (c := [.int .i64 (xs.getD i z34).f0, .int .i64 (xs.getD i z34).f1, .int .i64 (xs.getD i z34).f2, .int .i64 (xs.getD i z34).f3, .int .i64 (xs.getD i z34).f4, .int .i64 (xs.getD i z34).f5]) rfl (R_c45 h hi) (by show _ + 1 ≤ 6; omega) (k34_mkM _ _ _ _) (fun k hk => hk.elim)
 rw [Int.toNat_natCast] at h1
 exact ⟨h1, below_set hb (Kd.R_base h g (by simp [Value.ownBlock]))⟩
theorem R_f5 {W w0 : World} {g c : Nat} {xs : List S34} (h : Kd.R k34 34 W w0.heap.size (fun _ => True) (.slice (some ⟨g, 0, none⟩) xs.length c) xs) (hb : Below w0.heap.size w0 W) {i : Nat} (hi : i < xs.length) (x : Int) :
  Kd.R k34 34 (W.setCell ⟨g, i * 6 + 5, none⟩ (.int .i64 x)) w0.heap.size (fun _ => True) (.slice (some ⟨g, 0, none⟩) xs.length c) (xs.set i ⟨(xs.getD i z34).f0, (xs.getD i z34).f1, (xs.getD i z34).f2, (xs.getD i z34).f3, (xs.getD i z34).f4, x⟩) ∧ Below w0.heap.size w0 (W.setCell ⟨g, i * 6 + 5, none⟩ (.int .i64 x)) := by
 obtain ⟨h1, h2⟩ := Kd.R_seg (seg := [.int .i64 x]) (j := 5) (okp := fun _ => False) (x' := ⟨(xs.getD i z34).f0, (xs.getD i z34).f1, (xs.getD i z34).f2, (xs.getD i z34).f3, (xs.getD i z34).f4, x⟩) h (i : Int) (by omega) (by omega) (c := [.int .i64 (xs.getD i z34).f0, .int .i64 (xs.getD i z34).f1, .int .i64 (xs.getD i z34).f2, .int .i64 (xs.getD i z34).f3, .int .i64 (xs.getD i z34).f4, .int .i64 (xs.getD i z34).f5]) rfl (R_c45 h hi) (by show _ + 1 ≤ 6; omega) (k34_mkM _ _ _ _) (fun k hk => hk.elim)
 rw [Int.toNat_natCast] at h1
 exact ⟨h1, below_set hb (Kd.R_base h g (by simp [Value.ownBlock]))⟩
theorem snoc_len {W w0 : World} {g c : Nat} {xs : List S34} {n : S34} (h : Kd.R k34 34 W w0.heap.size (fun _ => True) (.slice (some ⟨g, 0, none⟩) (xs ++ [n]).length c) (xs ++ [n])) : Kd.R k34 34 W w0.heap.size (fun _ => True) (.slice (some ⟨g, 0, none⟩) (xs.length + 1) c) (xs ++ [n]) := by
 rwa [show (xs ++ [n]).length = xs.length + 1 by simp] at h
theorem getD_mid (xs ys : List S34) (m : S34) : (xs ++ m :: ys).getD xs.length z34 = m := by simp [List.getD]
theorem set_mid (xs ys : List S34) (m k : S34) : (xs ++ m :: ys).set xs.length k = xs ++ k :: ys := by simp
theorem R_g4 {W w0 : World} {g c L : Nat} {xs ys : List S34} {m : S34} (h : Kd.R k34 34 W w0.heap.size (fun _ => True) (.slice (some ⟨g, 0, none⟩) L c) (xs ++ m :: ys)) (hb : Below w0.heap.size w0 W) (x : Int) :
  Kd.R k34 34 (W.setCell ⟨g, xs.length * 6 + 4, none⟩ (.int .i64 x)) w0.heap.size (fun _ => True) (.slice (some ⟨g, 0, none⟩) L c) (xs ++ ⟨m.f0, m.f1, m.f2, m.f3, x, m.f5⟩ :: ys) ∧ Below w0.heap.size w0 (W.setCell ⟨g, xs.length * 6 + 4, none⟩ (.int .i64 x)) := by
 obtain rfl := (Kd.R_reads' h).1
 obtain ⟨h1, h2⟩ := R_f4 h hb (i := xs.length) (by simp) x
 rw [getD_mid, set_mid] at h1
 exact ⟨h1, h2⟩
theorem R_g5 {W w0 : World} {g c L : Nat} {xs ys : List S34} {m : S34} (h : Kd.R k34 34 W w0.heap.size (fun _ => True) (.slice (some ⟨g, 0, none⟩) L c) (xs ++ m :: ys)) (hb : Below w0.heap.size w0 W) (x : Int) :
  Kd.R k34 34 (W.setCell ⟨g, xs.length * 6 + 5, none⟩ (.int .i64 x)) w0.heap.size (fun _ => True) (.slice (some ⟨g, 0, none⟩) L c) (xs ++ ⟨m.f0, m.f1, m.f2, m.f3, m.f4, x⟩ :: ys) ∧ Below w0.heap.size w0 (W.setCell ⟨g, xs.length * 6 + 5, none⟩ (.int .i64 x)) := by
 obtain rfl := (Kd.R_reads' h).1
 obtain ⟨h1, h2⟩ := R_f5 h hb (i := xs.length) (by simp) x
 rw [getD_mid, set_mid] at h1
 exact ⟨h1, h2⟩
theorem lay_len : ∀ {T : Tr} (a : Nat), TwoT T → (layT T a).length = sizeT T
 | .nil, _, _ => rfl
 | .node n p .nil r, a, h => by
  obtain rfl := h.1.1 rfl
  rfl
 | .node n p (.node n' p' l' r') r, a, h => by
  rw [layT, List.length_cons, List.length_append, lay_len _ h.2.1, lay_len _ h.2.2]
  simp only [sizeT]
  omega
theorem rlay_any (w0 : World) : ∀ (T : Tr) (p : Option Addr) (v : Value) (xs : List S34) (w : World), TwoT T → T ≠ .nil → Rp (fun _ => True) w0 (.pointer p) T → Below w0.heap.size w0 w → Kd.R k34 34 w w0.heap.size (fun _ => True) v xs → xs.length + sizeT T ≤ 1000000 →
  Calls Try.prog 60 #[.pointer p, v] w fun e w' => ∃ v', e = .returned v' ∧ Kd.R k34 34 w' w0.heap.size (fun _ => True) v' (xs ++ layT T xs.length) ∧ Below w0.heap.size w0 w'
 | .nil, p, v, xs, w, _, hne, _, _, _, _ => absurd rfl hne
 | .node n pl l r, p, v, xs, w, h2, _, h, hw, ho, hlen => by
  obtain ⟨b, vl, vr, e, hb, hl, hr, _⟩ := h
  obtain rfl : p = some ⟨b, 0, none⟩ := by injection e
  obtain ⟨ql, rfl⟩ := hl.ptr
  obtain ⟨qr, rfl⟩ := hr.ptr
  have HL := Am hl
  have HR := Am hr
  have HB := Am hb
  have HW := Am hw
  have HO := Am ho
  have HLN := Am hlen
  have H2 := Am h2
  obtain ⟨z0, z1, z2, z3, z4, z5, z6, z7, z8⟩ := rd9 (blkB hw hb)
  clear hb hl hr hw ho hlen h2
  obtain ⟨A, cap, rfl⟩ := Kd.R_slice HO.out
  have hsz : ∀ T : Tr, 0 ≤ sizeT T := fun _ => Nat.zero_le _
  cases l with
  | nil =>
   obtain rfl := H2.out.1.1 rfl
   obtain rfl : ql = none := by injection HL.out
   go_enter Try.func60, Try.ntmps60
   go_wp2_with (first | ((with_reducible refine gate_builtin (b := .append) (xs := #[.tmp 8, .tmp 13]) rfl ?_); at_builtin; refine Kd.R_append k34 (w0 := w0) w0.heap.size rfl (.tmp 8) (.tmp 13) 22 34 (.agg #[(.int .i64 0), (.int .i64 0), (.int .i64 0), (.int .i64 0), (.int .i64 0), (.int .i64 0)]) 48 rfl Try.underlying22 info34 rfl (by decide) (by omega) (.slice A xs.length cap) xs n [.int .i64 n.f0, .int .i64 n.f1, .int .i64 n.f2, .int .i64 n.f3, .int .i64 n.f4, .int .i64 n.f5] (fun _ => True) (fun _ => False) rfl rfl ?aP (fun _ hk => hk.elim) ?aF ?aO ?aB ?aS ?aL ?_; (case aP => exact k34_mkM _ _ _ n); (case aB => exact HW.out); (case aF => exact (fun _ _ => trivial)); (case aO => exact HO.out); (case aS => exact (below_size HW.out)); (case aL => have := HLN.out; omega); intro vN wN hoN hbN hgN hatN; obtain ⟨g, cap1, rfl, hgb, cs, hgc⟩ := R_ptr hoN (by simp); have hne : b ≠ g := (by have := blk_lt HB.out; omega); have hne' : g ≠ b := (by have := blk_lt HB.out; omega); have x6 := (rd9 (blkB hbN HB.out)).2.2.2.2.2.2.1; have x7 := (rd9 (blkB hbN HB.out)).2.2.2.2.2.2.2.1; have y4 := (snoc45 hoN).1; have y5 := (snoc45 hoN).2; have f4 := frz_of hgc (xs.length * 6 + 4); have f5 := frz_of hgc (xs.length * 6 + 5); have HoN := Am hoN; have HbN := Am hbN; clear hoN hbN hgN hatN hgb hgc))
   go_ret
   obtain ⟨r1, b1⟩ := R_g4 (ys := []) (snoc_len HoN.out) HbN.out (-1)
   obtain ⟨r2, b2⟩ := R_g5 r1 b1 (-1)
   exact ⟨_, rfl, r2, b2⟩
  | node nl pll ll lr =>
   obtain ⟨al, e⟩ := HL.out.some (by simp)
   obtain rfl : ql = some al := by injection e
   go_enter Try.func60, Try.ntmps60
   go_wp2_with (first | ((with_reducible refine gate_builtin (b := .append) (xs := #[.tmp 8, .tmp 13]) rfl ?_); at_builtin; refine Kd.R_append k34 (w0 := w0) w0.heap.size rfl (.tmp 8) (.tmp 13) 22 34 (.agg #[(.int .i64 0), (.int .i64 0), (.int .i64 0), (.int .i64 0), (.int .i64 0), (.int .i64 0)]) 48 rfl Try.underlying22 info34 rfl (by decide) (by omega) (.slice A xs.length cap) xs n [.int .i64 n.f0, .int .i64 n.f1, .int .i64 n.f2, .int .i64 n.f3, .int .i64 n.f4, .int .i64 n.f5] (fun _ => True) (fun _ => False) rfl rfl ?aP (fun _ hk => hk.elim) ?aF ?aO ?aB ?aS ?aL ?_; (case aP => exact k34_mkM _ _ _ n); (case aB => exact HW.out); (case aF => exact (fun _ _ => trivial)); (case aO => exact HO.out); (case aS => exact (below_size HW.out)); (case aL => have := HLN.out; omega); intro vN wN hoN hbN hgN hatN; obtain ⟨g, cap1, rfl, hgb, cs, hgc⟩ := R_ptr hoN (by simp); have hne : b ≠ g := (by have := blk_lt HB.out; omega); have hne' : g ≠ b := (by have := blk_lt HB.out; omega); have x6 := (rd9 (blkB hbN HB.out)).2.2.2.2.2.2.1; have x7 := (rd9 (blkB hbN HB.out)).2.2.2.2.2.2.2.1; have y4 := (snoc45 hoN).1; have y5 := (snoc45 hoN).2; have f4 := frz_of hgc (xs.length * 6 + 4); have f5 := frz_of hgc (xs.length * 6 + 5); have HoN := Am hoN; have HbN := Am hbN; clear hoN hbN hgN hatN hgb hgc))
   obtain ⟨r1, b1⟩ := R_g4 (ys := []) (snoc_len HoN.out) HbN.out (-1)
   obtain ⟨r2, b2⟩ := R_g5 r1 b1 (-1)
   obtain ⟨r3, b3⟩ := R_g4 r2 b2 (xs.length + 1)
   have RR := Am r3
   have BB := Am b3
   clear r1 b1 r2 b2 r3 b3 y4 y5 f4 f5 x6 x7 hne hne' z0 z1 z2 z3 z4 z5 z6 z7 z8
   have hl1 := HLN.out
   simp only [sizeT] at hl1
   refine (rlay_any w0 (.node nl pll ll lr) _ _ (xs ++ [⟨n.f0, n.f1, n.f2, n.f3, xs.length + 1, -1⟩]) _ H2.out.2.1 (by simp) HL.out BB.out RR.out (by simp only [List.length_append, List.length_singleton, sizeT]; omega)).mono ?_
   rintro _ w2 ⟨v2, rfl, ho2, hb2⟩
   rw [show (xs ++ [(⟨n.f0, n.f1, n.f2, n.f3, xs.length + 1, -1⟩ : S34)]).length = xs.length + 1 by simp, List.append_assoc, List.singleton_append] at ho2
   obtain ⟨g2, c2, rfl, hg2, cs2, hc2⟩ := R_ptr ho2 (by simp)
   obtain ⟨N, hN⟩ : ∃ N, (xs ++ (⟨n.f0, n.f1, n.f2, n.f3, xs.length + 1, -1⟩ : S34) :: layT (.node nl pll ll lr) (xs.length + 1)).length = N := ⟨_, rfl⟩
   have hN2 : N = xs.length + 1 + sizeT (.node nl pll ll lr) := by
    rw [← hN, List.length_append, List.length_cons, lay_len _ H2.out.2.1]
    omega
   have y5 := R_c45 ho2 (i := xs.length) (by simp) 5 _ rfl
   rw [getD_mid] at y5
   rw [hN] at ho2 ⊢
   have f5 := frz_of hc2 (xs.length * 6 + 5)
   have hne : b ≠ g2 := by have := blk_lt HB.out; omega
   have hne' : g2 ≠ b := fun e => hne e.symm
   have x7 := (rd9 (blkB hb2 HB.out)).2.2.2.2.2.2.2.1
   have p1 : ((xs.length : Int) < (N : Int)) = True := eq_true (by omega)
   have p3 : (xs.length < N) = True := eq_true (by omega)
   have p2 : (0 ≤ (xs.length : Int)) = True := eq_true (by omega)
   have hrn : r ≠ .nil := fun e => by have := H2.out.1.2 e; cases this
   obtain ⟨ar, e⟩ := HR.out.some hrn
   obtain rfl : qr = some ar := by injection e
   obtain ⟨r4, b4⟩ := R_g5 ho2 hb2 N
   have RR2 := Am r4
   have BB2 := Am b4
   have HN2 := Am hN2
   have HRN := Am hrn
   have HNL := Am hN
   clear r4 b4 ho2 hb2 hg2 hc2 hN hN2 hl1 HoN HbN RR BB
   go_wp2_with (fail)
   have hl1 := HLN.out
   simp only [sizeT] at hl1
   have hl2 := HN2.out
   simp only [sizeT] at hl2
   have hl3 : (xs ++ (⟨n.f0, n.f1, n.f2, n.f3, xs.length + 1, N⟩ : S34) :: layT (.node nl pll ll lr) (xs.length + 1)).length = N := by
    rw [← HNL.out, List.length_append, List.length_append, List.length_cons, List.length_cons]
   refine (rlay_any w0 r _ _ _ _ H2.out.2.2 HRN.out HR.out BB2.out RR2.out (by rw [hl3]; omega)).mono ?_
   rintro _ w3 ⟨v3, rfl, ho3, hb3⟩
   rw [hl3] at ho3
   have HO3 := Am ho3
   have HB3 := Am hb3
   clear ho3 hb3 hl1 hl2 hl3
   go_wp2
   go_ret
   refine ⟨_, rfl, ?_, HB3.out⟩
   have h := HO3.out
   rw [HN2.out, List.append_assoc, List.cons_append] at h
   rw [layT]
   push_cast at h
   exact h
theorem rdoa1 (rt : Bool) (p : Option Addr) (T : Tr) (w : World) (h : Rp (fun _ => True) w (.pointer p) T) (hT : T ≠ .nil) (h0 : allT (fun n => n.f1 = 0) T) (hc : canT false rt T 1 = true) :
  Calls Try.prog 55 #[.pointer p, .int .i64 1] w fun e w' => ∃ q Y, e = .returned (.pointer q) ∧ Rp (fun _ => True) w' (.pointer q) Y ∧ nT Y = nT (doT false T 1) ∧ Below w.heap.size w w' := by
 cases T with
 | nil => exact absurd rfl hT
 | node nx px tl tr =>
  cases tl with
  | nil => simp [canT, can1, lT, rT, wt, innerB] at hc
  | node nl pl tll tlr =>
   cases tr with
   | nil => simp [canT, can1, lT, rT, wt, innerB] at hc
   | node nr pr trl trr =>
    simp only [allT] at h0
    refine (rdo1 p nx px nl pl nr pr tll tlr trl trr w h).mono ?_
    rintro e w' ⟨q, rfl, h1, h2⟩
    exact ⟨q, _, rfl, h1, by simp [nT, doT, do1, putT, asT, lessT, keyT, setW, lT, rT, wt, h0], h2⟩
theorem rdoa2 (rt : Bool) (p : Option Addr) (T : Tr) (w : World) (h : Rp (fun _ => True) w (.pointer p) T) (hT : T ≠ .nil) (h0 : allT (fun n => n.f1 = 0) T) (hc : canT false rt T 2 = true) :
  Calls Try.prog 55 #[.pointer p, .int .i64 2] w fun e w' => ∃ q Y, e = .returned (.pointer q) ∧ Rp (fun _ => True) w' (.pointer q) Y ∧ nT Y = nT (doT false T 2) ∧ Below w.heap.size w w' := by
 cases T with
 | nil => exact absurd rfl hT
 | node nx px tl tr =>
  cases tl with
  | nil => simp [canT, can2, lT, rT, wt, innerB] at hc
  | node nl pl tll tlr =>
   simp only [allT] at h0
   refine (rdo2 p nx px nl pl tr tll tlr w h).mono ?_
   rintro e w' ⟨q, rfl, h1, h2⟩
   exact ⟨q, _, rfl, h1, by simp [nT, doT, do2, putT, asT, lessT, keyT, setW, lT, rT, wt, h0], h2⟩
theorem rdoa3 (rt : Bool) (p : Option Addr) (T : Tr) (w : World) (h : Rp (fun _ => True) w (.pointer p) T) (hT : T ≠ .nil) (h0 : allT (fun n => n.f1 = 0) T) (hc : canT false rt T 3 = true) :
  Calls Try.prog 55 #[.pointer p, .int .i64 3] w fun e w' => ∃ q Y, e = .returned (.pointer q) ∧ Rp (fun _ => True) w' (.pointer q) Y ∧ nT Y = nT (doT false T 3) ∧ Below w.heap.size w w' := by
 cases T with
 | nil => exact absurd rfl hT
 | node nx px tl tr =>
  cases tl with
  | nil => simp [canT, can3, lT, rT, wt, innerB] at hc
  | node nl pl tll tlr =>
   cases tlr with
   | nil => simp [canT, can3, lT, rT, wt, innerB] at hc
   | node nlr plr tlrl tlrr =>
    simp only [allT] at h0
    refine (rdo3 p nx px nl pl nlr plr tr tll tlrl tlrr w h).mono ?_
    rintro e w' ⟨q, rfl, h1, h2⟩
    exact ⟨q, _, rfl, h1, by simp [nT, doT, do3, putT, asT, lessT, keyT, setW, lT, rT, wt, h0], h2⟩
theorem rdoa4 (rt : Bool) (p : Option Addr) (T : Tr) (w : World) (h : Rp (fun _ => True) w (.pointer p) T) (hT : T ≠ .nil) (h0 : allT (fun n => n.f1 = 0) T) (hc : canT false rt T 4 = true) :
  Calls Try.prog 55 #[.pointer p, .int .i64 4] w fun e w' => ∃ q Y, e = .returned (.pointer q) ∧ Rp (fun _ => True) w' (.pointer q) Y ∧ nT Y = nT (doT false T 4) ∧ Below w.heap.size w w' := by
 cases T with
 | nil => exact absurd rfl hT
 | node nx px tl tr =>
  cases tl with
  | nil => simp [canT, can4, lT, rT, wt, innerB] at hc
  | node nl pl tll tlr =>
   cases tr with
   | nil => simp [canT, can4, lT, rT, wt, innerB] at hc
   | node nr pr trl trr =>
    simp only [allT] at h0
    refine (rdo4 p nx px nl pl nr pr tll tlr trl trr w h).mono ?_
    rintro e w' ⟨q, rfl, h1, h2⟩
    exact ⟨q, _, rfl, h1, by simp [nT, doT, do4, putT, asT, lessT, keyT, setW, lT, rT, wt, h0], h2⟩
theorem rdoa5 (rt : Bool) (p : Option Addr) (T : Tr) (w : World) (h : Rp (fun _ => True) w (.pointer p) T) (hT : T ≠ .nil) (h0 : allT (fun n => n.f1 = 0) T) (hc : canT false rt T 5 = true) :
  Calls Try.prog 55 #[.pointer p, .int .i64 5] w fun e w' => ∃ q Y, e = .returned (.pointer q) ∧ Rp (fun _ => True) w' (.pointer q) Y ∧ nT Y = nT (doT false T 5) ∧ Below w.heap.size w w' := by
 cases T with
 | nil => exact absurd rfl hT
 | node nx px tl tr =>
  cases tl with
  | nil => simp [canT, can5, lT, rT, wt, innerB] at hc
  | node nl pl tll tlr =>
   cases tr with
   | nil => simp [canT, can5, lT, rT, wt, innerB] at hc
   | node nr pr trl trr =>
    cases trl with
    | nil => simp [canT, can5, lT, rT, wt, innerB] at hc
    | node nrl prl trll trlr =>
     simp only [allT] at h0
     refine (rdo5 p nx px nl pl nr pr nrl prl tll tlr trr trll trlr w h).mono ?_
     rintro e w' ⟨q, rfl, h1, h2⟩
     exact ⟨q, _, rfl, h1, by simp [nT, doT, do5, putT, asT, lessT, keyT, setW, lT, rT, wt, h0], h2⟩
theorem rdoa6 (rt : Bool) (p : Option Addr) (T : Tr) (w : World) (h : Rp (fun _ => True) w (.pointer p) T) (hT : T ≠ .nil) (h0 : allT (fun n => n.f1 = 0) T) (hc : canT false rt T 6 = true) :
  Calls Try.prog 55 #[.pointer p, .int .i64 6] w fun e w' => ∃ q Y, e = .returned (.pointer q) ∧ Rp (fun _ => True) w' (.pointer q) Y ∧ nT Y = nT (doT false T 6) ∧ Below w.heap.size w w' := by
 cases T with
 | nil => exact absurd rfl hT
 | node nx px tl tr =>
  cases tl with
  | nil => simp [canT, can6, lT, rT, wt, innerB] at hc
  | node nl pl tll tlr =>
   cases tr with
   | nil => simp [canT, can6, lT, rT, wt, innerB] at hc
   | node nr pr trl trr =>
    cases trl with
    | nil => simp [canT, can6, lT, rT, wt, innerB] at hc
    | node nrl prl trll trlr =>
     simp only [allT] at h0
     refine (rdo6 p nx px nl pl nr pr nrl prl tll tlr trr trll trlr w h).mono ?_
     rintro e w' ⟨q, rfl, h1, h2⟩
     exact ⟨q, _, rfl, h1, by simp [nT, doT, do6, putT, asT, lessT, keyT, setW, lT, rT, wt, h0], h2⟩
theorem rdoa7 (rt : Bool) (p : Option Addr) (T : Tr) (w : World) (h : Rp (fun _ => True) w (.pointer p) T) (hT : T ≠ .nil) (h0 : allT (fun n => n.f1 = 0) T) (hc : canT false rt T 7 = true) :
  Calls Try.prog 55 #[.pointer p, .int .i64 7] w fun e w' => ∃ q Y, e = .returned (.pointer q) ∧ Rp (fun _ => True) w' (.pointer q) Y ∧ nT Y = nT (doT false T 7) ∧ Below w.heap.size w w' := by
 cases T with
 | nil => exact absurd rfl hT
 | node nx px tl tr =>
  cases tl with
  | nil => simp [canT, can7, lT, rT, wt, innerB] at hc
  | node nl pl tll tlr =>
   cases tr with
   | nil => simp [canT, can7, lT, rT, wt, innerB] at hc
   | node nr pr trl trr =>
    cases trl with
    | nil => simp [canT, can7, lT, rT, wt, innerB] at hc
    | node nrl prl trll trlr =>
     cases trll with
     | nil => simp [canT, can7, lT, rT, wt, innerB] at hc
     | node nrll prll trlll trllr =>
      simp only [allT] at h0
      refine (rdo7 p nx px nl pl nr pr nrl prl nrll prll tll tlr trr trlr trlll trllr w h).mono ?_
      rintro e w' ⟨q, rfl, h1, h2⟩
      exact ⟨q, _, rfl, h1, by simp [nT, doT, do7, putT, asT, lessT, keyT, setW, lT, rT, wt, h0], h2⟩
theorem rdoa8 (rt : Bool) (p : Option Addr) (T : Tr) (w : World) (h : Rp (fun _ => True) w (.pointer p) T) (hT : T ≠ .nil) (h0 : allT (fun n => n.f1 = 0) T) (hc : canT false rt T 8 = true) :
  Calls Try.prog 55 #[.pointer p, .int .i64 8] w fun e w' => ∃ q Y, e = .returned (.pointer q) ∧ Rp (fun _ => True) w' (.pointer q) Y ∧ nT Y = nT (doT false T 8) ∧ Below w.heap.size w w' := by
 cases T with
 | nil => exact absurd rfl hT
 | node nx px tl tr =>
  cases tl with
  | nil => simp [canT, can8, lT, rT, wt, innerB] at hc
  | node nl pl tll tlr =>
   cases tr with
   | nil => simp [canT, can8, lT, rT, wt, innerB] at hc
   | node nr pr trl trr =>
    cases trl with
    | nil => simp [canT, can8, lT, rT, wt, innerB] at hc
    | node nrl prl trll trlr =>
     cases trlr with
     | nil => simp [canT, can8, lT, rT, wt, innerB] at hc
     | node nrlr prlr trlrl trlrr =>
      simp only [allT] at h0
      refine (rdo8 p nx px nl pl nr pr nrl prl nrlr prlr tll tlr trr trll trlrl trlrr w h).mono ?_
      rintro e w' ⟨q, rfl, h1, h2⟩
      exact ⟨q, _, rfl, h1, by simp [nT, doT, do8, putT, asT, lessT, keyT, setW, lT, rT, wt, h0], h2⟩
theorem rdoa9 (rt : Bool) (p : Option Addr) (T : Tr) (w : World) (h : Rp (fun _ => True) w (.pointer p) T) (hT : T ≠ .nil) (h0 : allT (fun n => n.f1 = 0) T) (hc : canT false rt T 9 = true) :
  Calls Try.prog 55 #[.pointer p, .int .i64 9] w fun e w' => ∃ q Y, e = .returned (.pointer q) ∧ Rp (fun _ => True) w' (.pointer q) Y ∧ nT Y = nT (doT false T 9) ∧ Below w.heap.size w w' := by
 cases T with
 | nil => exact absurd rfl hT
 | node nx px tl tr =>
  cases tl with
  | nil => simp [canT, can9, lT, rT, wt, innerB] at hc
  | node nl pl tll tlr =>
   cases tr with
   | nil => simp [canT, can9, lT, rT, wt, innerB] at hc
   | node nr pr trl trr =>
    cases trr with
    | nil => simp [canT, can9, lT, rT, wt, innerB] at hc
    | node nrr prr trrl trrr =>
     simp only [allT] at h0
     refine (rdo9 p nx px nl pl nr pr nrr prr tll tlr trl trrl trrr w h).mono ?_
     rintro e w' ⟨q, rfl, h1, h2⟩
     exact ⟨q, _, rfl, h1, by simp [nT, doT, do9, putT, asT, lessT, keyT, setW, lT, rT, wt, h0], h2⟩
theorem rdoa10 (rt : Bool) (p : Option Addr) (T : Tr) (w : World) (h : Rp (fun _ => True) w (.pointer p) T) (hT : T ≠ .nil) (h0 : allT (fun n => n.f1 = 0) T) (hc : canT false rt T 10 = true) :
  Calls Try.prog 55 #[.pointer p, .int .i64 10] w fun e w' => ∃ q Y, e = .returned (.pointer q) ∧ Rp (fun _ => True) w' (.pointer q) Y ∧ nT Y = nT (doT false T 10) ∧ Below w.heap.size w w' := by
 cases T with
 | nil => exact absurd rfl hT
 | node nx px tl tr =>
  cases tl with
  | nil => simp [canT, can10, lT, rT, wt, innerB] at hc
  | node nl pl tll tlr =>
   cases tr with
   | nil => simp [canT, can10, lT, rT, wt, innerB] at hc
   | node nr pr trl trr =>
    cases trl with
    | nil => simp [canT, can10, lT, rT, wt, innerB] at hc
    | node nrl prl trll trlr =>
     simp only [allT] at h0
     refine (rdo10 p nx px nl pl nr pr nrl prl tll tlr trr trll trlr w h).mono ?_
     rintro e w' ⟨q, rfl, h1, h2⟩
     exact ⟨q, _, rfl, h1, by simp [nT, doT, do10, putT, asT, lessT, keyT, setW, lT, rT, wt, h0], h2⟩
theorem rdoa11 (rt : Bool) (p : Option Addr) (T : Tr) (w : World) (h : Rp (fun _ => True) w (.pointer p) T) (hT : T ≠ .nil) (h0 : allT (fun n => n.f1 = 0) T) (hc : canT false rt T 11 = true) :
  Calls Try.prog 55 #[.pointer p, .int .i64 11] w fun e w' => ∃ q Y, e = .returned (.pointer q) ∧ Rp (fun _ => True) w' (.pointer q) Y ∧ nT Y = nT (doT false T 11) ∧ Below w.heap.size w w' := by
 cases T with
 | nil => exact absurd rfl hT
 | node nx px tl tr =>
  cases tl with
  | nil => simp [canT, can11, lT, rT, wt, innerB] at hc
  | node nl pl tll tlr =>
   cases tr with
   | nil => simp [canT, can11, lT, rT, wt, innerB] at hc
   | node nr pr trl trr =>
    simp only [allT] at h0
    refine (rdo11 p nx px nl pl nr pr tll tlr trl trr w h).mono ?_
    rintro e w' ⟨q, rfl, h1, h2⟩
    exact ⟨q, _, rfl, h1, by simp [nT, doT, do11, putT, asT, lessT, keyT, setW, lT, rT, wt, h0], h2⟩
theorem rdoa12 (rt : Bool) (p : Option Addr) (T : Tr) (w : World) (h : Rp (fun _ => True) w (.pointer p) T) (hT : T ≠ .nil) (h0 : allT (fun n => n.f1 = 0) T) (hc : canT false rt T 12 = true) :
  Calls Try.prog 55 #[.pointer p, .int .i64 12] w fun e w' => ∃ q Y, e = .returned (.pointer q) ∧ Rp (fun _ => True) w' (.pointer q) Y ∧ nT Y = nT (doT false T 12) ∧ Below w.heap.size w w' := by
 cases T with
 | nil => exact absurd rfl hT
 | node nx px tl tr =>
  simp only [allT] at h0
  refine (rdo12 p nx px tl tr w h).mono ?_
  rintro e w' ⟨q, rfl, h1, h2⟩
  exact ⟨q, _, rfl, h1, by simp [nT, doT, do12, putT, asT, lessT, keyT, setW, lT, rT, wt, h0], h2⟩
theorem rdo_any (rt : Bool) (p : Option Addr) (T : Tr) (w : World) (h : Rp (fun _ => True) w (.pointer p) T) (hT : T ≠ .nil) (h0 : allT (fun n => n.f1 = 0) T) (kind : Int) (hk : 1 ≤ kind ∧ kind ≤ 12) (hc : canT false rt T kind = true) :
  Calls Try.prog 55 #[.pointer p, .int .i64 kind] w fun e w' => ∃ q Y, e = .returned (.pointer q) ∧ Rp (fun _ => True) w' (.pointer q) Y ∧ nT Y = nT (doT false T kind) ∧ Below w.heap.size w w' := by
 have hd : kind = 1 ∨ kind = 2 ∨ kind = 3 ∨ kind = 4 ∨ kind = 5 ∨ kind = 6 ∨ kind = 7 ∨ kind = 8 ∨ kind = 9 ∨ kind = 10 ∨ kind = 11 ∨ kind = 12 := by omega
 rcases hd with rfl | rfl | rfl | rfl | rfl | rfl | rfl | rfl | rfl | rfl | rfl | rfl
 ·exact rdoa1 rt p T w h hT h0 hc
 ·exact rdoa2 rt p T w h hT h0 hc
 ·exact rdoa3 rt p T w h hT h0 hc
 ·exact rdoa4 rt p T w h hT h0 hc
 ·exact rdoa5 rt p T w h hT h0 hc
 ·exact rdoa6 rt p T w h hT h0 hc
 ·exact rdoa7 rt p T w h hT h0 hc
 ·exact rdoa8 rt p T w h hT h0 hc
 ·exact rdoa9 rt p T w h hT h0 hc
 ·exact rdoa10 rt p T w h hT h0 hc
 ·exact rdoa11 rt p T w h hT h0 hc
 ·exact rdoa12 rt p T w h hT h0 hc
theorem size_n : ∀ T : Tr, sizeT (nT T) = sizeT T
 | .nil => rfl
 | .node n p l r => by rw [nT, sizeT, sizeT, size_n l, size_n r]
theorem nT_m : ∀ T : Tr, nT (mirT T) = mirT (nT T)
 | .nil => rfl
 | .node n p l r => by rw [mirT, nT, nT, mirT, nT_m l, nT_m r]
theorem ok_leaf {n : S34} {p : Int} {r : Tr} (h : Ok (.node n p .nil r)) : r = .nil ∧ n.f4 = -1 ∧ n.f5 = -1 := by
 rcases h.2.2 with ⟨_, h2, h3⟩ | ⟨_, h2, _⟩
 ·exact ⟨h2, h3⟩
 ·exact h2.elim
theorem ok_inner {n : S34} {p : Int} {l r : Tr} (h : Ok (.node n p l r)) (hl : l ≠ .nil) : Ok l ∧ Ok r := by
 rcases h.2.2 with ⟨h1, _⟩ | ⟨_, h1, h2⟩
 ·exact absurd h1 hl
 ·exact ⟨h1, h2⟩
theorem repl_new (c : Nat) (R : Tr) (n : S34) (p : Int) (l r : Tr) : replT c R (.node n p l r) = .node n p (newX c R l) (newX c R r) := rfl
theorem heap_alloc_at {W : World} {n : Nat} (h : W.heap.size = n) (o : Obj) : (W.alloc o).heap[n]? = some o := by subst h; exact heap_alloc_new W o
def someL (x y : Int) : List S34 := [⟨0, 1, 1, 0, 1, 6⟩, ⟨0, 1, 1, 0, 2, 5⟩, ⟨2, 0, 1, 0, 3, 4⟩, ⟨1, 0, x, 0, -1, -1⟩, ⟨2, 0, y, 0, -1, -1⟩, ⟨0, 1, 1, 0, -1, -1⟩, ⟨0, 1, 1, 0, -1, -1⟩]
theorem some_any (w : World) : Calls Try.prog 40 #[] w fun e w' => ∃ g, e = .returned (.tuple #[.slice (some ⟨g, 0, none⟩) 7 7, .int .i64 2]) ∧ w.heap.size ≤ g ∧ w'.heap[g]? = some (.cells (rowL (someL 2 2)).toArray 34 (0, 0)) ∧ Below w.heap.size w w' := by
 go_enter Try.func40, Try.ntmps40
 go_wp2
 go_ret2
 exact ⟨_, rfl, by omega, heap_alloc_at (by simp) _, ba (ba (ba (ba (Below.refl _ _) _) _) _) _⟩
theorem some_R {W : World} {base g : Nat} {x y : Int} (h : W.heap[g]? = some (.cells (rowL (someL x y)).toArray 34 (0, 0))) (hg : base ≤ g) : Kd.R k34 34 W base (fun _ => True) (.slice (some ⟨g, 0, none⟩) 7 7) (someL x y) := by
 have hl : (rowL (someL x y)).length = 7 * 6 := rowL_len _
 refine row_R (xs := someL x y) ⟨hl, .inr ⟨g, 7, (rowL (someL x y)).toArray, rfl, hg, h, Nat.le_refl _, by simp [maxLen], by rw [List.size_toArray]; exact hl, ?_⟩⟩
 exact List.take_of_length_le (Nat.le_of_eq hl)
theorem wake_do : ∃ k, steps_Do.f k (someL 2 2) 2 11 false = some (someL 1 1, 0) ∧ larchref18_SameTable.f k (someL 1 1) (someL 1 1) = some true := ⟨30, by kernel_rfl, by kernel_rfl⟩
theorem awake_any (w : World) : Calls Try.prog 10 #[] w (RB w (.bool true)) := by
 obtain ⟨k, h1, h2⟩ := wake_do
 have H1 := Am h1
 have H2 := Am h2
 clear h1 h2
 go_enter Try.func10, Try.ntmps10
 go_wp2_with (fail)
 refine (some_any _).mono ?_
 rintro e w1 ⟨g, rfl, hg, hk, hb⟩
 have HG := Am hg
 have HK := Am hk
 have HB := Am hb
 clear hg hk hb
 go_wp2_with (fail)
 refine (steps_Do.calls k (some ⟨g, 0, none⟩) 7 (someL 2 2) 2 11 false _ 0 _ (Kd.R_reads' (some_R HK.out (Nat.le_refl _))).2.2 (Nat.le_refl _) H1.out).mono ?_
 rintro e w2 ⟨v2, rfl, ho, hb⟩
 obtain ⟨ga, ca, rfl, hga, -, -⟩ := Kd.R_form ho (by decide)
 have hlt := blk_lt HK.out
 have HO := Am ho
 have hk := (hb.block g hlt).trans HK.out
 have HB2 := Am (HB.out.trans (hb.mono HB.out.size))
 have z3 : w2.cell? ⟨g, 20, none⟩ = some (.int .i64 2) := (cell_of hk 20).trans rfl
 have z4 : w2.cell? ⟨g, 26, none⟩ = some (.int .i64 2) := (cell_of hk 26).trans rfl
 have f3 := frz_of hk 20
 have f4 := frz_of hk 26
 have HK2 := Am hk
 have HN := Am (show g ≠ ga by omega)
 clear ho hb hk HB HK hga
 go_wp2_with (fail)
 have hA := Kd.R_drop (Kd.R_far (p := ⟨g, 26, none⟩) (Kd.R_far1 (Kd.R_drop (Kd.R_far (p := ⟨g, 20, none⟩) (Kd.R_far1 HO.out rfl (g := g) (by simpa [Value.ownBlock] using HN.out)) (fun _ hk => hk.2) (.int .i64 1))) rfl (g := g) (by simpa [Value.ownBlock] using HN.out)) (fun _ hk => hk.2) (.int .i64 1))
 have hk := blk_set (blk_set HK2.out 20 (.int .i64 1)) 26 (.int .i64 1)
 refine (larchref18_SameTable.calls k (some ⟨ga, 0, none⟩) ca (someL 1 1) (some ⟨g, 0, none⟩) 7 (someL 1 1) true _ (Kd.R_reads' hA).2.2 (Kd.R_reads' hA).2.1 (Kd.R_reads' (some_R (x := 1) (y := 1) hk HG.out)).2.2 (Nat.le_refl _) H2.out).mono ?_
 rintro e w4 ⟨rfl, m, rfl⟩
 go_wp2
 go_ret
 exact ⟨rfl, bn (below_set (below_set HB2.out HG.out) HG.out) _⟩
theorem nT_s (m : Bool) (X : Tr) : nT (sideT m X) = sideT m (nT X) := by cases m <;> simp [sideT, nT_m]
theorem great_n : ∀ T, greatT (nT T) = greatT T
 | .nil => rfl
 | .node n p l r => by rw [nT, greatT, greatT, great_n l, great_n r]
theorem great_m : ∀ T, greatT (mirT T) = greatT T
 | .nil => rfl
 | .node n p l r => by rw [mirT, greatT, greatT, great_m l, great_m r, Bool.or_assoc, Bool.or_assoc, Bool.or_comm (greatT r)]
theorem great_s (m : Bool) (T : Tr) : greatT (sideT m T) = greatT T := by cases m <;> simp [sideT, great_m]
theorem ins_n (a : Int) {Y Y' : Tr} (h : nT Y = nT Y') : ∀ {T : Tr}, nT (insT a Y T) = nT (insT a Y' T)
 | .nil => rfl
 | .node n p l r => by
  rw [insT, insT]
  split
  ·exact h
  ·rw [nT, nT, ins_n a h, ins_n a h]
theorem two_nn : ∀ T, TwoT (nT T) ↔ TwoT T
 | .nil => Iff.rfl
 | .node n p l r => by rw [nT, TwoT, TwoT, two_nn l, two_nn r, nT_nil, nT_nil]
theorem two_n {T T' : Tr} (h : nT T = nT T') (h2 : TwoT T') : TwoT T := by rw [← two_nn, h, two_nn]; exact h2
theorem ne_n {T T' : Tr} (h : nT T = nT T') (h2 : T' ≠ .nil) : T ≠ .nil := fun e => h2 (by rw [← nT_nil, ← h, e]; rfl)
theorem size_nn {T T' : Tr} (h : nT T = nT T') : sizeT T = sizeT T' := by rw [← size_n T, h, size_n]
theorem lay_nn : ∀ (T : Tr) (a : Nat), layT (nT T) a = layT T a
 | .nil, _ => rfl
 | .node n p .nil r, a => by simp only [nT, layT]
 | .node n p (.node n' p' l' r') r, a => by
  have h1 := lay_nn (.node n' p' l' r') (a + 1)
  have h2 := size_n (.node n' p' l' r')
  rw [nT] at h1 h2
  rw [nT, nT, layT, layT, h1, h2, lay_nn r]
theorem lay_n {T T' : Tr} (h : nT T = nT T') {a : Nat} : layT T a = layT T' a := by rw [← lay_nn T, h, lay_nn]
theorem side_side (m : Bool) (X : Tr) : sideT m (sideT m X) = X := by cases m <;> simp [sideT, mir_mir]
theorem side_set (m : Bool) (X : Tr) (x : Int) : sideT m (setW X x) = setW (sideT m X) x := by cases m <;> simp [sideT, mir_set]
theorem side_do (m : Bool) (X : Tr) (kind : Int) : doT false (sideT m X) kind = sideT m (doT m X kind) := by
 cases m with
 | false => rfl
 | true => exact mir_do true X kind
theorem do_ne {m : Bool} {X : Tr} {kind : Int} (h : X ≠ .nil) : doT m X kind ≠ .nil := by
 unfold doT
 repeat' split
 all_goals first | (simp only [do1, do2, do3, do4, do5, do6, do7, do8, do9, do10, do11, putT]; simp; done) | skip
 cases X with
 | nil => exact absurd rfl h
 | node n p l r => simp [do12, asT]
theorem all_m {P : S34 → Prop} : ∀ {T : Tr}, allT P T → allT P (mirT T)
 | .nil, h => h
 | .node n p l r, h => ⟨h.1, all_m h.2.2, all_m h.2.1⟩
theorem all_s {P : S34 → Prop} (m : Bool) {T : Tr} (h : allT P T) : allT P (sideT m T) := by
 cases m
 ·exact h
 ·exact all_m h
theorem side_ne (m : Bool) {T : Tr} (h : T ≠ .nil) : sideT m T ≠ .nil := by
 cases m
 ·exact h
 ·exact fun e => h (mir_nil.1 e)
def newT (mir rt : Bool) (X : Tr) (kind : Int) : Tr := if rt = true then setW (doT mir X kind) 1 else doT mir X kind
theorem rDo_any (k : Nat) (A0 : Option Addr) (c0 : Nat) (t : List S34) (a kind : Int) (mir : Bool) (X : Tr) (rt : Bool) (e : Int) (c : Bool) (T R : Tr) (r1 : List S34) (r2 : Int) (w : World) (hr0 : Kd.C k34 w A0 t.length t) (hc0 : t.length ≤ c0) (h : AskR k t a kind mir X rt e)
  (he : e ≠ 0 → r1 = [] ∧ r2 = e)
  (hc : e = 0 → Ok X ∧ allT (fun n => n.f1 = 0) X ∧ (1 ≤ kind ∧ kind ≤ 12) ∧ canT mir rt X kind = c ∧ (c = false → r1 = [] ∧ r2 = 6) ∧ (c = true → R = newT mir rt X kind ∧ (∀ i, i < t.length → fmN (t.getD i z34) t.length = true) ∧ mkT t t.length 0 = some T ∧ TwoT (insT a R T) ∧ insT a R T ≠ .nil ∧ sizeT (insT a R T) ≤ 1000000 ∧ (greatT R = true → r1 = [] ∧ r2 = 2) ∧ (greatT R = false → r1 = layT (insT a R T) 0 ∧ r2 = 0))) :
  Calls Try.prog 25 #[.slice A0 t.length c0, .int .i64 a, .agg #[.int .i64 kind, .bool mir]] w fun ed w' => ∃ v, ed = .returned (.tuple #[v, .int .i64 r2]) ∧ Kd.R k34 34 w' w.heap.size (fun _ => True) v r1 ∧ Below w.heap.size w w' := by
 have HR0 := Am hr0
 have HC0 := Am hc0
 have H := Am h
 have HE1 := Am he
 have HE2 := Am hc
 clear hr0 hc0 h hc he
 go_enter Try.func25, Try.ntmps25
 go_wp2_with (fail)
 refine (asked_any k A0 c0 t a kind mir X rt e _ (Kd.C_below HR0.out (ba (Below.refl _ _) (.cells #[.int .i64 kind, .bool mir] 24))) HC0.out H.out).mono ?_
 rintro _ w1 ⟨p, rfl, h1, hb⟩
 have hk := (hb.block w.heap.size (by simp)).trans (heap_alloc_new w (.cells #[.int .i64 kind, .bool mir] 24))
 have HB := Am ((ba (Below.refl w.heap.size w) _).trans (hb.mono (by simp)))
 have HK := Am hk
 have HX := Am h1
 clear h1 hb hk H
 by_cases he : e = 0
 rotate_left
 ·have q1 : (e != 0) = true := by simpa using he
  obtain ⟨rfl, rfl⟩ := HE1.out he
  clear he HE1 HE2
  go_wp2
  go_ret2
  exact ⟨_, rfl, Kd.R_nil _ _ _ _ _, HB.out⟩
 subst he
 obtain ⟨h1, h2, h3, h4, h5, h6⟩ := HE2.out rfl
 have HOK := Am h1
 have HAL := Am h2
 have HKD := Am h3
 have HC := Am ((side_can mir rt h1 kind).trans h4)
 have HN := Am h5
 have HP := Am h6
 obtain ⟨z0, z1⟩ := c2_of HK.out
 clear h1 h2 h3 h4 h5 h6 HE1 HE2
 go_wp2_with (fail)
 refine (side_any p X kind mir _ HX.out).mono ?_
 rintro _ w2 ⟨q, rfl, h2, hb2⟩
 have HK2 := Am (blkB hb2 HK.out)
 have H2 := Am h2
 have HB2 := Am (bel_t' HB.out hb2)
 clear h2 hb2 z0 z1 HB HK HX
 obtain ⟨z0, z1⟩ := c2_of HK2.out
 go_wp2_with (fail)
 refine (rcan_all q (sideT mir X) rt _ H2 kind HKD.out).mono ?_
 rintro _ w3 ⟨rfl, rfl⟩
 rw [HC.out]
 cases c with
 | false =>
  obtain ⟨rfl, rfl⟩ := HN.out rfl
  go_wp2
  go_ret2
  exact ⟨_, rfl, Kd.R_nil _ _ _ _ _, HB2.out⟩
 | true =>
  obtain ⟨hR, h0, h1, h2, h3, h4, h5, h6⟩ := HP.out rfl
  have HF0 := Am h0
  have HT := Am h1
  have H2T := Am h2
  have HNE := Am h3
  have HSZ := Am h4
  have HRES := Am h5
  have HRES' := Am h6
  have HRR := Am hR
  clear h0 h1 h2 h3 h4 h5 h6 hR HN HP
  go_wp2_with (fail)
  refine (rdo_any rt q (sideT mir X) _ H2.out (side_ne mir (ok_ne HOK.out)) (all_s mir HAL.out) kind HKD.out HC.out).mono ?_
  rintro _ w4 ⟨y, Y, rfl, h4, hn, hb4⟩
  have HK4 := Am (blkB hb4 HK2.out)
  have HB4 := Am (bel_t' HB2.out hb4)
  have H4 := Am h4
  have hn2 : nT (sideT mir Y) = nT (doT mir X kind) := by rw [nT_s, hn, ← nT_s, side_do, side_side]
  have HNY := Am hn2
  have hYne : Y ≠ .nil := ne_n hn (do_ne (side_ne mir (ok_ne HOK.out)))
  clear h4 hn hb4 z0 z1 HB2 HK2 H2 hn2
  cases rt with
  | false =>
   have hR : R = doT mir X kind := HRR.out
   obtain ⟨Y', hY'⟩ : ∃ Y', Y' = Y := ⟨_, rfl⟩
   have hY := H4.out
   rw [← hY'] at hY
   have hYn : nT (sideT mir Y') = nT R := by rw [hR, hY', HNY.out]
   have hB := HB4.out
   have hKb := HK4.out
   clear H4 HNY HB4 HK4 hYne hY' hR HRR
   obtain ⟨wz, hwz⟩ : ∃ wz, wz = w4 := ⟨_, rfl⟩
   subst hwz
   have HY := Am hY
   have HYn := Am hYn
   have HB := Am hB
   have HK := Am hKb
   clear hY hYn hB hKb
   go_wp2_with (fail)
   refine (rgreat_any Y' _ _ HY.out).mono ?_
   rintro e wy ⟨he, rfl⟩
   rw [← great_n Y', ← great_s mir, ← nT_s, HYn.out, great_n] at he
   subst he
   cases hg : greatT R with
   | true =>
    obtain ⟨rfl, rfl⟩ : r1 = [] ∧ r2 = 2 := HRES.out hg
    go_wp2
    go_ret2
    exact ⟨_, rfl, Kd.R_nil _ _ _ _ _, HB.out⟩
   | false =>
    obtain ⟨rfl, rfl⟩ : r1 = layT (insT a R T) 0 ∧ r2 = 0 := HRES'.out hg
    clear hg
    go_wp2
    refine sG 10 (w0 := wy) (below_drew (Below.refl _ _)) fun w6 hHeld => ?_
    refine pu 0 41 ?_
    refine pu 2 43 ?_
    refine pu 3 44 ?_
    refine ta 4 45 hHeld (hy := by intro w' hs; obtain ⟨y0, y1⟩ := c2_of (blkB hs HK.out); go_simp; with_reducible rfl) ?_
    refine on 1 42 fun K hK => ?_
    refine gO Try.func59 #[.slice A0 t.length c0, .int .i64 0] ?_
    refine (rgrow_any A0 c0 t HF0.out t.length 0 T _ (Kd.C_below HR0.out (bel_t' HB.out hHeld)) HC0.out HT.out).mono ?_
    rintro _ v1 ⟨g1, rfl, h, hb⟩
    have G1 := Am (Rp.mono (S' := fun _ => True) (fun _ _ => trivial) h)
    have HB2 := Am (bel_t' hHeld hb)
    clear h hb
    refine ⟨_, rfl, ?_⟩
    refine hK.out _ _ HB2.out (fun hHeld => ?_)
    clear hK K HB2
    refine nm 42 ?_
    refine on 5 46 fun K hK => ?_
    refine gO Try.func54 #[.pointer y, .agg #[.int .i64 kind, .bool mir]] ?_
    refine (side_any y Y' kind mir _ (HY.out.below hHeld)).mono ?_
    rintro _ v2 ⟨g2, rfl, h, hb⟩
    have G2 := Am h
    have G1' := Am (G1.out.below hb)
    have HB2 := Am (bel_t' hHeld hb)
    clear h hb G1
    refine ⟨_, rfl, ?_⟩
    refine hK.out _ _ HB2.out (fun hHeld => ?_)
    clear hK K HB2
    refine nm 46 ?_
    refine on 6 47 fun K hK => ?_
    refine gO Try.func58 #[.pointer g1, .int .i64 a, .pointer g2] ?_
    refine (rinstead_any a g2 (sideT mir Y') T _ _ G1'.out G2.out).mono ?_
    rintro _ v3 ⟨g3, rfl, h, hb⟩
    have G3 := Am h
    have HB2 := Am (bel_t' hHeld hb)
    clear h hb G1' G2
    refine ⟨_, rfl, ?_⟩
    refine hK.out _ _ HB2.out (fun hHeld => ?_)
    clear hK K HB2
    refine nm 47 ?_
    refine on 7 48 fun K hK => ?_
    refine gO Try.func60 #[.pointer g3, .slice none 0 0] ?_
    refine (rlay_any v3 (insT a (sideT mir Y') T) g3 _ [] v3 (two_n (ins_n a HYn.out) H2T.out) (ne_n (ins_n a HYn.out) HNE.out) G3.out (Below.refl _ _) (Kd.R_nil _ _ _ _ _) (by rw [size_nn (ins_n a HYn.out)]; have := HSZ.out; simp only [List.length_nil]; omega)).mono ?_
    rintro _ v4 ⟨g4, rfl, h, hb⟩
    rw [List.nil_append, List.length_nil, lay_n (ins_n a HYn.out)] at h
    have G4 := Am (Kd.R_lower h (bel_t' HB.out hHeld).size)
    have HB2 := Am (bel_t' hHeld hb)
    clear h hb G3
    refine ⟨_, rfl, ?_⟩
    refine hK.out _ _ HB2.out (fun hHeld => ?_)
    clear hK K HB2
    refine nm 48 ?_
    refine pu 8 6 ?_
    refine pu 9 7 ?_
    refine done_ (by kernel_rfl) ?_
    go_wp2
    go_ret2
    exact ⟨_, rfl, G4.out, bel_t' HB.out hHeld⟩
  | true =>
   have hR : R = setW (doT mir X kind) 1 := HRR.out
   obtain ⟨ny, py, ly, ry, rfl⟩ := node_of hYne
   go_wp2_with (fail)
   refine (rwith_any _ ny py ly ry 1 _ H4.out).mono ?_
   rintro _ wz ⟨y1, rfl, h5, hb5⟩
   obtain ⟨Y', hY'⟩ : ∃ Y', Y' = setW (.node ny py ly ry) 1 := ⟨_, rfl⟩
   have hY := h5
   rw [← hY'] at hY
   have hYn : nT (sideT mir Y') = nT R := by rw [hR, hY', side_set, nT_set, HNY.out, nT_set]
   have hB := bel_t' HB4.out hb5
   have hKb := blkB hb5 HK4.out
   clear H4 HNY HB4 HK4 hYne hY' hR HRR h5 hb5
   have HY := Am hY
   have HYn := Am hYn
   have HB := Am hB
   have HK := Am hKb
   clear hY hYn hB hKb
   go_wp2_with (fail)
   refine (rgreat_any Y' _ _ HY.out).mono ?_
   rintro e wy ⟨he, rfl⟩
   rw [← great_n Y', ← great_s mir, ← nT_s, HYn.out, great_n] at he
   subst he
   cases hg : greatT R with
   | true =>
    obtain ⟨rfl, rfl⟩ : r1 = [] ∧ r2 = 2 := HRES.out hg
    go_wp2
    go_ret2
    exact ⟨_, rfl, Kd.R_nil _ _ _ _ _, HB.out⟩
   | false =>
    obtain ⟨rfl, rfl⟩ : r1 = layT (insT a R T) 0 ∧ r2 = 0 := HRES'.out hg
    clear hg
    go_wp2
    refine sG 10 (w0 := wy) (below_drew (Below.refl _ _)) fun w6 hHeld => ?_
    refine pu 0 41 ?_
    refine pu 2 43 ?_
    refine pu 3 44 ?_
    refine ta 4 45 hHeld (hy := by intro w' hs; obtain ⟨y0, y1⟩ := c2_of (blkB hs HK.out); go_simp; with_reducible rfl) ?_
    refine on 1 42 fun K hK => ?_
    refine gO Try.func59 #[.slice A0 t.length c0, .int .i64 0] ?_
    refine (rgrow_any A0 c0 t HF0.out t.length 0 T _ (Kd.C_below HR0.out (bel_t' HB.out hHeld)) HC0.out HT.out).mono ?_
    rintro _ v1 ⟨g1, rfl, h, hb⟩
    have G1 := Am (Rp.mono (S' := fun _ => True) (fun _ _ => trivial) h)
    have HB2 := Am (bel_t' hHeld hb)
    clear h hb
    refine ⟨_, rfl, ?_⟩
    refine hK.out _ _ HB2.out (fun hHeld => ?_)
    clear hK K HB2
    refine nm 42 ?_
    refine on 5 46 fun K hK => ?_
    refine gO Try.func54 #[.pointer y1, .agg #[.int .i64 kind, .bool mir]] ?_
    refine (side_any y1 Y' kind mir _ (HY.out.below hHeld)).mono ?_
    rintro _ v2 ⟨g2, rfl, h, hb⟩
    have G2 := Am h
    have G1' := Am (G1.out.below hb)
    have HB2 := Am (bel_t' hHeld hb)
    clear h hb G1
    refine ⟨_, rfl, ?_⟩
    refine hK.out _ _ HB2.out (fun hHeld => ?_)
    clear hK K HB2
    refine nm 46 ?_
    refine on 6 47 fun K hK => ?_
    refine gO Try.func58 #[.pointer g1, .int .i64 a, .pointer g2] ?_
    refine (rinstead_any a g2 (sideT mir Y') T _ _ G1'.out G2.out).mono ?_
    rintro _ v3 ⟨g3, rfl, h, hb⟩
    have G3 := Am h
    have HB2 := Am (bel_t' hHeld hb)
    clear h hb G1' G2
    refine ⟨_, rfl, ?_⟩
    refine hK.out _ _ HB2.out (fun hHeld => ?_)
    clear hK K HB2
    refine nm 47 ?_
    refine on 7 48 fun K hK => ?_
    refine gO Try.func60 #[.pointer g3, .slice none 0 0] ?_
    refine (rlay_any v3 (insT a (sideT mir Y') T) g3 _ [] v3 (two_n (ins_n a HYn.out) H2T.out) (ne_n (ins_n a HYn.out) HNE.out) G3.out (Below.refl _ _) (Kd.R_nil _ _ _ _ _) (by rw [size_nn (ins_n a HYn.out)]; have := HSZ.out; simp only [List.length_nil]; omega)).mono ?_
    rintro _ v4 ⟨g4, rfl, h, hb⟩
    rw [List.nil_append, List.length_nil, lay_n (ins_n a HYn.out)] at h
    have G4 := Am (Kd.R_lower h (bel_t' HB.out hHeld).size)
    have HB2 := Am (bel_t' hHeld hb)
    clear h hb G3
    refine ⟨_, rfl, ?_⟩
    refine hK.out _ _ HB2.out (fun hHeld => ?_)
    clear hK K HB2
    refine nm 48 ?_
    refine pu 8 6 ?_
    refine pu 9 7 ?_
    refine done_ (by kernel_rfl) ?_
    go_wp2
    go_ret2
    exact ⟨_, rfl, G4.out, bel_t' HB.out hHeld⟩
theorem R_okvP {e : Nat} {w : World} {base : Nat} {ok : Nat → Prop} {v : Value} {xs : List (Option Addr)} (h : Kd.R kP e w base ok v xs) {Q : Nat → Prop} (hQ : ∀ k, v.ownBlock = some k → Q k) : Kd.R kP e w base Q v xs := ⟨hQ, h.2⟩
theorem hit_plc {O : List Int} {p : Int} (j : Nat) (hj : j < O.length) : (O.take (j + 1)).filter (· == p) = (O.take j).filter (· == p) ++ (if O.getD j 0 = p then [p] else []) := by
 rw [take_filter (fun o => o == p) O j 0 hj]
 by_cases h : O.getD j 0 = p
 ·rw [if_pos h, if_pos (by simpa using h), h]
 ·rw [if_neg h, if_neg (by simpa using h)]
theorem outs_side (m : Bool) (X : Tr) (kind : Int) : (outsT false (sideT m X) kind).map plc = (outsT m X kind).map plc := by
 cases m with
 | false => rfl
 | true =>
  have hl : ∀ T, lT false (mirT T) = mirT (lT true T) := fun T => mir_l true T
  have hr : ∀ T, rT false (mirT T) = mirT (rT true T) := fun T => mir_r true T
  have hp : ∀ T, plc (mirT T) = plc T := fun T => by cases T <;> rfl
  show (outsT false (mirT X) kind).map plc = _
  unfold outsT
  simp only [apply_ite (List.map plc), List.map_cons, List.map_nil, hl, hr, hp]
theorem at_P0 {w : World} {g n : Nat} {xs : List (Option Addr)} (h : Kd.C kP w (some ⟨g, 0, none⟩) n xs) (i : Nat) (h1 : i < n) : w.cell? ⟨g, i, none⟩ = some (.pointer (xs.getD i none)) := by
 obtain ⟨ad, e, y⟩ := at_P h i h1
 obtain rfl : ad = ⟨g, 0, none⟩ := by injection e with e; exact e.symm
 have ea : (⟨g, 0, none⟩ : Addr).add i = ⟨g, i, none⟩ := by
  unfold Addr.add
  split
  ·rename_i h; rw [h]
  ·simp
 rw [ea] at y
 exact y
theorem info94 : (Try.prog.info? 94).map (fun i => (i.zero, i.size, i.bytes)) = some (some (.pointer none), 1, 8) := by kernel_rfl
theorem outs_len (m : Bool) (X : Tr) (kind : Int) : (outsT m X kind).length ≤ 5 := by
 unfold outsT
 repeat' split
 all_goals simp
theorem getD_memT {Ts : List Tr} {i : Nat} (h : i < Ts.length) : Ts.getD i .nil ∈ Ts := by rw [List.getD, List.getElem?_eq_getElem h, Option.getD_some]; exact List.getElem_mem _
theorem rTouched_any (k : Nat) (A0 : Option Addr) (c0 : Nat) (t : List S34) (a kind : Int) (mir : Bool) (X : Tr) (rt : Bool) (e : Int) (c : Bool) (res : List Int) (r2 : Int) (w : World) (hr0 : Kd.C k34 w A0 t.length t) (hc0 : t.length ≤ c0) (h : AskR k t a kind mir X rt e)
  (he : e ≠ 0 → res = [] ∧ r2 = e)
  (hc : e = 0 → Ok X ∧ (1 ≤ kind ∧ kind ≤ 12) ∧ canT mir rt X kind = c ∧ (c = false → res = [] ∧ r2 = 6) ∧ (c = true → r2 = 0 ∧ rowsR ((outsT mir X kind).map plc) 10 [] [X] = some res ∧ ∀ T ∈ outsT false (sideT mir X) kind, T ≠ .nil)) :
  Calls Try.prog 27 #[.slice A0 t.length c0, .int .i64 a, .agg #[.int .i64 kind, .bool mir]] w fun ed w' => ∃ v, ed = .returned (.tuple #[v, .int .i64 r2]) ∧ Kd.R (Kd.int .i64) 3 w' w.heap.size (fun _ => True) v res ∧ Below w.heap.size w w' := by
 have HR0 := Am hr0
 have HC0 := Am hc0
 have H := Am h
 have HE1 := Am he
 have HE2 := Am hc
 clear hr0 hc0 h hc he
 go_enter Try.func27, Try.ntmps27
 go_wp2_with (fail)
 refine (asked_any k A0 c0 t a kind mir X rt e _ (Kd.C_below HR0.out (ba (Below.refl _ _) (.cells #[.int .i64 kind, .bool mir] 24))) HC0.out H.out).mono ?_
 rintro _ w1 ⟨p, rfl, h1, hb⟩
 have hk := (hb.block w.heap.size (by simp)).trans (heap_alloc_new w (.cells #[.int .i64 kind, .bool mir] 24))
 have HB := Am ((ba (Below.refl w.heap.size w) _).trans (hb.mono (by simp)))
 have HK := Am hk
 have HX := Am h1
 clear h1 hb hk H
 by_cases he : e = 0
 rotate_left
 ·have q1 : (e != 0) = true := by simpa using he
  obtain ⟨rfl, rfl⟩ := HE1.out he
  clear he HE1 HE2
  go_wp2
  go_ret2
  exact ⟨_, rfl, Kd.R_nil _ _ _ _ _, HB.out⟩
 subst he
 obtain ⟨h1, h3, h4, h5, h6⟩ := HE2.out rfl
 have HOK := Am h1
 have HKD := Am h3
 have HC := Am ((side_can mir rt h1 kind).trans h4)
 have HN := Am h5
 have HP := Am h6
 obtain ⟨z0, z1⟩ := c2_of HK.out
 clear h1 h3 h4 h5 h6 HE1 HE2
 go_wp2_with (fail)
 refine (side_any p X kind mir _ HX.out).mono ?_
 rintro _ w2 ⟨q, rfl, h2, hb2⟩
 have HK2 := Am (blkB hb2 HK.out)
 have HX2 := Am (HX.out.below hb2)
 have H2 := Am h2
 have HB2 := Am (bel_t' HB.out hb2)
 clear h2 hb2 z0 z1 HB HK HX
 obtain ⟨z0, z1⟩ := c2_of HK2.out
 go_wp2_with (fail)
 refine (rcan_all q (sideT mir X) rt _ H2 kind HKD.out).mono ?_
 rintro _ wb ⟨rfl, rfl⟩
 rw [HC.out]
 cases c with
 | false =>
  obtain ⟨rfl, rfl⟩ := HN.out rfl
  go_wp2
  go_ret2
  exact ⟨_, rfl, Kd.R_nil _ _ _ _ _, HB2.out⟩
 | true =>
  obtain ⟨rfl, hrow, hne⟩ := HP.out rfl
  have HNE := Am hne
  rw [← outs_side] at hrow
  have HROW := Am hrow
  clear hrow hne HN HP
  go_wp2_with (fail)
  refine (rout_any rt q (sideT mir X) _ H2.out (side_ne mir (ok_ne HOK.out)) kind HKD.out HC.out).mono ?_
  rintro _ w4 ⟨g, cg, ls, rfl, ho, hpt, hb4⟩
  generalize hOT : outsT false (sideT mir X) kind = OT at hpt HROW HNE
  have hX1 : X ≠ .nil := ok_ne HOK.out
  have HX1 := Am (And.intro hX1 (two_ok HOK.out))
  have HL12 := Am (Kd.R_alloc ho (.cells #[.pointer p] 94))
  have HL14 : Aside0 (Kd.R kP 94 (w4.alloc (.cells #[.pointer p] 94)) wb.heap.size (fun _ => True) (.slice (some ⟨w4.heap.size, 0, none⟩) 1 1) [p]) := ⟨R_litP w4 [p] hb4.size⟩
  have HBb := Am (ba hb4 (.cells #[.pointer p] 94))
  have HPT := Am hpt
  obtain ⟨O, hO⟩ : ∃ O, O = OT.map plc := ⟨_, rfl⟩
  have HROW0 : Aside0 (rowsR O 10 [] [X] = some res) := ⟨by rw [hO]; exact HROW.out⟩
  have HOL : Aside0 (O.length = ls.length ∧ ls.length = OT.length ∧ OT.length ≤ 5) := ⟨by rw [hO, List.length_map, PtO_len hpt]; exact ⟨rfl, rfl, by rw [← hOT]; exact outs_len _ _ _⟩⟩
  have HOO := Am hO
  clear ho hpt hb4 z0 z1 hOT hX1 H2 HK2 hO HROW
  go_wp2
  generalize w4.alloc (.cells #[.pointer p] 94) = w5 at HL12 HL14 HBb ⊢
  generalize w4.heap.size = g14 at HL14 ⊢
  go_loopg [13, 14] 10 (fun kq v13 v14 w' => ∃ (out : List Int) (ps : List (Option Addr)) (Ts : List Tr), Aside0 (rowsR O kq out Ts = some res) ∧ Aside0 (Ts.length * 2 ^ kq ≤ 1024 ∧ out.length + 5120 * kq ≤ 51200 ∧ kq ≤ 10) ∧ Aside0 (PtO wb ps Ts ∧ ∀ T ∈ Ts, T ≠ .nil ∧ TwoT T) ∧ Aside0 (Kd.R (Kd.int .i64) 3 w' wb.heap.size (fun _ => True) v13 out) ∧ Aside0 (Kd.R kP 94 w' wb.heap.size (fun _ => True) v14 ps) ∧ Aside0 (Kd.R kP 94 w' wb.heap.size (fun _ => True) (.slice (some ⟨g, 0, none⟩) ls.length cg) ls) ∧ Aside0 (Below wb.heap.size wb w'))
  case atStart => exact ⟨[], [p], [X], HROW0, ⟨by show 1 * 2 ^ 10 ≤ 1024; decide, by show 0 + 5120 * 10 ≤ 51200; decide, by decide⟩, ⟨⟨HX2.out, trivial⟩, fun T hT => by rw [List.mem_singleton.1 hT]; exact HX1.out⟩, ⟨Kd.R_nil _ _ _ _ _⟩, HL14, HL12, HBb⟩
  case round =>
   clear HROW0 HL14 HL12 HBb
   obtain ⟨out, ps, Ts, HROW, HNUM, HTS, H13, H14, H12, HW⟩ := hrel
   obtain ⟨kq1, rfl⟩ : ∃ x, gk = x + 1 := by
    cases gk with
    | zero => exact absurd HROW.out (by simp [rowsR])
    | succ x => exact ⟨x, rfl⟩
   obtain ⟨A14, c14, rfl⟩ := Kd.R_slice H14.out
   obtain ⟨A13, c13, rfl⟩ := Kd.R_slice H13.out
   have hpl := PtO_len HTS.out.1
   cases Ts with
   | nil =>
    have p1 : decide ((ps.length : Int) > 0) = false := decide_eq_false (by rw [hpl]; simp)
    have p2 : decide (0 < (ps.length : Int)) = false := p1
    have p3 : decide (0 < ps.length) = false := decide_eq_false (by rw [hpl]; simp)
    have hres := HROW.out
    rw [rowsR] at hres
    obtain rfl := Option.some.inj hres
    clear hpl hres
    go_wp2
    go_ret2
    exact ⟨_, rfl, Kd.R_lower H13.out HB2.out.size, bel_t' HB2.out HW.out⟩
   | cons T0 Tr0 =>
    have hrow := HROW.out
    rw [rowsR] at hrow
    obtain ⟨Ts, hTs⟩ : ∃ Ts, Ts = T0 :: Tr0 := ⟨_, rfl⟩
    rw [← hTs] at hrow hpl HNUM HTS
    have hpos : 0 < Ts.length := by rw [hTs]; simp
    clear HROW hTs
    have HROW := Am hrow
    have HPL := Am (And.intro hpl hpos)
    have p1 : decide ((ps.length : Int) > 0) = true := decide_eq_true (by omega)
    have p2 : decide (0 < (ps.length : Int)) = true := p1
    have p3 : decide (0 < ps.length) = true := decide_eq_true (by omega)
    clear hrow hpl hpos
    go_wp2
    clear p1 p2 p3
    have HX14 := Am (R_okvP H14.out (Q := fun k => some k ≠ (.slice none 0 0 : Value).ownBlock) (fun k _ => by simp [Value.ownBlock]))
    have HX12 := Am (R_okvP H12.out (Q := fun k => some k ≠ (.slice none 0 0 : Value).ownBlock) (fun k _ => by simp [Value.ownBlock]))
    go_loopg [13, 15, 16] (Ts.length + 1) (fun kq v13 v15 v16 w' => ∃ (i : Nat) (ns : List (Option Addr)) (Ns : List Tr), v16 = .int .i64 i ∧ Aside0 (i ≤ Ts.length ∧ kq + i = Ts.length + 1) ∧ Aside0 (Kd.R (Kd.int .i64) 3 w' wb.heap.size (fun _ => True) v13 (out ++ (Ts.take i).flatMap (fun T => O.filter (· == plc T)))) ∧ Aside0 (Kd.R kP 94 w' wb.heap.size (fun k => some k ≠ (.slice A14 ps.length c14 : Value).ownBlock ∧ some k ≠ (.slice (some ⟨g, 0, none⟩) ls.length cg : Value).ownBlock) v15 ns) ∧ Aside0 (Kd.R kP 94 w' wb.heap.size (fun k => some k ≠ (v15 : Value).ownBlock) (.slice A14 ps.length c14) ps) ∧ Aside0 (Kd.R kP 94 w' wb.heap.size (fun k => some k ≠ (v15 : Value).ownBlock) (.slice (some ⟨g, 0, none⟩) ls.length cg) ls) ∧ Aside0 (Below wb.heap.size wb w') ∧ Aside0 (PtO wb ns Ns ∧ (∀ T ∈ Ns, T ≠ .nil ∧ TwoT T) ∧ Ns.length ≤ 2 * i ∧ (out ++ (Ts.take i).flatMap (fun T => O.filter (· == plc T))).length ≤ out.length + 5 * i ∧ ((out ++ (Ts.take i).flatMap (fun T => O.filter (· == plc T))).length < O.length → Ns = (Ts.take i).flatMap kids)))
    case atStart => exact ⟨0, [], [], rfl, ⟨Nat.zero_le _, rfl⟩, ⟨by simpa using H13.out⟩, ⟨Kd.R_nil _ _ _ _ _⟩, HX14, HX12, HW, ⟨trivial, by simp, by simp, by simp, fun _ => by simp⟩⟩
    case round =>
     clear H13 H14 H12 HW HX14 HX12
     obtain ⟨i, ns, Ns, rfl, HI, H13, H15, H14, H12, HW, HNS⟩ := hrel
     obtain ⟨kq2, rfl⟩ : ∃ x, gk = x + 1 := ⟨gk - 1, by have := HI.out; omega⟩
     by_cases q1 : i < Ts.length
     ·have p1 : decide ((i : Int) < (ps.length : Int)) = true := decide_eq_true (by have := HPL.out; omega)
      have p2 : decide (i < ps.length) = true := decide_eq_true (by have := HPL.out; omega)
      go_wp2
      clear p1 p2
      obtain ⟨n, pT, l, r, hT⟩ := node_of ((HTS.out.2 _ (getD_memT q1)).1)
      have HTT := Am hT
      have hpT := PtO_get i HTS.out.1 q1
      rw [hT] at hpT
      obtain ⟨bT, vl, vr, hptr, hbT, hl, hr, _⟩ := hpT
      have hptr : ps.getD i none = some ⟨bT, 0, none⟩ := by injection hptr
      obtain ⟨ql, rfl⟩ := hl.ptr
      obtain ⟨qr, rfl⟩ := hr.ptr
      have HPTR := Am hptr
      have HBT := Am hbT
      have HL := Am hl
      have HR := Am hr
      have HQ1 := Am q1
      obtain ⟨cur, hcur⟩ : ∃ cur, cur = out ++ (Ts.take i).flatMap (fun T => O.filter (· == plc T)) := ⟨_, rfl⟩
      have HCUR := Am hcur
      have H13' : Aside0 (Kd.R (Kd.int .i64) 3 wr wb.heap.size (fun _ => True) u13 (cur ++ (O.take 0).filter (· == pT))) := ⟨by rw [hcur]; simpa using H13.out⟩
      clear hT hptr hbT hl hr hcur H13
      go_loopg [13, 17] (ls.length + 1) (fun kq v13 v17 w' => ∃ j : Nat, v17 = .int .i64 j ∧ Aside0 (j ≤ ls.length ∧ kq + j = ls.length + 1) ∧ Aside0 (Kd.R (Kd.int .i64) 3 w' wb.heap.size (fun _ => True) v13 (cur ++ (O.take j).filter (· == pT))) ∧ Aside0 (Kd.R kP 94 w' wb.heap.size (fun k => some k ≠ (.slice A14 ps.length c14 : Value).ownBlock ∧ some k ≠ (.slice (some ⟨g, 0, none⟩) ls.length cg : Value).ownBlock) u15 ns) ∧ Aside0 (Kd.R kP 94 w' wb.heap.size (fun k => some k ≠ (u15 : Value).ownBlock) (.slice A14 ps.length c14) ps) ∧ Aside0 (Kd.R kP 94 w' wb.heap.size (fun k => some k ≠ (u15 : Value).ownBlock) (.slice (some ⟨g, 0, none⟩) ls.length cg) ls) ∧ Aside0 (Below wb.heap.size wb w'))
      case atStart => exact ⟨0, rfl, ⟨Nat.zero_le _, rfl⟩, H13', H15, H14, H12, HW⟩
      case round =>
       clear H13' H15 H14 H12 HW
       obtain ⟨j, rfl, HJ, H13, H15, H14, H12, HW⟩ := hrel
       obtain ⟨kq3, rfl⟩ : ∃ x, gk = x + 1 := ⟨gk - 1, by have := HJ.out; omega⟩
       by_cases q2 : j < ls.length
       ·have hLm : OT.getD j .nil ∈ OT := getD_memT (by have := HOL.out; omega)
        obtain ⟨nL, pL, lL, rL, hL⟩ := node_of (HNE.out _ hLm)
        have hpL := PtO_get j HPT.out (by have := HOL.out; omega)
        rw [hL] at hpL
        obtain ⟨bL, vlL, vrL, hptL, hbL, hlL, hrL, _⟩ := hpL
        obtain ⟨q1L, rfl⟩ := hlL.ptr
        obtain ⟨q2L, rfl⟩ := hrL.ptr
        have hptL : ls.getD j none = some ⟨bL, 0, none⟩ := by injection hptL
        have hOj : O.getD j 0 = pL := by
         rw [HOO.out, List.getD, List.getElem?_map]
         have hj : j < OT.length := by have := HOL.out; omega
         rw [List.getD, List.getElem?_eq_getElem hj, Option.getD_some] at hL
         rw [List.getElem?_eq_getElem hj, hL]
         rfl
        have y12 := at_P0 (Kd.R_reads' H12.out).2.2 j q2
        rw [hptL] at y12
        obtain ⟨ad14, e14, y14⟩ := at_P (Kd.R_reads' H14.out).2.2 i (by have := HPL.out; have := HQ1.out; omega)
        subst e14
        rw [HPTR.out] at y14
        have p1 : decide ((j : Int) < (ls.length : Int)) = true := decide_eq_true (by omega)
        have p2 : decide (j < ls.length) = true := decide_eq_true q2
        have p3 : (0 ≤ (j : Int)) = True := eq_true (by omega)
        have p4 : ((j : Int) < (ls.length : Int)) = True := eq_true (by omega)
        have p5 : (0 ≤ (i : Int)) = True := eq_true (by omega)
        have p6 : ((i : Int) < (ps.length : Int)) = True := eq_true (by have := HPL.out; have := HQ1.out; omega)
        have Y12 := Am y12
        have Y14 := Am y14
        have HBL := Am (blkB HW.out hbL)
        have HBT1 := Am (blkB HW.out HBT.out)
        have HOJ := Am hOj
        have HQ2 := Am q2
        clear hLm hL hptL hbL hlL hrL hOj y12 y14
        go_wp2
        refine sG 15 (w0 := wr) (below_drew (Below.refl _ _)) fun w6 hHeld => ?_
        refine pu 0 59 ?_
        refine pu 1 60 ?_
        refine pu 2 61 ?_
        refine ta 3 62 hHeld (hy := by intro w' hs; have y := cellB hs Y12.out; go_simp; with_reducible rfl) ?_
        refine pu 4 63 ?_
        refine pu 5 64 ?_
        refine tb 6 65 hHeld (fun _ s => blkB s HBL.out) ?_
        refine pu 7 66 ?_
        refine pu 8 67 ?_
        refine pu 9 68 ?_
        refine ta 10 69 hHeld (hy := by intro w' hs; have y := cellB hs Y14.out; go_simp; with_reducible rfl) ?_
        refine pu 11 70 ?_
        refine pu 12 71 ?_
        refine tb 13 72 hHeld (fun _ s => blkB s HBT1.out) ?_
        refine pu 14 73 ?_
        refine done_ (by kernel_rfl) ?_
        obtain ⟨z0, z1, z2, z3, z4, z5, z6, z7, z8⟩ := rd9 (blkB hHeld HBT1.out)
        have x14 := cellB hHeld Y14.out
        have G13 := Am (Kd.R_below H13.out hHeld)
        have G15 := Am (Kd.R_below H15.out hHeld)
        have G14 := Am (Kd.R_below H14.out hHeld)
        have G12 := Am (Kd.R_below H12.out hHeld)
        have GW := Am (HW.out.trans (hHeld.mono HW.out.size))
        have hlen : Aside0 ((cur ++ (O.take j).filter (· == pT)).length ≤ 100000) := ⟨by
         have h1 := HNS.out.2.2.2.1
         rw [← HCUR.out] at h1
         have h2 := HNUM.out
         have h3 := HQ1.out
         have h4 : Ts.length ≤ 1024 := Nat.le_trans (Nat.le_mul_of_pos_right _ (Nat.two_pow_pos _)) h2.1
         have h5 := HOL.out
         have h6 := List.length_filter_le (· == pT) (O.take j)
         rw [List.length_take] at h6
         rw [List.length_append]
         omega⟩
        clear hHeld H13 H15 H14 H12 HW
        by_cases hpp : pL = pT
        ·have p7 : (pL == pT) = true := by simpa using hpp
         go_wp2_with (first | ((with_reducible refine gate_builtin (b := .append) (xs := #[.tmp 74, .tmp 82]) rfl ?_); at_builtin; refine Kd.R_append (Kd.int .i64) (w0 := wb) wb.heap.size rfl (.tmp 74) (.tmp 82) 31 3 (.int .i64 0) 8 rfl Try.underlying31 info3 rfl (by decide) (by omega) u13 (cur ++ (O.take j).filter (· == pT)) pT [.int .i64 pT] (fun _ => True) (fun _ => False) rfl rfl ?aP (fun _ hk => hk.elim) ?aF ?aO ?aB ?aS ?aL ?_; (case aP => exact rfl); (case aB => exact GW.out); (case aF => exact (fun _ _ => trivial)); (case aO => exact G13.out); (case aS => exact (below_size GW.out)); (case aL => have := hlen.out; omega); intro vN wN hoN hbN hgN hatN; have HoN := Am hoN; have HbN := Am hbN; have HH15 := Am (Kd.R_over' G15.out (Kd.R_typed G13.out) (by decide) hgN); have HH14 := Am (Kd.R_over' G14.out (Kd.R_typed G13.out) (by decide) hgN); have HH12 := Am (Kd.R_over' G12.out (Kd.R_typed G13.out) (by decide) hgN); clear hoN hbN hgN hatN))
         go_roundg kq3
         case measure => omega
         case rel => exact ⟨j + 1, by have := HOL.out; have := HQ2.out; first | rfl | (rw [Go.IntWalk.wrap64_in _ (by omega)]; rfl), ⟨by have := HQ2.out; omega, by have := HJ.out.2; omega⟩, ⟨by rw [hit_plc j (by have := HOL.out; have := HQ2.out; omega), HOJ.out, if_pos hpp, ← List.append_assoc]; exact HoN.out⟩, HH15, HH14, HH12, HbN⟩
        ·have p7 : (pL == pT) = false := by simpa using hpp
         go_wp2
         go_roundg kq3
         case measure => omega
         case rel => exact ⟨j + 1, by have := HOL.out; have := HQ2.out; first | rfl | (rw [Go.IntWalk.wrap64_in _ (by omega)]; rfl), ⟨by have := HQ2.out; omega, by have := HJ.out.2; omega⟩, ⟨by rw [hit_plc j (by have := HOL.out; have := HQ2.out; omega), HOJ.out, if_neg hpp, List.append_nil]; exact G13.out⟩, G15, G14, G12, GW⟩
       ·have p1 : decide ((j : Int) < (ls.length : Int)) = false := decide_eq_false (by omega)
        have p2 : decide (j < ls.length) = false := decide_eq_false q2
        have htk : O.take j = O := List.take_of_length_le (by have := HOL.out; omega)
        obtain ⟨cur2, hc2⟩ : ∃ cur2, cur2 = cur ++ O.filter (· == pT) := ⟨_, rfl⟩
        have G13 : Aside0 (Kd.R (Kd.int .i64) 3 wr wb.heap.size (fun _ => True) u13 cur2) := ⟨by rw [hc2, ← htk]; exact H13.out⟩
        have hfl : out ++ (Ts.take (i + 1)).flatMap (fun T => O.filter (· == plc T)) = cur2 := by
         rw [List.take_succ_eq_append_getElem HQ1.out, List.flatMap_append, ← List.append_assoc, ← HCUR.out, hc2]
         have hT := HTT.out
         rw [List.getD, List.getElem?_eq_getElem HQ1.out, Option.getD_some] at hT
         rw [hT]
         simp [plc]
        have hkd : (Ts.take (i + 1)).flatMap kids = (Ts.take i).flatMap kids ++ kids (.node n pT l r) := by
         rw [List.take_succ_eq_append_getElem HQ1.out, List.flatMap_append]
         have hT := HTT.out
         rw [List.getD, List.getElem?_eq_getElem HQ1.out, Option.getD_some] at hT
         rw [hT]
         simp
        have hln2 : cur2.length ≤ out.length + 5 * (i + 1) ∧ cur.length ≤ cur2.length := by
         have h1 := HNS.out.2.2.2.1
         rw [← HCUR.out] at h1
         have h5 := HOL.out
         have h6 := List.length_filter_le (· == pT) O
         rw [hc2, List.length_append]
         omega
        obtain ⟨ad14, e14, y14⟩ := at_P (Kd.R_reads' H14.out).2.2 i (by have := HPL.out; have := HQ1.out; omega)
        subst e14
        rw [HPTR.out] at y14
        have p5 : (0 ≤ (i : Int)) = True := eq_true (by omega)
        have p6 : ((i : Int) < (ps.length : Int)) = True := eq_true (by have := HPL.out; have := HQ1.out; omega)
        obtain ⟨A13, c13, rfl⟩ := Kd.R_slice G13.out
        have HC2 := Am hc2
        have HFL := Am hfl
        have HKK := Am hkd
        have HL2 := Am hln2
        have Y14 := Am y14
        have HBT1 := Am (blkB HW.out HBT.out)
        obtain ⟨z0, z1, z2, z3, z4, z5, z6, z7, z8⟩ := rd9 HBT1.out
        clear hc2 hfl hkd hln2 htk H13
        cases l with
        | nil =>
         obtain rfl : ql = none := by injection HL.out
         go_wp2
         go_roundg kq2
         case measure => omega
         case rel => exact ⟨i + 1, ns, Ns, by have := HQ1.out; have := HNUM.out; first | rfl | (rw [Go.IntWalk.wrap64_in _ (by have h4 : Ts.length ≤ 1024 := Nat.le_trans (Nat.le_mul_of_pos_right _ (Nat.two_pow_pos _)) (by first | assumption | exact HNUM.out.1); omega)]; rfl), ⟨by have := HQ1.out; omega, by have := HI.out.2; omega⟩, ⟨by rw [HFL.out]; exact G13.out⟩, H15, H14, H12, HW, ⟨HNS.out.1, HNS.out.2.1, by have := HNS.out.2.2.1; omega, by rw [HFL.out]; exact HL2.out.1, fun h => by
          rw [HFL.out] at h
          rw [HKK.out, HNS.out.2.2.2.2 (by rw [← HCUR.out]; have := HL2.out.2; omega)]
          simp [kids]⟩⟩
        | node nl pl ll lr =>
         obtain ⟨al, e⟩ := HL.out.some (by simp)
         obtain rfl : ql = some al := by injection e
         by_cases q3 : cur2.length < ls.length
         ·have p7 : decide ((cur2.length : Int) < (ls.length : Int)) = true := decide_eq_true (by omega)
          have p8 : decide (cur2.length < ls.length) = true := decide_eq_true q3
          go_wp2
          clear z0 z1 z2 z3 z4 z5 z6 z7 z8 y14 p7 p8
          refine sT 18 [] (S := fun W => Below wb.heap.size wb W ∧ W.cell? (ad14.add i) = some (.pointer (some ⟨bT, 0, none⟩))) ⟨below_drew HW.out, Y14.out⟩ fun hHeld => ?_
          refine gen_any (fun W => (Below wb.heap.size wb W ∧ W.cell? (ad14.add i) = some (.pointer (some ⟨bT, 0, none⟩))) ∧ Kd.R (Kd.int .i64) 3 W wb.heap.size (fun _ => True) (.slice A13 cur2.length c13) cur2 ∧ Kd.R kP 94 W wb.heap.size (fun k => some k ≠ (.slice (some ad14) ps.length c14 : Value).ownBlock ∧ some k ≠ (.slice (some ⟨g, 0, none⟩) ls.length cg : Value).ownBlock) u15 ns ∧ Kd.R kP 94 W wb.heap.size (fun k => some k ≠ (u15 : Value).ownBlock) (.slice (some ad14) ps.length c14) ps ∧ Kd.R kP 94 W wb.heap.size (fun k => some k ≠ (u15 : Value).ownBlock) (.slice (some ⟨g, 0, none⟩) ls.length cg) ls) ⟨⟨below_drew HW.out, Y14.out⟩, Kd.R_drew G13.out, Kd.R_drew H15.out, Kd.R_drew H14.out, Kd.R_drew H12.out⟩ (fun w6 ⟨k0, k1, k2, k3, k4⟩ => ?_)
          clear hHeld G13 H15 H14 H12 HW
          have hHeld := k0
          have G13 := Am k1
          have G15 := Am k2
          have G14 := Am k3
          have G12 := Am k4
          have GW := Am k0.1
          clear k0 k1 k2 k3 k4
          refine pu 0 99 ?_
          refine pu 1 100 ?_
          refine pu 2 101 ?_
          refine pu 3 102 ?_
          refine ta 4 103 hHeld (hy := by intro w' hs; have y := hs.2; go_simp; with_reducible rfl) ?_
          refine pu 5 104 ?_
          refine pu 6 105 ?_
          refine tb 7 106 hHeld (fun _ s => blkB s.1 HBT.out) ?_
          refine pu 8 107 ?_
          refine pu 9 108 ?_
          refine pu 10 109 ?_
          refine ta 11 110 hHeld (hy := by intro w' hs; have y := hs.2; go_simp; with_reducible rfl) ?_
          refine pu 12 111 ?_
          refine pu 13 112 ?_
          refine tb 14 113 hHeld (fun _ s => blkB s.1 HBT.out) ?_
          refine on 15 114 fun K hK => ?_
          refine Kd.R_lit_step kP _ 94 ?hg (N := 114) ?hd (xs := ([some al, qr] : List (Option Addr))) (inner := [.pointer (some al), .pointer qr]) (ok := fun _ => True) (okp := fun _ => True) ?hr ?hp (fun _ hk => hk) trivial (Below.refl _ _) (Nat.le_refl _) (by simp) ?_
          case hd => rfl
          case hg => rfl
          case hr => first | (go_simp; done) | (go_simp; rfl)
          case hp => exact repsP _ _ _ _
          intro v114 w7 ho hb hg_ hnew_
          clear hg_ hnew_
          have F13 := Am (Kd.R_below G13.out hb)
          have F15 := Am (Kd.R_below G15.out hb)
          have F14 := Am (Kd.R_below G14.out hb)
          have F12 := Am (Kd.R_below G12.out hb)
          have FL := Am (Kd.R_lower ho GW.out.size)
          have FW := Am (And.intro (GW.out.trans (hb.mono GW.out.size)) (cellB hb hHeld.2))
          obtain ⟨A114, c114, rfl⟩ := Kd.R_slice FL.out
          clear ho hb G13 G15 G14 G12 GW
          refine hK.out _ _ FW.out (fun hHeld => ?_)
          clear hK K
          refine nm 114 ?_
          refine on 16 115 fun K hK => ?_
          refine Kd.R_append_rows_step kP (Rr := kP.K w7) (w0 := wb) wb.heap.size (by rfl) (.tmp 99) (.tmp 114) 104 94 (.pointer none) 8 rfl Try.underlying104 info94 rfl (by decide) (by omega) u15 ns ([some al, qr] : List (Option Addr)) _ _ _ (fun k => some k ≠ (.slice (some ad14) ps.length c14 : Value).ownBlock ∧ some k ≠ (.slice (some ⟨g, 0, none⟩) ls.length cg : Value).ownBlock) (fun _ => False) rfl rfl ?aO ?aR ?aK (fun _ h => h.elim) ?aF ?aB ?aS ?aL ?_
          case aR => exact (Kd.R_reads' FL.out).2.2
          case aK => exact (fun _ _ h => h)
          case aB => exact FW.out.1
          case aF => exact (fun k_ hk => ⟨Kd.fresh' (Kd.R_lt F14.out) k_ hk, Kd.fresh' (Kd.R_lt F12.out) k_ hk⟩)
          case aO => exact F15.out
          case aS => exact FW.out.1.size
          case aL => have h1 := HNS.out.2.2.1; have h2 := PtO_len HNS.out.1; have h3 := HQ1.out; have h4 : Ts.length ≤ 1024 := Nat.le_trans (Nat.le_mul_of_pos_right _ (Nat.two_pow_pos _)) HNUM.out.1; simp only [List.length_cons, List.length_nil]; omega
          intro v115 w8 ho hb hg hat
          have G13 := Am (Kd.R_over' F13.out (Kd.R_typed F15.out) (by decide) hg)
          have G14 := Am (R_okvP (Kd.R_after (ok := (fun _ => True)) (Kd.R_mono F14.out (fun _ hk => ⟨trivial, hk⟩)) hg hat) (Q := fun k => some k ≠ (v115 : Value).ownBlock) (fun k hk => ((Kd.R_after (ok := (fun _ => True)) (Kd.R_mono F14.out (fun _ hk => ⟨trivial, hk⟩)) hg hat).1 k hk).2))
          have G12 := Am (R_okvP (Kd.R_after (ok := (fun _ => True)) (Kd.R_mono F12.out (fun _ hk => ⟨trivial, hk⟩)) hg hat) (Q := fun k => some k ≠ (v115 : Value).ownBlock) (fun k hk => ((Kd.R_after (ok := (fun _ => True)) (Kd.R_mono F12.out (fun _ hk => ⟨trivial, hk⟩)) hg hat).1 k hk).2))
          have G15 := Am ho
          have GW := Am hb
          obtain ⟨ad2, e2, y2⟩ := at_P (Kd.R_reads' G14.out).2.2 i (by have := HPL.out; have := HQ1.out; omega)
          cases e2
          rw [HPTR.out] at y2
          clear ho hb hg hat F13 F15 F14 F12 FL FW
          refine hK.out _ _ ⟨GW.out, y2⟩ (fun hHeld => ?_)
          clear hK K
          refine nm 115 ?_
          refine pu 17 15 ?_
          refine done_ (by kernel_rfl) ?_
          have hk9 : kids (.node n pT (.node nl pl ll lr) r) = [.node nl pl ll lr, r] := rfl
          have h2T : TwoT (.node n pT (.node nl pl ll lr) r) := by
           have := (HTS.out.2 _ (getD_memT HQ1.out)).2
           rwa [HTT.out] at this
          have hrn : r ≠ .nil := fun e => by have := h2T.1.2 e; cases this
          go_wp2
          go_roundg kq2
          case measure => omega
          case rel => exact ⟨i + 1, ns ++ [some al, qr], Ns ++ [.node nl pl ll lr, r], by have := HQ1.out; have := HNUM.out; first | rfl | (rw [Go.IntWalk.wrap64_in _ (by have h4 : Ts.length ≤ 1024 := Nat.le_trans (Nat.le_mul_of_pos_right _ (Nat.two_pow_pos _)) (by first | assumption | exact HNUM.out.1); omega)]; rfl), ⟨by have := HQ1.out; omega, by have := HI.out.2; omega⟩, ⟨by rw [HFL.out]; exact G13.out⟩, G15, G14, G12, GW, ⟨PtO_app HNS.out.1 ⟨HL.out, HR.out, trivial⟩, fun T hT => by
           rcases List.mem_append.1 hT with hT | hT
           ·exact HNS.out.2.1 T hT
           ·rcases List.mem_cons.1 hT with rfl | hT
            ·exact ⟨by simp, h2T.2.1⟩
            ·rw [List.mem_singleton.1 hT]; exact ⟨hrn, h2T.2.2⟩, by have := HNS.out.2.2.1; rw [List.length_append]; simp only [List.length_cons, List.length_nil]; omega, by rw [HFL.out]; exact HL2.out.1, fun h => by
           rw [HFL.out] at h
           rw [HKK.out, HNS.out.2.2.2.2 (by rw [← HCUR.out]; have := HL2.out.2; omega), hk9]⟩⟩
         ·have p7 : decide ((cur2.length : Int) < (ls.length : Int)) = false := decide_eq_false (by omega)
          have p8 : decide (cur2.length < ls.length) = false := decide_eq_false q3
          go_wp2
          go_roundg kq2
          case measure => omega
          case rel => exact ⟨i + 1, ns, Ns, by have := HQ1.out; have := HNUM.out; first | rfl | (rw [Go.IntWalk.wrap64_in _ (by have h4 : Ts.length ≤ 1024 := Nat.le_trans (Nat.le_mul_of_pos_right _ (Nat.two_pow_pos _)) (by first | assumption | exact HNUM.out.1); omega)]; rfl), ⟨by have := HQ1.out; omega, by have := HI.out.2; omega⟩, ⟨by rw [HFL.out]; exact G13.out⟩, H15, H14, H12, HW, ⟨HNS.out.1, HNS.out.2.1, by have := HNS.out.2.2.1; omega, by rw [HFL.out]; exact HL2.out.1, fun h => by
           rw [HFL.out] at h
           exact absurd h (by have := HOL.out; omega)⟩⟩
     ·have p1 : decide ((i : Int) < (ps.length : Int)) = false := decide_eq_false (by have := HPL.out; omega)
      have p2 : decide (i < ps.length) = false := decide_eq_false (by have := HPL.out; omega)
      have hti : Ts.take i = Ts := List.take_of_length_le (by omega)
      obtain ⟨F, hF⟩ : ∃ F, F = out ++ Ts.flatMap (fun T => O.filter (· == plc T)) := ⟨_, rfl⟩
      have G13 : Aside0 (Kd.R (Kd.int .i64) 3 wr wb.heap.size (fun _ => True) u13 F) := ⟨by have := H13.out; rw [hti] at this; rw [hF]; exact this⟩
      have hns := HNS.out
      rw [hti, ← hF] at hns
      have hrow := HROW.out
      rw [← hF] at hrow
      have hil : i = Ts.length := by have := HI.out; omega
      rw [hil] at hns
      obtain ⟨A13, c13, rfl⟩ := Kd.R_slice G13.out
      obtain ⟨A15, c15, rfl⟩ := Kd.R_slice H15.out
      have HNS2 := Am hns
      have HF := Am hF
      clear HNS hns hF hti H13 HROW hil
      by_cases hF1 : F.length = O.length
      ·rw [if_pos hF1] at hrow
       obtain rfl := Option.some.inj hrow
       have p7 : ((F.length : Int) == (ls.length : Int)) = true := by have := HOL.out; simp; omega
       have p8 : (F.length == ls.length) = true := by have := HOL.out; simp; omega
       clear hF1
       go_wp2
       go_ret2
       exact ⟨_, rfl, Kd.R_lower G13.out HB2.out.size, bel_t' HB2.out HW.out⟩
      ·rw [if_neg hF1] at hrow
       by_cases hF2 : F.length < O.length
       ·rw [if_pos hF2] at hrow
        have HROW := Am hrow
        have p7 : ((F.length : Int) == (ls.length : Int)) = false := by have := HOL.out; simp; omega
        have p8 : (F.length == ls.length) = false := by have := HOL.out; simp; omega
        have HF2 := Am hF2
        clear hrow hF1 hF2
        go_wp2
        go_roundg kq1
        case measure => omega
        case rel => exact ⟨F, ns, Ns, ⟨by rw [HNS2.out.2.2.2.2 HF2.out]; exact HROW.out⟩, ⟨by
         have h1 := HNS2.out.2.2.1
         have h2 := HNUM.out.1
         rw [Nat.pow_succ, Nat.mul_comm (2 ^ kq1) 2, ← Nat.mul_assoc, Nat.mul_comm Ts.length 2] at h2
         exact Nat.le_trans (Nat.mul_le_mul_right _ h1) h2, by
         have h1 := HNS2.out.2.2.2.1
         have h2 := HNUM.out
         have h4 : Ts.length ≤ 1024 := Nat.le_trans (Nat.le_mul_of_pos_right _ (Nat.two_pow_pos _)) h2.1
         omega, by have := HNUM.out; omega⟩, ⟨HNS2.out.1, HNS2.out.2.1⟩, G13, ⟨R_okvP H15.out (fun _ _ => trivial)⟩, ⟨R_okvP H12.out (fun _ _ => trivial)⟩, HW⟩
       ·rw [if_neg hF2] at hrow
        cases hrow
def rowsP (O : List Int) : Nat → List Int → List Tr → Option (List Int)
 | 0, _, _ => none
 | _ + 1, out, [] => some out
 | k + 1, out, T :: row => rowsP O k (out ++ ((T :: row).filter (fun T => decide (plc T ∈ O))).map plc) (((T :: row).filter (fun T => decide (plc T ∈ O))).flatMap kids)
theorem outs_ne {m rt : Bool} {T : Tr} {kind : Int} (hk : 1 ≤ kind ∧ kind ≤ 12) (hT : T ≠ .nil) (hc : canT m rt T kind = true) : ∀ U ∈ outsT m T kind, U ≠ .nil := by
 have hd : kind = 1 ∨ kind = 2 ∨ kind = 3 ∨ kind = 4 ∨ kind = 5 ∨ kind = 6 ∨ kind = 7 ∨ kind = 8 ∨ kind = 9 ∨ kind = 10 ∨ kind = 11 ∨ kind = 12 := by omega
 have hw : ∀ U : Tr, wt U ≠ -1 → U ≠ .nil := fun U h => wt_ne h
 rcases hd with rfl | rfl | rfl | rfl | rfl | rfl | rfl | rfl | rfl | rfl | rfl | rfl
 all_goals
  simp [canT, can1, can2, can3, can4, can5, can6, can7, can8, can9, can10, can11] at hc
  intro U hU
  simp [outsT] at hU
  (try rcases hU with rfl | hU)
  all_goals (try rcases hU with rfl | hU)
  all_goals (try rcases hU with rfl | hU)
  all_goals (try rcases hU with rfl | hU)
  all_goals (try subst hU)
  all_goals first | exact hT | (apply hw; omega)
def PtG (R : Option Addr → Tr → Prop) : List (Option Addr) → List Tr → Prop
 | [], [] => True
 | p :: ps, T :: Ts => R p T ∧ PtG R ps Ts
 | _, _ => False
theorem PtG_len {R : Option Addr → Tr → Prop} : ∀ {ps : List (Option Addr)} {Ts : List Tr}, PtG R ps Ts → ps.length = Ts.length
 | [], [], _ => rfl
 | _ :: _, _ :: _, h => by rw [List.length_cons, List.length_cons, PtG_len h.2]
 | [], _ :: _, h => h.elim
 | _ :: _, [], h => h.elim
theorem PtG_get {R : Option Addr → Tr → Prop} : ∀ {ps : List (Option Addr)} {Ts : List Tr} (i : Nat), PtG R ps Ts → i < Ts.length → R (ps.getD i none) (Ts.getD i .nil)
 | _ :: _, _ :: _, 0, h, _ => h.1
 | _ :: ps, _ :: Ts, i + 1, h, hi => by
  have := PtG_get (ps := ps) (Ts := Ts) i h.2 (by simpa using hi)
  simpa using this
 | [], [], _, _, hi => by simp at hi
 | [], _ :: _, _, h, _ => h.elim
 | _ :: _, [], _, h, _ => h.elim
theorem PtG_app {R : Option Addr → Tr → Prop} : ∀ {ps qs : List (Option Addr)} {Ts Us : List Tr}, PtG R ps Ts → PtG R qs Us → PtG R (ps ++ qs) (Ts ++ Us)
 | [], _, [], _, _, h => h
 | _ :: _, _, _ :: _, _, h, h' => ⟨h.1, PtG_app h.2 h'⟩
 | [], _, _ :: _, _, h, _ => h.elim
 | _ :: _, _, [], _, h, _ => h.elim
theorem PtG_mem {R : Option Addr → Tr → Prop} : ∀ {ps : List (Option Addr)} {Ts : List Tr}, PtG R ps Ts → ∀ p ∈ ps, ∃ T ∈ Ts, R p T
 | _ :: _, _ :: _, h, p, hp => by
  rcases List.mem_cons.1 hp with rfl | hp
  ·exact ⟨_, List.mem_cons_self, h.1⟩
  ·obtain ⟨T, hT, hR⟩ := PtG_mem h.2 p hp
   exact ⟨T, List.mem_cons_of_mem _ hT, hR⟩
 | [], [], _, p, hp => by simp at hp
 | [], _ :: _, h, _, _ => h.elim
 | _ :: _, [], h, _, _ => h.elim
theorem PtG_mem' {R : Option Addr → Tr → Prop} : ∀ {ps : List (Option Addr)} {Ts : List Tr}, PtG R ps Ts → ∀ T ∈ Ts, ∃ p ∈ ps, R p T
 | _ :: _, _ :: _, h, T, hT => by
  rcases List.mem_cons.1 hT with rfl | hT
  ·exact ⟨_, List.mem_cons_self, h.1⟩
  ·obtain ⟨p, hp, hR⟩ := PtG_mem' h.2 T hT
   exact ⟨p, List.mem_cons_of_mem _ hp, hR⟩
 | [], [], _, T, hT => by simp at hT
 | [], _ :: _, h, _, _ => h.elim
 | _ :: _, [], h, _, _ => h.elim
theorem PtG_nodup {R : Option Addr → Tr → Prop} (hi : ∀ q T T', R q T → R q T' → T ≠ .nil → T' ≠ .nil → plc T = plc T') : ∀ {ps : List (Option Addr)} {Ts : List Tr}, PtG R ps Ts → (∀ T ∈ Ts, T ≠ .nil) → (Ts.map plc).Nodup → ps.Nodup
 | [], [], _, _, _ => List.nodup_nil
 | p :: ps, T :: Ts, h, hn, hd => by
  rw [List.map_cons, List.nodup_cons] at hd
  refine List.nodup_cons.2 ⟨fun hp => ?_, PtG_nodup hi h.2 (fun T hT => hn T (List.mem_cons_of_mem _ hT)) hd.2⟩
  obtain ⟨T', hT', hR⟩ := PtG_mem h.2 p hp
  exact hd.1 (by rw [hi p T T' h.1 hR (hn T List.mem_cons_self) (hn T' (List.mem_cons_of_mem _ hT'))]; exact List.mem_map_of_mem hT')
 | [], _ :: _, h, _, _ => h.elim
 | _ :: _, [], h, _, _ => h.elim
theorem nodup_take {l : List (Option Addr)} (h : l.Nodup) {i : Nat} (hi : i < l.length) : l.getD i none ∉ l.take i := by
 rw [List.getD, List.getElem?_eq_getElem hi, Option.getD_some]
 intro hm
 obtain ⟨j, hj, e⟩ := List.getElem_of_mem hm
 rw [List.length_take] at hj
 rw [List.getElem_take] at e
 exact List.pairwise_iff_getElem.1 h j i (by omega) hi (by omega) e
theorem below_from {W W1 : World} {g B : Nat} (h : W.grownBy W1 (some g)) (hB : B ≤ g) (hs : B ≤ W.heap.size) : Below B W W1 :=
 ⟨h.os, h.tape, h.output, h.size, fun k hk => h.block k (by omega) (fun e => by injection e with e; omega)⟩
theorem touch_pt {R : Option Addr → Tr → Prop} {m : Bool} {X : Tr} {p pl pr pll plr prl prr pa pb : Option Addr} (h : R p X) (hl : R pl (lT m X)) (hr : R pr (rT m X)) (hlr : R plr (rT m (lT m X))) (hrl : R prl (lT m (rT m X))) (hrr : R prr (rT m (rT m X))) (ha : R pa (lT m (lT m (rT m X)))) (hb : R pb (rT m (lT m (rT m X)))) (kind : Int) (hk : 1 ≤ kind ∧ kind ≤ 12) : PtG R (touchP p pl pr pll plr prl prr pa pb kind) (outsT m X kind) := by
 have hd : kind = 1 ∨ kind = 2 ∨ kind = 3 ∨ kind = 4 ∨ kind = 5 ∨ kind = 6 ∨ kind = 7 ∨ kind = 8 ∨ kind = 9 ∨ kind = 10 ∨ kind = 11 ∨ kind = 12 := by omega
 rcases hd with rfl | rfl | rfl | rfl | rfl | rfl | rfl | rfl | rfl | rfl | rfl | rfl <;> simp [touchP, outsT, PtG, h, hl, hr, hlr, hrl, hrr, ha, hb]
theorem map_kept {α : Type} {d : Kd α} {e : Nat} {W W1 : World} {base bm : Nat} {ok : Nat → Prop} {v : Value} {xs : List α} {es : Array MapEntry} {c : Nat} (hb : W.heap[bm]? = some (.map es c)) (h : Kd.R d e W base ok v xs) (hg : W.grownBy W1 v.ownBlock) : W1.heap[bm]? = some (.map es c) := by
 have hlt : bm < W.heap.size := (Array.getElem?_eq_some_iff.1 hb).1
 refine (hg.block bm hlt (fun e' => ?_)).trans hb
 obtain ⟨cells, hc⟩ := Kd.R_typed h bm e'.symm
 rw [hb] at hc
 simp at hc
theorem R_map {α : Type} {d : Kd α} {e : Nat} {W W1 : World} {base bm : Nat} {ok : Nat → Prop} {v : Value} {xs : List α} (h : Kd.R d e W base (fun k => ok k ∧ k ≠ bm) v xs) (hg : W.grownBy W1 (some bm)) : Kd.R d e W1 base (fun k => ok k ∧ k ≠ bm) v xs :=
 Kd.R_step h (fun k hk hlt => hg.block k hlt (fun e => hk.2 (by injection e)))
theorem touched_ok (k : Nat) (A0 : Option Addr) (c0 : Nat) (l0 : List S34) (c : Nat) (kind : Int) (mir : Bool) (r1 : Int) (r2 : List Bool) (w : World) (hr0 : Kd.C k34 w A0 l0.length l0) (hc0 : l0.length ≤ c0)
  (h : steps_keys.f k l0 = some (r1, r2, 0)) (hm : steps_Move_is.f kind mir = some true) (hkd : 1 ≤ kind ∧ kind ≤ 12) (hp1 : (c : Int) < l0.length) (hp2 : (c : Int) < r2.length) (hbel : rdOf false r2 c = true) (ht : OkT l0) (K : Nat) (X : Tr) (hX : mkT l0 K c = some X) (rt : Bool) (hrt : ((c : Int) == r1) = rt) (hcan : canT mir rt X kind = true) (h2T : TwoT X) (hnd : ((outsT mir X kind).map plc).Nodup) (res : List Int) (hres : rowsP ((outsT mir X kind).map plc) 10 [] [X] = some res) :
  Calls Try.prog 32 #[.slice A0 l0.length c0, .int .i64 c, .agg #[.int .i64 kind, .bool mir]] w fun e w' => ∃ v, e = .returned (.tuple #[v, .int .i64 0]) ∧ Kd.R (Kd.int .i64) 3 w' w.heap.size (fun _ => True) v res ∧ Below w.heap.size w w' := by
 have H2T := Am h2T
 have HND := Am hnd
 have HRES := Am hres
 clear h2T hnd hres
 have HCAN := Am hcan
 clear hcan
 have HR := Am hr0
 have HC := Am hc0
 have H := Am h
 have HM := Am hm
 have HT := Am ht
 have HX := Am hX
 have HKD := Am hkd
 have HBEL := Am hbel
 have hlen : l0.length ≤ 100000 := ht.len
 have hcl : c < l0.length := by omega
 clear hr0 hc0 h hm ht hX hkd hbel
 go_enter Try.func32, Try.ntmps32
 go_wp2_with (fail)
 refine (at_okt k A0 c0 l0 c kind mir r1 r2 _ (Kd.C_below HR.out ((Below.refl _ _).alloc (Nat.le_refl _) _)) HC.out H.out (fun _ => HM.out) (by omega) hp1 hp2 HBEL.out (by omega) (fun i hi h4 => ⟨(HT.out.kids i hi h4).1, (HT.out.kids i hi h4).2.1, (HT.out.kids i hi h4).2.2.1⟩)).mono ?_
 rintro e w2 ⟨wg, rfl, hbg, hfo⟩
 have hbw : Below w.heap.size w wg := ((Below.refl _ _).alloc (Nat.le_refl _) _).trans (hbg.mono (by simp))
 have hg0 : w.heap.size < wg.heap.size := by have h_ := hbg.size; simp at h_; omega
 have hbx0 : wg.cell? ⟨w.heap.size, 0, none⟩ = some (.int .i64 kind) := (hbg.cell (p := ⟨w.heap.size, 0, none⟩) (by simp)).trans (World.cell?_alloc_at _ _ _ _ rfl)
 have hbx1 : wg.cell? ⟨w.heap.size, 1, none⟩ = some (.bool mir) := (hbg.cell (p := ⟨w.heap.size, 1, none⟩) (by simp)).trans (World.cell?_alloc_at _ _ _ _ rfl)
 have HBW := Am hbw
 have HFO := Am hfo
 have HX0 := Am hbx0
 have HX1 := Am hbx1
 have HRX : Aside0 (Rep (fun k_ => SetC wg.heap.size l0 c k_ ∧ k_ < w2.heap.size) w2 (.pointer (some ⟨wg.heap.size + 2 + 2 * c, 0, none⟩)) X) := ⟨(forest_rep hfo HX.out K c X HX.out (Nat.le_refl _)).bound⟩
 have hg2 : wg.heap.size < w2.heap.size := rowIs_lt hfo.ptrs
 have hpc : w2.drew.cell? ⟨wg.heap.size, c, none⟩ = some (.pointer (some ⟨wg.heap.size + 2 + 2 * c, 0, none⟩)) := (rowIs_cell hfo.ptrs c hcl).trans (by rw [if_pos hcl]; rfl)
 have hb0 : w2.drew.cell? ⟨w.heap.size, 0, none⟩ = some (.int .i64 kind) := (hfo.bel.cell (p := ⟨w.heap.size, 0, none⟩) hg0).trans hbx0
 have hb1 : w2.drew.cell? ⟨w.heap.size, 1, none⟩ = some (.bool mir) := (hfo.bel.cell (p := ⟨w.heap.size, 1, none⟩) hg0).trans hbx1
 clear hbg hbw hfo hbx0 hbx1
 go_wp2
 have HPC := Am hpc
 have HB0 := Am hb0
 have HB1 := Am hb1
 refine sT 11 [10] (S := fun w' => w'.cell? ⟨wg.heap.size, c, none⟩ = some (.pointer (some ⟨wg.heap.size + 2 + 2 * c, 0, none⟩)) ∧ w'.cell? ⟨w.heap.size, 0, none⟩ = some (.int .i64 kind) ∧ w'.cell? ⟨w.heap.size, 1, none⟩ = some (.bool mir)) ⟨hpc, hb0, hb1⟩ fun hHeld => ?_
 refine pu 0 31 ?_
 refine pu 1 32 ?_
 refine pu 2 33 ?_
 refine pu 5 36 ?_
 refine pu 6 37 ?_
 refine pu 7 38 ?_
 refine ta 3 34 hHeld ?_
 refine ta 4 35 hHeld ?_
 refine join_ (σ := Nat × Option Addr × Option Addr × Option Addr × Option Addr × Option Addr × Option Addr × Option Addr × Option Addr) 1 #[true, true, true, true, true, true, true, true, true, true, false] (fun s => [(39, .agg #[.bool mir, .pointer (some ⟨wg.heap.size + 2 + 2 * c, 0, none⟩), .pointer s.2.1, .pointer s.2.2.1, .pointer s.2.2.2.1, .pointer s.2.2.2.2.1, .pointer s.2.2.2.2.2.1, .pointer s.2.2.2.2.2.2.1, .pointer s.2.2.2.2.2.2.2.1, .pointer s.2.2.2.2.2.2.2.2, .bool rt]), (11, .pointer (some ⟨s.1, 0, none⟩))]) (fun s w' => Below w2.heap.size w2 w' ∧ w2.heap.size ≤ s.1 ∧ w'.heap[s.1]? = some (.cells #[.bool false, .pointer none, .pointer none, .pointer none, .pointer none, .pointer none, .pointer none, .pointer none, .pointer none, .pointer none, .bool false] 111 (0, 0)) ∧ Rep (fun k_ => SetC wg.heap.size l0 c k_ ∧ k_ < w2.heap.size) w' (.pointer s.2.1) (lT mir X) ∧ Rep (fun k_ => SetC wg.heap.size l0 c k_ ∧ k_ < w2.heap.size) w' (.pointer s.2.2.1) (rT mir X) ∧ Rep (fun k_ => SetC wg.heap.size l0 c k_ ∧ k_ < w2.heap.size) w' (.pointer s.2.2.2.1) (lT mir (lT mir X)) ∧ Rep (fun k_ => SetC wg.heap.size l0 c k_ ∧ k_ < w2.heap.size) w' (.pointer s.2.2.2.2.1) (rT mir (lT mir X)) ∧ Rep (fun k_ => SetC wg.heap.size l0 c k_ ∧ k_ < w2.heap.size) w' (.pointer s.2.2.2.2.2.1) (lT mir (rT mir X)) ∧ Rep (fun k_ => SetC wg.heap.size l0 c k_ ∧ k_ < w2.heap.size) w' (.pointer s.2.2.2.2.2.2.1) (rT mir (rT mir X)) ∧ Rep (fun k_ => SetC wg.heap.size l0 c k_ ∧ k_ < w2.heap.size) w' (.pointer s.2.2.2.2.2.2.2.1) (lT mir (lT mir (rT mir X))) ∧ Rep (fun k_ => SetC wg.heap.size l0 c k_ ∧ k_ < w2.heap.size) w' (.pointer s.2.2.2.2.2.2.2.2) (rT mir (lT mir (rT mir X)))) ?_ ?_
 rotate_left
 ·intro hCont
  refine two_ (i := 8) (j := 9) (Ni := some 39) (Nj := some 11) #[true, true, true, true, true, true, true, true, true, false, false] #[true, true, true, true, true, true, true, true, false, true, false] rfl rfl rfl rfl (by kernel_rfl) (by decide) (by decide) (fun K hK => ?_) (fun K hK => ?_)
  ·skip
   refine gO Try.func63 #[.pointer (some ⟨wg.heap.size + 2 + 2 * c, 0, none⟩), .agg #[.int .i64 kind, .bool mir], .bool rt] ?_
   with_reducible refine (look_any (S := (fun k_ => SetC wg.heap.size l0 c k_ ∧ k_ < w2.heap.size)) _ X _ _ _ _ (by first | exact HRX.out.below ((Below.refl _ _).drew) | exact HRX.out.below HBA.out)).mono ?_
   rintro e wL ⟨pl, pr, pll, plr, prl, prr, pa, pb, rfl, hLb, r1, r2, r3, r4, r5, r6, r7, r8⟩
   refine ⟨_, rfl, ?_⟩
   refine hK.out _ _ ⟨(hLb.cell (blt _ _ hHeld.1)).trans hHeld.1, (hLb.cell (blt _ _ hHeld.2.1)).trans hHeld.2.1, (hLb.cell (blt _ _ hHeld.2.2)).trans hHeld.2.2⟩ (fun hHeld => ?_)
   clear hK K
   refine nm 39 ?_
   refine on 9 11 fun K hK => ?_
   refine box_step (by rfl) (N := 11) rfl (cs := #[.bool false, .pointer none, .pointer none, .pointer none, .pointer none, .pointer none, .pointer none, .pointer none, .pointer none, .pointer none, .bool false]) (t := 111) ?hr ?_
   case hr => first | (go_simp; done) | (go_simp; rfl)
   intro g hg wA hbox hbA
   have hgs : w2.heap.size ≤ g := by rw [hg]; exact hLb.size
   refine hK.out _ _ ⟨(hbA.cell (blt _ _ hHeld.1)).trans hHeld.1, (hbA.cell (blt _ _ hHeld.2.1)).trans hHeld.2.1, (hbA.cell (blt _ _ hHeld.2.2)).trans hHeld.2.2⟩ (fun hHeld => ?_)
   clear hK K
   refine nm 11 ?_
   exact norm_ (by simp only [putAll, Act.put, sI, sZ, sS]) (hCont (g, pl, pr, pll, plr, prl, prr, pa, pb) _ ⟨((Below.refl w2.heap.size w2).drew.trans (hLb.mono (Nat.le_refl _))).trans (hbA.mono hLb.size), hgs, hbox, (r1.below hLb).below hbA, (r2.below hLb).below hbA, (r3.below hLb).below hbA, (r4.below hLb).below hbA, (r5.below hLb).below hbA, (r6.below hLb).below hbA, (r7.below hLb).below hbA, (r8.below hLb).below hbA⟩)
  ·skip
   refine box_step (by rfl) (N := 11) rfl (cs := #[.bool false, .pointer none, .pointer none, .pointer none, .pointer none, .pointer none, .pointer none, .pointer none, .pointer none, .pointer none, .bool false]) (t := 111) ?hr ?_
   case hr => first | (go_simp; done) | (go_simp; rfl)
   intro g hg wA hbox hbA
   have HBA := Am (((Below.refl w2.heap.size w2).drew).trans (hbA.mono (Nat.le_refl _)))
   have hgs : w2.heap.size ≤ g := by rw [hg]; exact Nat.le_refl _
   refine hK.out _ _ ⟨(hbA.cell (blt _ _ hHeld.1)).trans hHeld.1, (hbA.cell (blt _ _ hHeld.2.1)).trans hHeld.2.1, (hbA.cell (blt _ _ hHeld.2.2)).trans hHeld.2.2⟩ (fun hHeld => ?_)
   clear hK K
   refine nm 11 ?_
   refine on 8 39 fun K hK => ?_
   refine gO Try.func63 #[.pointer (some ⟨wg.heap.size + 2 + 2 * c, 0, none⟩), .agg #[.int .i64 kind, .bool mir], .bool rt] ?_
   with_reducible refine (look_any (S := (fun k_ => SetC wg.heap.size l0 c k_ ∧ k_ < w2.heap.size)) _ X _ _ _ _ (by first | exact HRX.out.below ((Below.refl _ _).drew) | exact HRX.out.below HBA.out)).mono ?_
   rintro e wL ⟨pl, pr, pll, plr, prl, prr, pa, pb, rfl, hLb, r1, r2, r3, r4, r5, r6, r7, r8⟩
   refine ⟨_, rfl, ?_⟩
   refine hK.out _ _ ⟨(hLb.cell (blt _ _ hHeld.1)).trans hHeld.1, (hLb.cell (blt _ _ hHeld.2.1)).trans hHeld.2.1, (hLb.cell (blt _ _ hHeld.2.2)).trans hHeld.2.2⟩ (fun hHeld => ?_)
   clear hK K
   refine nm 39 ?_
   exact norm_ (by simp only [putAll, Act.put, sI, sZ, sS]) (hCont (g, pl, pr, pll, plr, prl, prr, pa, pb) _ ⟨HBA.out.trans (hLb.mono hbA.size), hgs, (hLb.block _ (Array.getElem?_eq_some_iff.1 hbox).1).trans hbox, r1.below hLb, r2.below hLb, r3.below hLb, r4.below hLb, r5.below hLb, r6.below hLb, r7.below hLb, r8.below hLb⟩)
 rintro ⟨g, pl, pr, pll, plr, prl, prr, pa, pb⟩ w3 ⟨hF1, hF2, hF3, y1, y2, y3, y4, y5, y6, y7, y8⟩
 replace hF2 : w2.heap.size ≤ g := hF2
 replace hF3 : w3.heap[g]? = some (.cells #[.bool false, .pointer none, .pointer none, .pointer none, .pointer none, .pointer none, .pointer none, .pointer none, .pointer none, .pointer none, .bool false] 111 (0, 0)) := hF3
 have HY1 : Aside0 (Rep (fun k_ => SetC wg.heap.size l0 c k_ ∧ k_ < w2.heap.size) w3 (.pointer pl) (lT mir X)) := ⟨y1⟩
 have HY2 : Aside0 (Rep (fun k_ => SetC wg.heap.size l0 c k_ ∧ k_ < w2.heap.size) w3 (.pointer pr) (rT mir X)) := ⟨y2⟩
 have HY3 : Aside0 (Rep (fun k_ => SetC wg.heap.size l0 c k_ ∧ k_ < w2.heap.size) w3 (.pointer pll) (lT mir (lT mir X))) := ⟨y3⟩
 have HY4 : Aside0 (Rep (fun k_ => SetC wg.heap.size l0 c k_ ∧ k_ < w2.heap.size) w3 (.pointer plr) (rT mir (lT mir X))) := ⟨y4⟩
 have HY5 : Aside0 (Rep (fun k_ => SetC wg.heap.size l0 c k_ ∧ k_ < w2.heap.size) w3 (.pointer prl) (lT mir (rT mir X))) := ⟨y5⟩
 have HY6 : Aside0 (Rep (fun k_ => SetC wg.heap.size l0 c k_ ∧ k_ < w2.heap.size) w3 (.pointer prr) (rT mir (rT mir X))) := ⟨y6⟩
 have HY7 : Aside0 (Rep (fun k_ => SetC wg.heap.size l0 c k_ ∧ k_ < w2.heap.size) w3 (.pointer pa) (lT mir (lT mir (rT mir X)))) := ⟨y7⟩
 have HY8 : Aside0 (Rep (fun k_ => SetC wg.heap.size l0 c k_ ∧ k_ < w2.heap.size) w3 (.pointer pb) (rT mir (lT mir (rT mir X)))) := ⟨y8⟩
 have hHeld : w3.cell? ⟨wg.heap.size, c, none⟩ = some (.pointer (some ⟨wg.heap.size + 2 + 2 * c, 0, none⟩)) ∧ w3.cell? ⟨w.heap.size, 0, none⟩ = some (.int .i64 kind) ∧ w3.cell? ⟨w.heap.size, 1, none⟩ = some (.bool mir) := ⟨(hF1.cell (p := ⟨wg.heap.size, c, none⟩) hg2).trans HPC.out, (hF1.cell (p := ⟨w.heap.size, 0, none⟩) (Nat.lt_trans hg0 hg2)).trans HB0.out, (hF1.cell (p := ⟨w.heap.size, 1, none⟩) (Nat.lt_trans hg0 hg2)).trans HB1.out⟩
 obtain ⟨hz0, hz1, hz2, hz3, hz4, hz5, hz6, hz7, hz8, hz9, hz10⟩ := vc11 hF3
 have hfz0 := frz_of hF3 0
 have hfz1 := frz_of hF3 1
 have hfz2 := frz_of hF3 2
 have hfz3 := frz_of hF3 3
 have hfz4 := frz_of hF3 4
 have hfz5 := frz_of hF3 5
 have hfz6 := frz_of hF3 6
 have hfz7 := frz_of hF3 7
 have hfz8 := frz_of hF3 8
 have hfz9 := frz_of hF3 9
 have hfz10 := frz_of hF3 10
 have HF1 := Am hF1
 have HF3 := Am hF3
 clear hF1 hF3 y1 y2 y3 y4 y5 y6 y7 y8
 refine norm_ (a' := ?_) ?_ ?_
 rotate_left
 ·simp only [putAll, Act.put, sI, sZ, sS]
  rfl
 refine last_ (i := 10) (N := none) #[true, true, true, true, true, true, true, true, true, true, true] rfl rfl (by kernel_rfl) (by decide) (fun K hK => ?_)
 refine skip_ (w1 := ?_) (by rfl) rfl ?_ ?_
 rotate_left
 ·go_simp
  rfl
 refine hK.out _ _ ?_
 clear hK K
 refine done_ (by kernel_rfl) ?_
 try clear hHeld
 have hV := put11 HF3.out (.bool mir) (.pointer (some ⟨wg.heap.size + 2 + 2 * c, 0, none⟩)) (.pointer pl) (.pointer pr) (.pointer pll) (.pointer plr) (.pointer prl) (.pointer prr) (.pointer pa) (.pointer pb) (.bool rt)
 have hB := below11 HF1.out hF2 (.bool mir) (.pointer (some ⟨wg.heap.size + 2 + 2 * c, 0, none⟩)) (.pointer pl) (.pointer pr) (.pointer pll) (.pointer plr) (.pointer prl) (.pointer prr) (.pointer pa) (.pointer pb) (.bool rt)
 have hK : ∀ k_, k_ < w2.heap.size → (((((((((((w3.setCell ⟨g, 0, none⟩ (.bool mir)).setCell ⟨g, 1, none⟩ (.pointer (some ⟨wg.heap.size + 2 + 2 * c, 0, none⟩))).setCell ⟨g, 2, none⟩ (.pointer pl)).setCell ⟨g, 3, none⟩ (.pointer pr)).setCell ⟨g, 4, none⟩ (.pointer pll)).setCell ⟨g, 5, none⟩ (.pointer plr)).setCell ⟨g, 6, none⟩ (.pointer prl)).setCell ⟨g, 7, none⟩ (.pointer prr)).setCell ⟨g, 8, none⟩ (.pointer pa)).setCell ⟨g, 9, none⟩ (.pointer pb)).setCell ⟨g, 10, none⟩ (.bool rt)).heap[k_]? = w3.heap[k_]? := fun k_ hk_ => setc11 (by omega) (.bool mir) (.pointer (some ⟨wg.heap.size + 2 + 2 * c, 0, none⟩)) (.pointer pl) (.pointer pr) (.pointer pll) (.pointer plr) (.pointer prl) (.pointer prr) (.pointer pa) (.pointer pb) (.bool rt)
 clear hz0 hfz0 hz1 hfz1 hz2 hfz2 hz3 hfz3 hz4 hfz4 hz5 hfz5 hz6 hfz6 hz7 hfz7 hz8 hfz8 hz9 hfz9 hz10 hfz10 HF3 HF1
 generalize (((((((((((w3.setCell ⟨g, 0, none⟩ (.bool mir)).setCell ⟨g, 1, none⟩ (.pointer (some ⟨wg.heap.size + 2 + 2 * c, 0, none⟩))).setCell ⟨g, 2, none⟩ (.pointer pl)).setCell ⟨g, 3, none⟩ (.pointer pr)).setCell ⟨g, 4, none⟩ (.pointer pll)).setCell ⟨g, 5, none⟩ (.pointer plr)).setCell ⟨g, 6, none⟩ (.pointer prl)).setCell ⟨g, 7, none⟩ (.pointer prr)).setCell ⟨g, 8, none⟩ (.pointer pa)).setCell ⟨g, 9, none⟩ (.pointer pb)).setCell ⟨g, 10, none⟩ (.bool rt)) = w4 at hV hB hK ⊢
 have HRpl := Am (HY1.out.keptS (w' := w4) (fun k_ hk_ _ => hK k_ hk_.2))
 have HRpr := Am (HY2.out.keptS (w' := w4) (fun k_ hk_ _ => hK k_ hk_.2))
 have HRpll := Am (HY3.out.keptS (w' := w4) (fun k_ hk_ _ => hK k_ hk_.2))
 have HRplr := Am (HY4.out.keptS (w' := w4) (fun k_ hk_ _ => hK k_ hk_.2))
 have HRprl := Am (HY5.out.keptS (w' := w4) (fun k_ hk_ _ => hK k_ hk_.2))
 have HRprr := Am (HY6.out.keptS (w' := w4) (fun k_ hk_ _ => hK k_ hk_.2))
 have HRpa := Am (HY7.out.keptS (w' := w4) (fun k_ hk_ _ => hK k_ hk_.2))
 have HRpb := Am (HY8.out.keptS (w' := w4) (fun k_ hk_ _ => hK k_ hk_.2))
 have HRp := Am (HRX.out.below hB)
 have HV := Am hV
 have HB := Am hB
 clear HY1 HY2 HY3 HY4 HY5 HY6 HY7 HY8 hK
 have hk0 : w4.cell? ⟨w.heap.size, 0, none⟩ = some (.int .i64 kind) := (hB.cell (p := ⟨w.heap.size, 0, none⟩) (Nat.lt_trans hg0 hg2)).trans HB0.out
 have HK0 := Am hk0
 obtain ⟨hv0, hv1, hv2, hv3, hv4, hv5, hv6, hv7, hv8, hv9, hv10⟩ := vc11 hV
 clear hV hB HPC HB0 HB1
 go_wp2_with (fail)
 refine (can_any mir rt (some ⟨wg.heap.size + 2 + 2 * c, 0, none⟩) pl pr pll plr prl prr pa pb X _ HRp HRpl HRpr HRpll HRplr HRprl HRprr HRpa HRpb kind HKD.out).mono ?_
 rw [HCAN.out]
 rintro e w5 ⟨rfl, h5⟩
 have HB5 := Am (HB.out.trans (h5.mono HB.out.size))
 have H5 := Am h5
 have HV5 := Am ((h5.block _ (Array.getElem?_eq_some_iff.1 HV.out).1).trans HV.out)
 have hk5 := (h5.cell (blt _ _ HK0.out)).trans HK0.out
 clear h5 hv0 hv1 hv2 hv3 hv4 hv5 hv6 hv7 hv8 hv9 hv10 hk0 HV
 obtain ⟨hw0, hw1, hw2, hw3, hw4, hw5, hw6, hw7, hw8, hw9, hw10⟩ := vc11 HV5.out
 have a0 := fun o => cell_al o hw0
 have a1 := fun o => cell_al o hw1
 have a2 := fun o => cell_al o hw2
 have a3 := fun o => cell_al o hw3
 have a4 := fun o => cell_al o hw4
 have a5 := fun o => cell_al o hw5
 have a6 := fun o => cell_al o hw6
 have a7 := fun o => cell_al o hw7
 have a8 := fun o => cell_al o hw8
 have a9 := fun o => cell_al o hw9
 have a10 := fun o => cell_al o hw10
 have ak := fun o => cell_al o hk5
 go_wp2_with (first | ((with_reducible refine gate_ (.makeMap 118 none) rfl ?_); refine wp_make rfl rfl ?_))
 refine (touch_any mir rt (some ⟨wg.heap.size + 2 + 2 * c, 0, none⟩) pl pr pll plr prl prr pa pb _ kind HKD.out).mono ?_
 rintro _ w6 ⟨g6, rfl, ho, hb⟩
 have hXne : X ≠ .nil := fun e => mkT_nil (by rw [← e]; exact HX.out)
 have hb45 := H5.out
 have hbB : Below w.heap.size w w5 := HBW.out.trans ((HFO.out.bel.trans (HB5.out.mono HFO.out.bel.size)).mono HBW.out.size)
 have hplace : ∀ (q : Option Addr) (T : Tr), Rep (fun k_ => SetC wg.heap.size l0 c k_ ∧ k_ < w2.heap.size) w5 (.pointer q) T → T ≠ .nil → q = some ⟨wg.heap.size + 2 + 2 * (plc T).toNat, 0, none⟩ ∧ 0 ≤ plc T := by
  intro q T hq hT
  cases T with
  | nil => exact absurd rfl hT
  | node n p l r =>
   obtain ⟨b, vl, vr, e, hbk, _, _, ⟨j, rfl, hj, _⟩, hlt⟩ := hq
   have hn := HFO.out.nodes j hj
   have hn5 := (HB5.out.block _ hlt).trans hn
   rw [hbk] at hn5
   simp [ndCells] at hn5
   have hp : p = j := by omega
   subst hp
   exact ⟨by injection e, by simp [plc]⟩
 obtain ⟨R, hR⟩ : ∃ R : Option Addr → Tr → Prop, R = fun q T => Rep (fun k_ => SetC wg.heap.size l0 c k_ ∧ k_ < w2.heap.size) w5 (.pointer q) T := ⟨_, rfl⟩
 have hpt : PtG R (touchP (some ⟨wg.heap.size + 2 + 2 * c, 0, none⟩) pl pr pll plr prl prr pa pb kind) (outsT mir X kind) := by
  rw [hR]
  exact touch_pt (R := fun q T => Rep (fun k_ => SetC wg.heap.size l0 c k_ ∧ k_ < w2.heap.size) w5 (.pointer q) T) (HRp.out.below hb45) (HRpl.out.below hb45) (HRpr.out.below hb45) (HRplr.out.below hb45) (HRprl.out.below hb45) (HRprr.out.below hb45) (HRpa.out.below hb45) (HRpb.out.below hb45) kind HKD.out
 have hone := outs_ne HKD.out hXne HCAN.out
 have hX0 : R (some ⟨wg.heap.size + 2 + 2 * c, 0, none⟩) X := by rw [hR]; exact HRp.out.below hb45
 obtain ⟨OS, hOS⟩ : ∃ OS, OS = touchP (some ⟨wg.heap.size + 2 + 2 * c, 0, none⟩) pl pr pll plr prl prr pa pb kind := ⟨_, rfl⟩
 rw [← hOS] at ho hpt ⊢
 obtain ⟨OT, hOT⟩ : ∃ OT, OT = outsT mir X kind := ⟨_, rfl⟩
 have hnd := HND.out
 have hres := HRES.out
 rw [← hOT] at hpt hone hnd hres
 have hol : OT.length ≤ 5 := by rw [hOT]; exact outs_len _ _ _
 have HPLC := Am hplace
 have HRR := Am hR
 have HPT := Am hpt
 have HONE := Am hone
 have HOL := Am hol
 have HNOD := Am hnd
 have HRS := Am hres
 have HX9 := Am (And.intro hX0 (And.intro hXne H2T.out))
 have HBB := Am hbB
 have hblk : ∀ (w' : World) (q : Option Addr) (T : Tr), Below w5.heap.size w5 w' → R q T → T ≠ .nil → Blk w' q := by
  intro w' q T hb' hq hT
  rw [hR] at hq
  cases T with
  | nil => exact absurd rfl hT
  | node n p l r =>
   obtain ⟨b, vl, vr, e, hbk, _⟩ := hq
   exact ⟨b, _, _, by injection e, blkB hb' hbk⟩
 have hnod : OS.Nodup := PtG_nodup (fun q T T' h h' hT hT' => by
  rw [hR] at h h'
  obtain ⟨e1, e2⟩ := hplace q T h hT
  obtain ⟨e3, e4⟩ := hplace q T' h' hT'
  rw [e1] at e3
  simp at e3
  omega) hpt hone hnd
 obtain ⟨bm, hbm⟩ : ∃ bm, bm = w5.heap.size := ⟨_, rfl⟩
 have HBK := Am hblk
 have HOSN := Am hnod
 have HBM := Am hbm
 have HL : Aside0 (Kd.R kP 92 w6 bm (fun k => True ∧ k ≠ bm) (.slice (some ⟨g6, 0, none⟩) OS.length OS.length) OS) := ⟨by
  rw [hbm]
  exact Kd.R_lower (R_okvP ho (Q := fun k => True ∧ k ≠ w5.heap.size) (fun k hk => ⟨trivial, by have := Kd.R_base ho k hk; simp at this; omega⟩)) (by simp)⟩
 have HMP : Aside0 (w6.heap[bm]? = some (.map #[] 0)) := ⟨by rw [hbm]; exact (hb.block w5.heap.size (by simp)).trans (heap_alloc_new w5 (.map #[] 0))⟩
 have HW6 : Aside0 (Below w5.heap.size w5 w6) := ⟨(ba (Below.refl w5.heap.size w5) (.map #[] 0)).trans (hb.mono (by simp))⟩
 clear ho hb hXne hb45 hbB hplace hR hpt hone hX0 hOS hOT hnd hres hol hblk hnod a0 a1 a2 a3 a4 a5 a6 a7 a8 a9 a10 ak hw0 hw1 hw2 hw3 hw4 hw5 hw6 hw7 hw8 hw9 hw10 hk5 HRp HRpl HRpr HRpll HRplr HRprl HRprr HRpa HRpb HCAN HND HRES H2T
 rw [← hbm]
 clear hbm
 go_wp2
 go_loopg [14, 51] (OS.length + 1) (fun kq v14 v51 w' => ∃ i : Nat, v51 = .int .i64 i ∧ Aside0 (i ≤ OS.length ∧ kq + i = OS.length + 1) ∧ Aside0 (w'.heap[bm]? = some (.map (ents 0 (OS.take i)).toArray (OS.take i).length)) ∧ Aside0 (Kd.R kP 92 w' bm (fun k => True ∧ k ≠ bm) (.slice (some ⟨g6, 0, none⟩) OS.length OS.length) OS) ∧ Aside0 (Below w5.heap.size w5 w'))
 case atStart => exact ⟨0, rfl, ⟨Nat.zero_le _, rfl⟩, HMP, HL, HW6⟩
 case round =>
  clear HMP HL HW6
  obtain ⟨i, rfl, HI, HMP, HL, HW⟩ := hrel
  obtain ⟨kq1, rfl⟩ : ∃ x, gk = x + 1 := ⟨gk - 1, by have := HI.out; omega⟩
  by_cases q1 : i < OS.length
  ·have p1 : decide ((i : Int) < (OS.length : Int)) = true := decide_eq_true (by omega)
   have p2 : decide (i < OS.length) = true := decide_eq_true q1
   have p3 : (0 ≤ (i : Int)) = True := eq_true (by omega)
   have p4 : ((i : Int) < (OS.length : Int)) = True := eq_true (by omega)
   have y := at_P0 (Kd.R_reads' HL.out).2.2 i q1
   have hnm := nodup_take HOSN.out q1
   have htk : OS.take (i + 1) = OS.take i ++ [OS.getD i none] := by rw [List.take_succ_eq_append_getElem q1, List.getD, List.getElem?_eq_getElem q1, Option.getD_some]
   have hall : ∀ q ∈ OS, Blk wr q := fun q hq => by
    obtain ⟨T, hT, hRq⟩ := PtG_mem HPT.out q hq
    exact HBK.out wr q T HW.out hRq (HONE.out T hT)
   have hmem : OS.getD i none ∈ OS := by rw [List.getD, List.getElem?_eq_getElem q1, Option.getD_some]; exact List.getElem_mem _
   have HA := Am hall
   have HM := Am hmem
   have HNM := Am hnm
   have HTK := Am htk
   have HQ1 := Am q1
   generalize OS.getD i none = q at y HM HNM HTK
   clear hall hmem hnm htk
   go_wp2_with (first | ((with_reducible refine gate_ (.mapUpdate 118 (.tmp 55) (.tmp 56) (.const (.bool true))) rfl ?_); refine wp_put rfl rfl (.tmp 55) (.tmp 56) rfl bm rfl q rfl HMP.out (HA.out _ HM.out) (fun x hx => HA.out x (List.mem_of_mem_take hx)) HNM.out ?_; intro w7 hm7 hg7; have HM7 := Am hm7; have HL7 := Am (R_map HL.out hg7); have HW7 := Am (HW.out.trans (below_from hg7 (by have := HBM.out; omega) HW.out.size)); clear hm7 hg7))
   go_roundg kq1
   case measure => omega
   case rel => exact ⟨i + 1, by have h1 := HOL.out; have h2 := PtG_len HPT.out; have h3 := HQ1.out; first | rfl | (rw [Go.IntWalk.wrap64_in _ (by omega)]; rfl), ⟨by have := HQ1.out; omega, by have := HI.out.2; omega⟩, ⟨by rw [HTK.out]; exact HM7.out⟩, HL7, HW7⟩
  ·have p1 : decide ((i : Int) < (OS.length : Int)) = false := decide_eq_false (by omega)
   have p2 : decide (i < OS.length) = false := decide_eq_false q1
   have htk : OS.take i = OS := List.take_of_length_le (by omega)
   have HMQ : Aside0 (wr.heap[bm]? = some (.map (ents 0 OS).toArray OS.length)) := ⟨by have := HMP.out; rwa [htk] at this⟩
   have x1 : wr.cell? ⟨g, 1, none⟩ = some (.pointer (some ⟨wg.heap.size + 2 + 2 * c, 0, none⟩)) := (cell_of (blkB HW.out HV5.out) 1).trans rfl
   clear HMP htk
   go_wp2
   obtain ⟨O, hO⟩ : ∃ O, O = OT.map plc := ⟨_, rfl⟩
   have HROW0 : Aside0 (rowsP O 10 [] [X] = some res) := ⟨by rw [hO]; exact HRS.out⟩
   have HOO := Am hO
   have HMQ0 : Aside0 ((wr.alloc (.cells #[.pointer (some ⟨wg.heap.size + 2 + 2 * c, 0, none⟩)] 92)).heap[bm]? = some (.map (ents 0 OS).toArray OS.length)) := ⟨blkB (ba (Below.refl _ _) _) HMQ.out⟩
   have HL16 : Aside0 (Kd.R kP 92 (wr.alloc (.cells #[.pointer (some ⟨wg.heap.size + 2 + 2 * c, 0, none⟩)] 92)) w5.heap.size (fun _ => True) (.slice (some ⟨wr.heap.size, 0, none⟩) 1 1) [some ⟨wg.heap.size + 2 + 2 * c, 0, none⟩]) := ⟨Kd.R_lower (R_litQ wr [some ⟨wg.heap.size + 2 + 2 * c, 0, none⟩] rfl) HW.out.size⟩
   have HWb := Am (ba HW.out (.cells #[.pointer (some ⟨wg.heap.size + 2 + 2 * c, 0, none⟩)] 92))
   clear HL HW HMQ x1 p1 p2 q1 hO
   generalize wr.alloc (.cells #[.pointer (some ⟨wg.heap.size + 2 + 2 * c, 0, none⟩)] 92) = w8 at HMQ0 HL16 HWb ⊢
   generalize wr.heap.size = g16 at HL16 ⊢
   go_loopg [15, 16] 10 (fun kq v15 v16 w' => ∃ (out : List Int) (ps : List (Option Addr)) (Ts : List Tr), Aside0 (rowsP O kq out Ts = some res) ∧ Aside0 (Ts.length * 2 ^ kq ≤ 1024 ∧ out.length + 1024 * kq ≤ 10240 ∧ kq ≤ 10) ∧ Aside0 (PtG R ps Ts ∧ ∀ T ∈ Ts, T ≠ .nil ∧ TwoT T) ∧ Aside0 (Kd.R (Kd.int .i64) 3 w' w5.heap.size (fun _ => True) v15 out) ∧ Aside0 (Kd.R kP 92 w' w5.heap.size (fun _ => True) v16 ps) ∧ Aside0 (w'.heap[bm]? = some (.map (ents 0 OS).toArray OS.length)) ∧ Aside0 (Below w5.heap.size w5 w'))
   case atStart => exact ⟨[], [some ⟨wg.heap.size + 2 + 2 * c, 0, none⟩], [X], HROW0, ⟨by show 1 * 2 ^ 10 ≤ 1024; decide, by show 0 + 1024 * 10 ≤ 10240; decide, by decide⟩, ⟨⟨HX9.out.1, trivial⟩, fun T hT => by rw [List.mem_singleton.1 hT]; exact HX9.out.2⟩, ⟨Kd.R_nil _ _ _ _ _⟩, HL16, HMQ0, HWb⟩
   case round =>
    clear HROW0 HL16 HMQ0 HWb
    obtain ⟨out, ps, Ts, HROW, HNUM, HTS, H15, H16, HMQ, HW⟩ := hrel
    obtain ⟨kq1, rfl⟩ : ∃ x, gk = x + 1 := by
     cases gk with
     | zero => exact absurd HROW.out (by simp [rowsP])
     | succ x => exact ⟨x, rfl⟩
    obtain ⟨A16, c16, rfl⟩ := Kd.R_slice H16.out
    have hpl := PtG_len HTS.out.1
    cases Ts with
    | nil =>
     have p1 : decide ((ps.length : Int) > 0) = false := decide_eq_false (by rw [hpl]; simp)
     have p2 : decide (0 < (ps.length : Int)) = false := p1
     have p3 : decide (0 < ps.length) = false := decide_eq_false (by rw [hpl]; simp)
     have hres := HROW.out
     rw [rowsP] at hres
     obtain rfl := Option.some.inj hres
     clear hpl hres
     go_wp2
     go_ret2
     exact ⟨_, rfl, Kd.R_lower H15.out HBB.out.size, HBB.out.trans (HW.out.mono HBB.out.size)⟩
    | cons T0 Tr0 =>
     have hrow := HROW.out
     rw [rowsP] at hrow
     obtain ⟨Ts, hTs⟩ : ∃ Ts, Ts = T0 :: Tr0 := ⟨_, rfl⟩
     rw [← hTs] at hrow hpl HNUM HTS
     have hpos : 0 < Ts.length := by rw [hTs]; simp
     clear HROW hTs
     have HROW := Am hrow
     have HPL := Am (And.intro hpl hpos)
     have p1 : decide ((ps.length : Int) > 0) = true := decide_eq_true (by omega)
     have p2 : decide (0 < (ps.length : Int)) = true := p1
     have p3 : decide (0 < ps.length) = true := decide_eq_true (by omega)
     clear hrow hpl hpos
     go_wp2
     clear p1 p2 p3
     have HX16 := Am (R_okvP H16.out (Q := fun k => some k ≠ (.slice none 0 0 : Value).ownBlock) (fun k _ => by simp [Value.ownBlock]))
     go_loopg [15, 17, 66] (Ts.length + 1) (fun kq v15 v17 v66 w' => ∃ (i : Nat) (ns : List (Option Addr)), v66 = .int .i64 i ∧ Aside0 (i ≤ Ts.length ∧ kq + i = Ts.length + 1) ∧ Aside0 (Kd.R (Kd.int .i64) 3 w' w5.heap.size (fun _ => True) v15 (out ++ ((Ts.take i).filter (fun T => decide (plc T ∈ O))).map plc)) ∧ Aside0 (Kd.R kP 92 w' w5.heap.size (fun k => some k ≠ (.slice A16 ps.length c16 : Value).ownBlock) v17 ns) ∧ Aside0 (Kd.R kP 92 w' w5.heap.size (fun k => some k ≠ (v17 : Value).ownBlock) (.slice A16 ps.length c16) ps) ∧ Aside0 (w'.heap[bm]? = some (.map (ents 0 OS).toArray OS.length)) ∧ Aside0 (Below w5.heap.size w5 w') ∧ Aside0 (PtG R ns (((Ts.take i).filter (fun T => decide (plc T ∈ O))).flatMap kids) ∧ (∀ T ∈ ((Ts.take i).filter (fun T => decide (plc T ∈ O))).flatMap kids, T ≠ .nil ∧ TwoT T) ∧ (((Ts.take i).filter (fun T => decide (plc T ∈ O))).flatMap kids).length ≤ 2 * i))
     case atStart => exact ⟨0, [], rfl, ⟨Nat.zero_le _, rfl⟩, ⟨by simpa using H15.out⟩, ⟨Kd.R_nil _ _ _ _ _⟩, HX16, HMQ, HW, ⟨by simp [PtG], by simp, by simp⟩⟩
     case round =>
      clear H15 H16 HMQ HW HX16
      obtain ⟨i, ns, rfl, HI, H15, H17, H16, HMQ, HW, HNS⟩ := hrel
      obtain ⟨kq2, rfl⟩ : ∃ x, gk = x + 1 := ⟨gk - 1, by have := HI.out; omega⟩
      by_cases q1 : i < Ts.length
      ·have p1 : decide ((i : Int) < (ps.length : Int)) = true := decide_eq_true (by have := HPL.out; omega)
       have p2 : decide (i < ps.length) = true := decide_eq_true (by have := HPL.out; omega)
       have p3 : (0 ≤ (i : Int)) = True := eq_true (by omega)
       have p4 : ((i : Int) < (ps.length : Int)) = True := eq_true (by have := HPL.out; omega)
       have hTg := HTS.out.2 _ (getD_memT q1)
       have hRT := PtG_get i HTS.out.1 q1
       obtain ⟨ad16, e16, y16⟩ := at_P (Kd.R_reads' H16.out).2.2 i (by have := HPL.out; omega)
       subst e16
       have hstep := take_filter (fun T : Tr => decide (plc T ∈ O)) Ts i .nil q1
       generalize ps.getD i none = q at y16 hRT
       generalize Ts.getD i .nil = T at hTg hRT hstep
       have hiff : q ∈ OS ↔ plc T ∈ O := by
        have hq := hRT
        rw [HRR.out] at hq
        obtain ⟨e1, e2⟩ := HPLC.out q T hq hTg.1
        constructor
        ·intro hm
         obtain ⟨U, hU, hRU⟩ := PtG_mem HPT.out q hm
         have hRU' := hRU
         rw [HRR.out] at hRU'
         obtain ⟨e3, e4⟩ := HPLC.out q U hRU' (HONE.out U hU)
         rw [e1] at e3
         simp at e3
         rw [HOO.out, show plc T = plc U by omega]
         exact List.mem_map_of_mem hU
        ·intro hm
         rw [HOO.out] at hm
         obtain ⟨U, hU, eU⟩ := List.mem_map.1 hm
         obtain ⟨p', hp', hRU⟩ := PtG_mem' HPT.out U hU
         rw [HRR.out] at hRU
         obtain ⟨e3, e4⟩ := HPLC.out p' U hRU (HONE.out U hU)
         rw [e1, ← eU, ← e3]
         exact hp'
       have HA : Aside0 (∀ x ∈ OS, Blk wr x) := ⟨fun x hx => by
        obtain ⟨U, hU, hRq⟩ := PtG_mem HPT.out x hx
        exact HBK.out wr x U HW.out hRq (HONE.out U hU)⟩
       have HBQ := Am (HBK.out wr q T HW.out hRT hTg.1)
       have HIF := Am hiff
       have HST := Am hstep
       have HTG := Am hTg
       have HRT := Am hRT
       have HQ1 := Am q1
       have h1024 : Aside0 (Ts.length ≤ 1024 ∧ out.length ≤ 10240 ∧ (((Ts.take i).filter (fun T => decide (plc T ∈ O))).map plc).length ≤ i) := ⟨Nat.le_trans (Nat.le_mul_of_pos_right _ (Nat.two_pow_pos _)) HNUM.out.1, by have := HNUM.out; omega, by
        rw [List.length_map]
        have h := List.length_filter_le (fun T => decide (plc T ∈ O)) (Ts.take i)
        rw [List.length_take] at h
        omega⟩
       clear hTg hRT hstep hiff q1
       by_cases hq : q ∈ OS
       ·have pq : decide (q ∈ OS) = true := decide_eq_true hq
        have hq' := HIF.out.1 hq
        have hst := HST.out
        rw [if_pos (decide_eq_true hq')] at hst
        have HST2 := Am hst
        clear HST hst hq hq'
        obtain ⟨n, pT, l, r, rfl⟩ := node_of HTG.out.1
        have hRT := HRT.out
        rw [HRR.out] at hRT
        obtain ⟨b, vl, vr, e, hb, hl, hr, _⟩ := hRT
        obtain rfl : q = some ⟨b, 0, none⟩ := by injection e
        obtain ⟨ql, rfl⟩ := hl.ptr
        obtain ⟨qr, rfl⟩ := hr.ptr
        have HRL : Aside0 (R ql l) := ⟨by rw [HRR.out]; exact hl⟩
        have HRRt : Aside0 (R qr r) := ⟨by rw [HRR.out]; exact hr⟩
        have z6 : wr.cell? ⟨b, 6, none⟩ = some (.int .i64 pT) := (cell_of (blkB HW.out hb) 6).trans rfl
        have hln := hl
        have HBT := Am hb
        have HLN := Am hl
        clear hb hr hl hln
        cases l with
        | nil =>
         obtain rfl : ql = none := by injection HLN.out
         go_wp2_with (first | ((with_reducible refine gate_ (.lookup 118 (.tmp 70) (.tmp 71) false) rfl ?_); refine wp_get rfl (.tmp 70) (.tmp 71) rfl bm rfl (some ⟨b, 0, none⟩) rfl HMQ.out HBQ.out HA.out ?_) | ((with_reducible refine gate_builtin (b := .append) (xs := #[.tmp 74, .tmp 79]) rfl ?_); at_builtin; refine Kd.R_append (Kd.int .i64) (w0 := w5) w5.heap.size rfl (.tmp 74) (.tmp 79) 31 3 (.int .i64 0) 8 rfl Try.underlying31 info3 rfl (by decide) (by omega) u15 (out ++ ((Ts.take i).filter (fun T => decide (plc T ∈ O))).map plc) pT [.int .i64 pT] (fun _ => True) (fun _ => False) rfl rfl ?aP (fun _ hk => hk.elim) ?aF ?aO ?aB ?aS ?aL ?_; (case aP => exact rfl); (case aB => exact HW.out); (case aF => exact (fun _ _ => trivial)); (case aO => exact H15.out); (case aS => exact (below_size HW.out)); (case aL => have := h1024.out; have := HQ1.out; rw [List.length_append]; omega); intro vN wN hoN hbN hgN hatN; have G15 := Am hoN; have GW := Am hbN; have G17 := Am (Kd.R_over' H17.out (Kd.R_typed H15.out) (by decide) hgN); have G16 := Am (Kd.R_over' H16.out (Kd.R_typed H15.out) (by decide) hgN); have GM := Am (map_kept HMQ.out H15.out hgN); have x7 := cell_of (blkB hbN HBT.out) 7; have x8 := cell_of (blkB hbN HBT.out) 8; simp only [ndCells] at x7 x8; clear hoN hbN hgN hatN))
         go_roundg kq2
         case measure => omega
         case rel => exact ⟨i + 1, ns, by have := HQ1.out; have := h1024.out; first | rfl | (rw [Go.IntWalk.wrap64_in _ (by omega)]; rfl), ⟨by have := HQ1.out; omega, by have := HI.out.2; omega⟩, ⟨by rw [HST2.out, List.map_append, ← List.append_assoc]; exact G15.out⟩, G17, G16, GM, GW, ⟨by rw [HST2.out, List.flatMap_append]; simpa [kids] using HNS.out.1, by rw [HST2.out, List.flatMap_append]; simpa [kids] using HNS.out.2.1, by rw [HST2.out, List.flatMap_append, List.length_append]; have := HNS.out.2.2; have e0 : (([Tr.node n pT .nil r] : List Tr).flatMap kids).length = 0 := rfl; omega⟩⟩
        | node nl pl' ll lr =>
         obtain ⟨al, e⟩ : ∃ al, ql = some al := by
          obtain ⟨b', _, _, e, _⟩ := HLN.out
          exact ⟨_, by injection e⟩
         subst e
         go_wp2_with (first | ((with_reducible refine gate_ (.lookup 118 (.tmp 70) (.tmp 71) false) rfl ?_); refine wp_get rfl (.tmp 70) (.tmp 71) rfl bm rfl (some ⟨b, 0, none⟩) rfl HMQ.out HBQ.out HA.out ?_) | ((with_reducible refine gate_builtin (b := .append) (xs := #[.tmp 74, .tmp 79]) rfl ?_); at_builtin; refine Kd.R_append (Kd.int .i64) (w0 := w5) w5.heap.size rfl (.tmp 74) (.tmp 79) 31 3 (.int .i64 0) 8 rfl Try.underlying31 info3 rfl (by decide) (by omega) u15 (out ++ ((Ts.take i).filter (fun T => decide (plc T ∈ O))).map plc) pT [.int .i64 pT] (fun _ => True) (fun _ => False) rfl rfl ?aP (fun _ hk => hk.elim) ?aF ?aO ?aB ?aS ?aL ?_; (case aP => exact rfl); (case aB => exact HW.out); (case aF => exact (fun _ _ => trivial)); (case aO => exact H15.out); (case aS => exact (below_size HW.out)); (case aL => have := h1024.out; have := HQ1.out; rw [List.length_append]; omega); intro vN wN hoN hbN hgN hatN; have G15 := Am hoN; have GW := Am hbN; have G17 := Am (Kd.R_over' H17.out (Kd.R_typed H15.out) (by decide) hgN); have G16 := Am (Kd.R_over' H16.out (Kd.R_typed H15.out) (by decide) hgN); have GM := Am (map_kept HMQ.out H15.out hgN); have x7 := cell_of (blkB hbN HBT.out) 7; have x8 := cell_of (blkB hbN HBT.out) 8; simp only [ndCells] at x7 x8; clear hoN hbN hgN hatN))
         clear x7 x8
         refine sT 12 [] (S := fun W => Below w5.heap.size w5 W) (below_drew GW.out) fun hHeld => ?_
         refine gen_any (fun W => (Below w5.heap.size w5 W) ∧ Kd.R (Kd.int .i64) 3 W w5.heap.size (fun _ => True) vN (out ++ ((Ts.take i).filter (fun T => decide (plc T ∈ O))).map plc ++ [pT]) ∧ Kd.R kP 92 W w5.heap.size (fun k => some k ≠ (.slice (some ad16) ps.length c16 : Value).ownBlock) u17 ns ∧ Kd.R kP 92 W w5.heap.size (fun k => some k ≠ (u17 : Value).ownBlock) (.slice (some ad16) ps.length c16) ps ∧ W.heap[bm]? = some (.map (ents 0 OS).toArray OS.length)) ⟨below_drew GW.out, Kd.R_drew G15.out, Kd.R_drew G17.out, Kd.R_drew G16.out, GM.out⟩ (fun w6' ⟨k0, k1, k2, k3, k4⟩ => ?_)
         clear hHeld G15 G17 G16 GW GM
         have hHeld := k0
         have GW := Am k0
         have G15 := Am k1
         have G17 := Am k2
         have G16 := Am k3
         have GM := Am k4
         clear k0 k1 k2 k3 k4
         refine pu 0 86 ?_
         refine pu 1 87 ?_
         refine pu 2 88 ?_
         refine pu 3 89 ?_
         refine ta 4 90 hHeld (hy := by intro w' hs; have y7 := cell_of (blkB hs HBT.out) 7; have y8 := cell_of (blkB hs HBT.out) 8; simp only [ndCells] at y7 y8; go_simp; with_reducible rfl) ?_
         refine pu 5 91 ?_
         refine pu 6 92 ?_
         refine pu 7 93 ?_
         refine ta 8 94 hHeld (hy := by intro w' hs; have y7 := cell_of (blkB hs HBT.out) 7; have y8 := cell_of (blkB hs HBT.out) 8; simp only [ndCells] at y7 y8; go_simp; with_reducible rfl) ?_
         refine on 9 95 fun K hK => ?_
         refine Kd.R_lit_step kP _ 92 ?hg (N := 95) ?hd (xs := ([some al, qr] : List (Option Addr))) (inner := [.pointer (some al), .pointer qr]) (ok := fun _ => True) (okp := fun _ => True) ?hr ?hp (fun _ hk => hk) trivial (Below.refl _ _) (Nat.le_refl _) (by simp) ?_
         case hd => rfl
         case hg => rfl
         case hr => first | (go_simp; done) | (go_simp; rfl)
         case hp => exact repsP _ _ _ _
         intro v95 w7 ho hb hg_ hnew_
         clear hg_ hnew_
         have F15 := Am (Kd.R_below G15.out hb)
         have F17 := Am (Kd.R_below G17.out hb)
         have F16 := Am (Kd.R_below G16.out hb)
         have FM := Am (blkB hb GM.out)
         have FL := Am (Kd.R_lower ho GW.out.size)
         have FW := Am (GW.out.trans (hb.mono GW.out.size))
         obtain ⟨A95, c95, rfl⟩ := Kd.R_slice FL.out
         clear ho hb G15 G17 G16 GW GM
         refine hK.out _ _ FW.out (fun hHeld => ?_)
         clear hK K
         refine nm 95 ?_
         refine on 10 96 fun K hK => ?_
         refine Kd.R_append_rows_step kP (Rr := kP.K w7) (w0 := w5) w5.heap.size (by rfl) (.tmp 86) (.tmp 95) 90 92 (.pointer none) 8 rfl Try.underlying90 info92 rfl (by decide) (by omega) u17 ns ([some al, qr] : List (Option Addr)) _ _ _ (fun k => some k ≠ (.slice (some ad16) ps.length c16 : Value).ownBlock) (fun _ => False) rfl rfl ?aO ?aR ?aK (fun _ h => h.elim) ?aF ?aB ?aS ?aL ?_
         case aR => exact (Kd.R_reads' FL.out).2.2
         case aK => exact (fun _ _ h => h)
         case aB => exact FW.out
         case aF => exact (fun k_ hk => Kd.fresh' (Kd.R_lt F16.out) k_ hk)
         case aO => exact F17.out
         case aS => exact FW.out.size
         case aL => have h1 := HNS.out.2.2; have h2 := PtG_len HNS.out.1; have h3 := HQ1.out; have h4 := h1024.out; simp only [List.length_cons, List.length_nil]; omega
         intro v96 w8 ho hb hg hat
         have G15 := Am (Kd.R_over' F15.out (Kd.R_typed F17.out) (by decide) hg)
         have G16 := Am (R_okvP (Kd.R_after (ok := (fun _ => True)) (Kd.R_mono F16.out (fun _ hk => ⟨trivial, hk⟩)) hg hat) (Q := fun k => some k ≠ (v96 : Value).ownBlock) (fun k hk => ((Kd.R_after (ok := (fun _ => True)) (Kd.R_mono F16.out (fun _ hk => ⟨trivial, hk⟩)) hg hat).1 k hk).2))
         have GM := Am (map_kept FM.out F17.out hg)
         have G17 := Am ho
         have GW := Am hb
         clear ho hb hg hat F15 F17 F16 FL FW FM
         refine hK.out _ _ GW.out (fun hHeld => ?_)
         clear hK K
         refine nm 96 ?_
         refine pu 11 17 ?_
         refine done_ (by kernel_rfl) ?_
         go_wp2
         have hk9 : kids (.node n pT (.node nl pl' ll lr) r) = [.node nl pl' ll lr, r] := rfl
         have h2T : TwoT (.node n pT (.node nl pl' ll lr) r) := HTG.out.2
         have hrn : r ≠ .nil := fun e => by have := h2T.1.2 e; cases this
         go_roundg kq2
         case measure => omega
         case rel => exact ⟨i + 1, ns ++ [some al, qr], by have := HQ1.out; have := h1024.out; first | rfl | (rw [Go.IntWalk.wrap64_in _ (by omega)]; rfl), ⟨by have := HQ1.out; omega, by have := HI.out.2; omega⟩, ⟨by rw [HST2.out, List.map_append, ← List.append_assoc]; exact G15.out⟩, G17, G16, GM, GW, ⟨by rw [HST2.out, List.flatMap_append, List.flatMap_singleton, hk9]; exact PtG_app HNS.out.1 ⟨HRL.out, HRRt.out, trivial⟩, by rw [HST2.out, List.flatMap_append, List.flatMap_singleton, hk9]; exact fun T hT => (List.mem_append.1 hT).elim (HNS.out.2.1 T) (fun hT => (List.mem_cons.1 hT).elim (fun e => by rw [e]; exact ⟨by simp, h2T.2.1⟩) (fun hT => by rw [List.mem_singleton.1 hT]; exact ⟨hrn, h2T.2.2⟩)), by rw [HST2.out, List.flatMap_append, List.flatMap_singleton, hk9, List.length_append]; have := HNS.out.2.2; simp only [List.length_cons, List.length_nil]; omega⟩⟩
       ·have pq : decide (q ∈ OS) = false := decide_eq_false hq
        have hq' : ¬ plc T ∈ O := fun h => hq (HIF.out.2 h)
        have hst := HST.out
        rw [if_neg (by simpa using hq'), List.append_nil] at hst
        have HST2 := Am hst
        clear HST hst hq hq'
        go_wp2_with (first | ((with_reducible refine gate_ (.lookup 118 (.tmp 70) (.tmp 71) false) rfl ?_); refine wp_get rfl (.tmp 70) (.tmp 71) rfl bm rfl q rfl HMQ.out HBQ.out HA.out ?_))
        go_roundg kq2
        case measure => omega
        case rel => exact ⟨i + 1, ns, by have := HQ1.out; have := h1024.out; first | rfl | (rw [Go.IntWalk.wrap64_in _ (by omega)]; rfl), ⟨by have := HQ1.out; omega, by have := HI.out.2; omega⟩, ⟨by rw [HST2.out]; exact H15.out⟩, H17, H16, HMQ, HW, ⟨by rw [HST2.out]; exact HNS.out.1, by rw [HST2.out]; exact HNS.out.2.1, by rw [HST2.out]; have := HNS.out.2.2; omega⟩⟩
      ·have p1 : decide ((i : Int) < (ps.length : Int)) = false := decide_eq_false (by have := HPL.out; omega)
       have p2 : decide (i < ps.length) = false := decide_eq_false (by have := HPL.out; omega)
       have hti : Ts.take i = Ts := List.take_of_length_le (by omega)
       have hil : i ≤ Ts.length := HI.out.1
       have hns := HNS.out
       rw [hti] at hns
       have h15 := H15.out
       rw [hti] at h15
       have HNS2 := Am hns
       have G15 := Am h15
       have HIL := Am hil
       have hfl : Aside0 ((Ts.filter (fun T => decide (plc T ∈ O))).length ≤ Ts.length) := ⟨List.length_filter_le _ _⟩
       clear hns h15 hti hil HNS H15
       go_wp2
       go_roundg kq1
       case measure => omega
       case rel => exact ⟨_, ns, _, HROW, ⟨by
        have h1 := HNS2.out.2.2
        have h2 := HNUM.out.1
        have h3 := HIL.out
        rw [Nat.pow_succ, Nat.mul_comm (2 ^ kq1) 2, ← Nat.mul_assoc, Nat.mul_comm Ts.length 2] at h2
        exact Nat.le_trans (Nat.mul_le_mul_right _ (by omega)) h2, by
        have h2 := HNUM.out
        have h4 : Ts.length ≤ 1024 := Nat.le_trans (Nat.le_mul_of_pos_right _ (Nat.two_pow_pos _)) h2.1
        have h5 := hfl.out
        rw [List.length_append, List.length_map]
        omega, by have := HNUM.out; omega⟩, ⟨HNS2.out.1, HNS2.out.2.1⟩, G15, ⟨R_okvP H17.out (fun _ _ => trivial)⟩, HMQ, HW⟩
def Cl (O : List Int) : Tr → Prop
 | .nil => True
 | .node _ p l r => (p ∈ O ∧ Cl O l ∧ Cl O r) ∨ (p ∉ O ∧ (∀ q ∈ plT l, q ∉ O) ∧ ∀ q ∈ plT r, q ∉ O)
def cntO (O : List Int) (row : List Tr) : Nat := ((row.flatMap plT).filter (fun p => decide (p ∈ O))).length
structure GoodR (O : List Int) (T : Tr) : Prop where
 ne : T ≠ .nil
 two : TwoT T
 cl : Cl O T
theorem cl_out {O : List Int} : ∀ {T : Tr}, (∀ q ∈ plT T, q ∉ O) → Cl O T
 | .nil, _ => trivial
 | .node n p l r, h => .inr ⟨h p List.mem_cons_self, fun q hq => h q (List.mem_cons_of_mem _ (List.mem_append_left _ hq)), fun q hq => h q (List.mem_cons_of_mem _ (List.mem_append_right _ hq))⟩
theorem good_kids {O : List Int} {T : Tr} (h : GoodR O T) : (∀ U ∈ kids T, GoodR O U) ∧ plT T = plc T :: (kids T).flatMap plT := by
 obtain ⟨h1, h2, h3⟩ := h
 cases T with
 | nil => exact absurd rfl h1
 | node n p l r =>
  cases l with
  | nil =>
   obtain rfl := h2.1.1 rfl
   exact ⟨fun U hU => by simp [kids] at hU, rfl⟩
  | node n' p' l' r' =>
   have hr : r ≠ .nil := fun e => by have := h2.1.2 e; cases this
   have hcl : Cl O (.node n' p' l' r') ∧ Cl O r := by
    rcases h3 with ⟨_, a, b⟩ | ⟨_, a, b⟩
    ·exact ⟨a, b⟩
    ·exact ⟨cl_out a, cl_out b⟩
   refine ⟨fun U hU => ?_, by simp [plT, plc, kids]⟩
   rcases List.mem_cons.1 hU with rfl | hU
   ·exact ⟨by simp, h2.2.1, hcl.1⟩
   ·rw [List.mem_singleton.1 hU]; exact ⟨hr, h2.2.2, hcl.2⟩
theorem cl_no {O : List Int} {T : Tr} (h : GoodR O T) (hp : plc T ∉ O) : ∀ q ∈ plT T, q ∉ O := by
 cases T with
 | nil => exact absurd rfl h.ne
 | node n p l r =>
  rcases h.cl with ⟨a, _⟩ | ⟨a, b, c⟩
  ·exact absurd a hp
  ·intro q hq
   rcases List.mem_cons.1 hq with rfl | hq
   ·exact a
   ·rcases List.mem_append.1 hq with hq | hq
    ·exact b q hq
    ·exact c q hq
theorem plc_mem {T : Tr} (h : T ≠ .nil) : plc T ∈ plT T := by
 cases T with
 | nil => exact absurd rfl h
 | node n p l r => exact List.mem_cons_self
theorem kids_no {O : List Int} {T : Tr} (h : GoodR O T) (hp : plc T ∉ O) : (kids T).filter (fun U => decide (plc U ∈ O)) = [] := by
 rw [List.filter_eq_nil_iff]
 intro U hU
 have hq : plc U ∈ plT T := by
  rw [(good_kids h).2]
  exact List.mem_cons_of_mem _ (List.mem_flatMap.2 ⟨U, hU, plc_mem ((good_kids h).1 U hU).ne⟩)
 simpa using cl_no h hp _ hq
theorem next_eq {O : List Int} : ∀ {row : List Tr}, (∀ T ∈ row, GoodR O T) → (row.flatMap kids).filter (fun U => decide (plc U ∈ O)) = ((row.filter (fun U => decide (plc U ∈ O))).flatMap kids).filter (fun U => decide (plc U ∈ O))
 | [], _ => rfl
 | T :: row, h => by
  have ih := next_eq (row := row) (fun U hU => h U (List.mem_cons_of_mem _ hU))
  rw [List.flatMap_cons, List.filter_append, ih]
  by_cases hp : plc T ∈ O
  ·rw [List.filter_cons_of_pos (by simpa using hp), List.flatMap_cons, List.filter_append]
  ·rw [List.filter_cons_of_neg (by simpa using hp), kids_no (h T List.mem_cons_self) hp, List.nil_append]
theorem cnt_step {O : List Int} : ∀ {row : List Tr}, (∀ T ∈ row, GoodR O T) → cntO O row = (row.filter (fun U => decide (plc U ∈ O))).length + cntO O (row.flatMap kids)
 | [], _ => rfl
 | T :: row, h => by
  have ih := cnt_step (row := row) (fun U hU => h U (List.mem_cons_of_mem _ hU))
  unfold cntO at ih ⊢
  rw [List.flatMap_cons, List.filter_append, List.length_append, ih, (good_kids (h T List.mem_cons_self)).2, List.flatMap_cons, List.flatMap_append, List.filter_append, List.length_append]
  by_cases hp : plc T ∈ O
  ·rw [List.filter_cons_of_pos (by simpa using hp), List.filter_cons_of_pos (by simpa using hp), List.length_cons, List.length_cons]; omega
  ·rw [List.filter_cons_of_neg (by simpa using hp), List.filter_cons_of_neg (by simpa using hp)]; omega
theorem cnt_zero {O : List Int} {row : List Tr} (h : ∀ T ∈ row, GoodR O T) (hz : row.filter (fun U => decide (plc U ∈ O)) = []) : cntO O row = 0 := by
 unfold cntO
 rw [List.length_eq_zero_iff, List.filter_eq_nil_iff]
 intro q hq
 obtain ⟨T, hT, hq⟩ := List.mem_flatMap.1 hq
 have hp : plc T ∉ O := by simpa using List.filter_eq_nil_iff.1 hz T hT
 simpa using cl_no (h T hT) hp q hq
theorem cnt_zero' {O : List Int} {row : List Tr} (h : ∀ T ∈ row, GoodR O T) (hz : cntO O row = 0) : row.filter (fun U => decide (plc U ∈ O)) = [] := by
 have := cnt_step h
 exact List.length_eq_zero_iff.1 (by omega)
theorem hits {O : List Int} (hO : O.Nodup) : ∀ row : List Tr, row.flatMap (fun T => O.filter (· == plc T)) = (row.filter (fun U => decide (plc U ∈ O))).map plc
 | [] => rfl
 | T :: row => by
  have e : O.filter (· == plc T) = if plc T ∈ O then [plc T] else [] := by
   rw [List.filter_beq]
   split
   ·rename_i h; rw [List.Nodup.count hO, if_pos h]; rfl
   ·rename_i h; rw [List.count_eq_zero.2 h]; rfl
  rw [List.flatMap_cons, hits hO row, e]
  by_cases hp : plc T ∈ O
  ·rw [if_pos hp, List.filter_cons_of_pos (by simpa using hp)]; rfl
  ·rw [if_neg hp, List.filter_cons_of_neg (by simpa using hp)]; rfl
theorem rows_alike {O : List Int} (hO : O.Nodup) : ∀ (m fuel : Nat) (out : List Int) (row row' : List Tr), cntO O row = m → 0 < m → out.length + m = O.length → row.filter (fun U => decide (plc U ∈ O)) = row'.filter (fun U => decide (plc U ∈ O)) → (∀ T ∈ row, GoodR O T) → (∀ T ∈ row', GoodR O T) → m + 3 ≤ fuel →
  ∃ res, rowsR O fuel out row = some res ∧ rowsP O fuel out row' = some res := by
 intro m
 induction m using Nat.strongRecOn with
 | _ m ih =>
  intro fuel out row row' hm h0 hl hf hg hg' hfu
  obtain ⟨fuel, rfl⟩ : ∃ x, fuel = x + 1 := ⟨fuel - 1, by omega⟩
  have hF : row.filter (fun U => decide (plc U ∈ O)) ≠ [] := fun e => by have := cnt_zero hg e; omega
  have hFl : 0 < (row.filter (fun U => decide (plc U ∈ O))).length := List.length_pos_iff.2 hF
  have hs := cnt_step hg
  cases row with
  | nil => exact absurd rfl hF
  | cons T0 R0 =>
  cases row' with
  | nil => exact absurd hf (by simpa using hF)
  | cons T1 R1 =>
  have hgk : ∀ T ∈ (T0 :: R0).flatMap kids, GoodR O T := fun T hT => by
   obtain ⟨U, hU, hT⟩ := List.mem_flatMap.1 hT
   exact (good_kids (hg U hU)).1 T hT
  have hgk' : ∀ T ∈ ((T1 :: R1).filter (fun U => decide (plc U ∈ O))).flatMap kids, GoodR O T := fun T hT => by
   obtain ⟨U, hU, hT⟩ := List.mem_flatMap.1 hT
   exact (good_kids (hg' U ((List.mem_filter.1 hU).1))).1 T hT
  have hnx := next_eq hg
  rw [hf] at hnx
  rw [rowsR, rowsP, hits hO, ← hf]
  generalize hG : (T0 :: R0).filter (fun U => decide (plc U ∈ O)) = G at *
  by_cases hz : cntO O ((T0 :: R0).flatMap kids) = 0
  ·rw [if_pos (by rw [List.length_append, List.length_map]; omega)]
   refine ⟨_, rfl, ?_⟩
   have hnz : (G.flatMap kids).filter (fun U => decide (plc U ∈ O)) = [] := by
    rw [hf, ← hnx]; exact cnt_zero' hgk hz
   obtain ⟨fuel, rfl⟩ : ∃ x, fuel = x + 2 := ⟨fuel - 2, by omega⟩
   cases hk : G.flatMap kids with
   | nil => rw [rowsP]
   | cons U V =>
    rw [hk] at hnz
    rw [rowsP, hnz, List.map_nil, List.append_nil, List.flatMap_nil, rowsP]
  ·rw [if_neg (by rw [List.length_append, List.length_map]; omega), if_pos (by rw [List.length_append, List.length_map]; omega)]
   exact ih _ (by omega) fuel _ _ _ rfl (by omega) (by rw [List.length_append, List.length_map]; omega) (by rw [hf]; exact hnx) hgk (by rw [hf]; exact hgk') (by omega)
structure KeysOk (K : Nat) (t : List S34) (T X0 : Tr) (c0 : Nat) (met : List Bool) : Prop where
 good : Good t T
 crown : Crown T X0
 tree : mkT t t.length c0 = some X0
 lt : c0 < t.length
 nodup : (plT X0).Nodup
 keys : steps_keys.f K t = some ((c0 : Int), met, 0)
 check : larchref16_Check.f K t = some 0
 root : larchref16_Root.f K t = some ((c0 : Int), 0)
 ml : met.length = t.length
 mem : ∀ c : Nat, c < t.length → (met.getD c false = true ↔ (c : Int) ∈ plT X0)
theorem keys_base (t : List S34) : ∃ K, (∃ e, SpotsErr K t e) ∨ ∃ T X0 c0 met, KeysOk K t T X0 c0 met := by
 obtain ⟨kc, vc, c1, c2, c3⟩ := checks_alike t
 obtain ⟨kr, v, h1, h2, h3⟩ := roots_alike t
 by_cases hv : v.2 = 0
 ·obtain ⟨T, X0, hT, hX, hr⟩ := h3 hv
  obtain ⟨c0, hc, hcl, hm, hn, hl⟩ := crown_tree hT hX
  have hlen := hT.len
  have hp := plF_mk (i := v.1) (by omega) (by rw [show v.1.toNat = c0 by omega]; exact hm) (plF.eq_1 t t.length)
  rw [List.append_nil] at hp
  generalize hK : kc + kr + t.length + 1 = K
  obtain ⟨met, e1, e2, e3⟩ := keys_tree t v.1 t.length hlen (formT_of hT.form) K (List.replicate t.length false) [v.1] (plT X0) List.length_replicate hp (by omega) (by omega)
  have hmet : ∀ c : Nat, c < t.length → (met.getD c false = true ↔ (c : Int) ∈ plT X0) := fun c hc => by rw [e3 c hc, getD_replicate_false]; simp
  have hroot : larchref16_Root.f K t = some (v.1, 0) := by
   rw [up_to (fun k => larchref16_Root.mono t k) (show kr ≤ K by omega) h2, ← hv]
  have htroot := up_to (fun k => table_Root.mono t k) (show kr ≤ K by omega) h1
  have hcheck : larchref16_Check.f K t = some 0 := by
   have hc2 := up_to (fun k => larchref16_Check.mono t k) (show kc ≤ K by omega) c2
   unfold larchref16_Root.f at hroot
   rw [hc2, Option.bind_some] at hroot
   by_cases h0 : vc = 0
   ·rw [hc2, h0]
   ·rw [if_neg h0] at hroot
    simp only [Option.some.injEq, Prod.mk.injEq] at hroot
    exact absurd hroot.2 h0
  have hkeys : steps_keys.f K t = some (v.1, met, 0) := by
   unfold steps_keys.f
   rw [htroot, Option.bind_some]
   rw [if_pos hv, if_pos (by omega), if_pos (by omega), Int.toNat_natCast]
   exact e1
  rw [← hr, hc] at hroot hkeys
  exact ⟨K, .inr ⟨T, X0, c0, met, hT, hX, hm, hcl, hn, hkeys, hcheck, hroot, e2, hmet⟩⟩
 ·obtain ⟨k, ⟨e, h⟩ | ⟨r, met, H, h⟩⟩ := spots_facts t
  ·exact ⟨k, .inl ⟨e, h⟩⟩
  ·exfalso
   have hb := h.root
   have h5 := up_to (fun k => larchref16_Root.mono t k) (show k ≤ k + kr by omega) hb
   have h6 := up_to (fun k => larchref16_Root.mono t k) (show kr ≤ k + kr by omega) h2
   rw [h5] at h6
   exact hv (by rw [← Option.some.inj h6])
theorem is_alike (kind : Int) (mir : Bool) : ∃ b, steps_Move_is.f kind mir = some b ∧ larchref18_IsMove.f kind mir = some b := by
 unfold steps_Move_is.f larchref18_IsMove.f steps_alone.f
 by_cases h1 : kind ≥ 1
 ·by_cases h2 : kind ≤ 12
  ·cases mir
   ·exact ⟨true, by rw [if_pos h1, if_pos h2, if_neg (by simp)]; rfl, by rw [if_neg (by simp), if_pos h1, decide_eq_true h2]⟩
   ·by_cases a : kind = 1
    ·exact ⟨false, by simp [a], by simp [a]⟩
    ·by_cases b : kind = 11
     ·exact ⟨false, by simp [b], by simp [b]⟩
     ·by_cases c : kind = 12
      ·exact ⟨false, by simp [c], by simp [c]⟩
      ·exact ⟨true, by rw [if_pos h1, if_pos h2, if_pos rfl, if_neg a, if_neg b]; simp [c], by rw [if_pos rfl, if_neg a, if_neg b, if_neg c, if_pos h1, decide_eq_true h2]⟩
  ·refine ⟨false, by rw [if_pos h1, if_neg h2], ?_⟩
   rw [if_neg (show ¬ kind = 1 by omega), if_neg (show ¬ kind = 11 by omega), if_neg (show ¬ kind = 12 by omega), if_pos h1, decide_eq_false h2]
   split <;> rfl
 ·refine ⟨false, by rw [if_neg h1], ?_⟩
  rw [if_neg (show ¬ kind = 1 by omega), if_neg (show ¬ kind = 11 by omega), if_neg (show ¬ kind = 12 by omega), if_neg h1]
  split <;> rfl
theorem tp1 (nx : S34) (px : Int) (nl : S34) (pl : Int) (nr : S34) (pr : Int) (tll tlr trl trr : Tr) (h : (plT (.node nx px (.node nl pl tll tlr) (.node nr pr trl trr))).Nodup) : ([px, pl, pr] : List Int).Nodup ∧ (∀ q ∈ ([px, pl, pr] : List Int), q ∈ plT (.node nx px (.node nl pl tll tlr) (.node nr pr trl trr))) ∧ Cl [px, pl, pr] (.node nx px (.node nl pl tll tlr) (.node nr pr trl trr)) := by
 simp only [plT, List.nodup_cons, List.nodup_append, List.mem_append, List.mem_cons, not_or, List.cons_append] at h
 refine ⟨?_, ?_, ?_⟩
 ·simp only [List.nodup_cons, List.mem_cons, List.not_mem_nil, or_false, not_or, List.nodup_nil]
  grind
 ·simp [plT]
 ·exact (.inl ⟨by simp, (.inl ⟨by simp, (cl_out (fun q hq hm => by simp only [List.mem_cons, List.not_mem_nil, or_false] at hm; first | (rcases hm with rfl|rfl|rfl <;> grind) | (subst hm; grind))), (cl_out (fun q hq hm => by simp only [List.mem_cons, List.not_mem_nil, or_false] at hm; first | (rcases hm with rfl|rfl|rfl <;> grind) | (subst hm; grind)))⟩), (.inl ⟨by simp, (cl_out (fun q hq hm => by simp only [List.mem_cons, List.not_mem_nil, or_false] at hm; first | (rcases hm with rfl|rfl|rfl <;> grind) | (subst hm; grind))), (cl_out (fun q hq hm => by simp only [List.mem_cons, List.not_mem_nil, or_false] at hm; first | (rcases hm with rfl|rfl|rfl <;> grind) | (subst hm; grind)))⟩)⟩)
theorem tp1m (nx : S34) (px : Int) (nl : S34) (pl : Int) (nr : S34) (pr : Int) (tlr tll trr trl : Tr) (h : (plT (.node nx px (.node nr pr trr trl) (.node nl pl tlr tll))).Nodup) : ([px, pl, pr] : List Int).Nodup ∧ (∀ q ∈ ([px, pl, pr] : List Int), q ∈ plT (.node nx px (.node nr pr trr trl) (.node nl pl tlr tll))) ∧ Cl [px, pl, pr] (.node nx px (.node nr pr trr trl) (.node nl pl tlr tll)) := by
 simp only [plT, List.nodup_cons, List.nodup_append, List.mem_append, List.mem_cons, not_or, List.cons_append] at h
 refine ⟨?_, ?_, ?_⟩
 ·simp only [List.nodup_cons, List.mem_cons, List.not_mem_nil, or_false, not_or, List.nodup_nil]
  grind
 ·simp [plT]
 ·exact (.inl ⟨by simp, (.inl ⟨by simp, (cl_out (fun q hq hm => by simp only [List.mem_cons, List.not_mem_nil, or_false] at hm; first | (rcases hm with rfl|rfl|rfl <;> grind) | (subst hm; grind))), (cl_out (fun q hq hm => by simp only [List.mem_cons, List.not_mem_nil, or_false] at hm; first | (rcases hm with rfl|rfl|rfl <;> grind) | (subst hm; grind)))⟩), (.inl ⟨by simp, (cl_out (fun q hq hm => by simp only [List.mem_cons, List.not_mem_nil, or_false] at hm; first | (rcases hm with rfl|rfl|rfl <;> grind) | (subst hm; grind))), (cl_out (fun q hq hm => by simp only [List.mem_cons, List.not_mem_nil, or_false] at hm; first | (rcases hm with rfl|rfl|rfl <;> grind) | (subst hm; grind)))⟩)⟩)
theorem tp2 (nx : S34) (px : Int) (nl : S34) (pl : Int) (tr tll tlr : Tr) (h : (plT (.node nx px (.node nl pl tll tlr) tr)).Nodup) : ([px, pl] : List Int).Nodup ∧ (∀ q ∈ ([px, pl] : List Int), q ∈ plT (.node nx px (.node nl pl tll tlr) tr)) ∧ Cl [px, pl] (.node nx px (.node nl pl tll tlr) tr) := by
 simp only [plT, List.nodup_cons, List.nodup_append, List.mem_append, List.mem_cons, not_or, List.cons_append] at h
 refine ⟨?_, ?_, ?_⟩
 ·simp only [List.nodup_cons, List.mem_cons, List.not_mem_nil, or_false, not_or, List.nodup_nil]
  grind
 ·simp [plT]
 ·exact (.inl ⟨by simp, (.inl ⟨by simp, (cl_out (fun q hq hm => by simp only [List.mem_cons, List.not_mem_nil, or_false] at hm; first | (rcases hm with rfl|rfl <;> grind) | (subst hm; grind))), (cl_out (fun q hq hm => by simp only [List.mem_cons, List.not_mem_nil, or_false] at hm; first | (rcases hm with rfl|rfl <;> grind) | (subst hm; grind)))⟩), (cl_out (fun q hq hm => by simp only [List.mem_cons, List.not_mem_nil, or_false] at hm; first | (rcases hm with rfl|rfl <;> grind) | (subst hm; grind)))⟩)
theorem tp2m (nx : S34) (px : Int) (nl : S34) (pl : Int) (tr tlr tll : Tr) (h : (plT (.node nx px tr (.node nl pl tlr tll))).Nodup) : ([px, pl] : List Int).Nodup ∧ (∀ q ∈ ([px, pl] : List Int), q ∈ plT (.node nx px tr (.node nl pl tlr tll))) ∧ Cl [px, pl] (.node nx px tr (.node nl pl tlr tll)) := by
 simp only [plT, List.nodup_cons, List.nodup_append, List.mem_append, List.mem_cons, not_or, List.cons_append] at h
 refine ⟨?_, ?_, ?_⟩
 ·simp only [List.nodup_cons, List.mem_cons, List.not_mem_nil, or_false, not_or, List.nodup_nil]
  grind
 ·simp [plT]
 ·exact (.inl ⟨by simp, (cl_out (fun q hq hm => by simp only [List.mem_cons, List.not_mem_nil, or_false] at hm; first | (rcases hm with rfl|rfl <;> grind) | (subst hm; grind))), (.inl ⟨by simp, (cl_out (fun q hq hm => by simp only [List.mem_cons, List.not_mem_nil, or_false] at hm; first | (rcases hm with rfl|rfl <;> grind) | (subst hm; grind))), (cl_out (fun q hq hm => by simp only [List.mem_cons, List.not_mem_nil, or_false] at hm; first | (rcases hm with rfl|rfl <;> grind) | (subst hm; grind)))⟩)⟩)
theorem tp3 (nx : S34) (px : Int) (nl : S34) (pl : Int) (nlr : S34) (plr : Int) (tr tll tlrl tlrr : Tr) (h : (plT (.node nx px (.node nl pl tll (.node nlr plr tlrl tlrr)) tr)).Nodup) : ([px, pl, plr] : List Int).Nodup ∧ (∀ q ∈ ([px, pl, plr] : List Int), q ∈ plT (.node nx px (.node nl pl tll (.node nlr plr tlrl tlrr)) tr)) ∧ Cl [px, pl, plr] (.node nx px (.node nl pl tll (.node nlr plr tlrl tlrr)) tr) := by
 simp only [plT, List.nodup_cons, List.nodup_append, List.mem_append, List.mem_cons, not_or, List.cons_append] at h
 refine ⟨?_, ?_, ?_⟩
 ·simp only [List.nodup_cons, List.mem_cons, List.not_mem_nil, or_false, not_or, List.nodup_nil]
  grind
 ·simp [plT]
 ·exact (.inl ⟨by simp, (.inl ⟨by simp, (cl_out (fun q hq hm => by simp only [List.mem_cons, List.not_mem_nil, or_false] at hm; first | (rcases hm with rfl|rfl|rfl <;> grind) | (subst hm; grind))), (.inl ⟨by simp, (cl_out (fun q hq hm => by simp only [List.mem_cons, List.not_mem_nil, or_false] at hm; first | (rcases hm with rfl|rfl|rfl <;> grind) | (subst hm; grind))), (cl_out (fun q hq hm => by simp only [List.mem_cons, List.not_mem_nil, or_false] at hm; first | (rcases hm with rfl|rfl|rfl <;> grind) | (subst hm; grind)))⟩)⟩), (cl_out (fun q hq hm => by simp only [List.mem_cons, List.not_mem_nil, or_false] at hm; first | (rcases hm with rfl|rfl|rfl <;> grind) | (subst hm; grind)))⟩)
theorem tp3m (nx : S34) (px : Int) (nl : S34) (pl : Int) (nlr : S34) (plr : Int) (tr tll tlrr tlrl : Tr) (h : (plT (.node nx px tr (.node nl pl (.node nlr plr tlrr tlrl) tll))).Nodup) : ([px, pl, plr] : List Int).Nodup ∧ (∀ q ∈ ([px, pl, plr] : List Int), q ∈ plT (.node nx px tr (.node nl pl (.node nlr plr tlrr tlrl) tll))) ∧ Cl [px, pl, plr] (.node nx px tr (.node nl pl (.node nlr plr tlrr tlrl) tll)) := by
 simp only [plT, List.nodup_cons, List.nodup_append, List.mem_append, List.mem_cons, not_or, List.cons_append] at h
 refine ⟨?_, ?_, ?_⟩
 ·simp only [List.nodup_cons, List.mem_cons, List.not_mem_nil, or_false, not_or, List.nodup_nil]
  grind
 ·simp [plT]
 ·exact (.inl ⟨by simp, (cl_out (fun q hq hm => by simp only [List.mem_cons, List.not_mem_nil, or_false] at hm; first | (rcases hm with rfl|rfl|rfl <;> grind) | (subst hm; grind))), (.inl ⟨by simp, (.inl ⟨by simp, (cl_out (fun q hq hm => by simp only [List.mem_cons, List.not_mem_nil, or_false] at hm; first | (rcases hm with rfl|rfl|rfl <;> grind) | (subst hm; grind))), (cl_out (fun q hq hm => by simp only [List.mem_cons, List.not_mem_nil, or_false] at hm; first | (rcases hm with rfl|rfl|rfl <;> grind) | (subst hm; grind)))⟩), (cl_out (fun q hq hm => by simp only [List.mem_cons, List.not_mem_nil, or_false] at hm; first | (rcases hm with rfl|rfl|rfl <;> grind) | (subst hm; grind)))⟩)⟩)
theorem tp4 (nx : S34) (px : Int) (nl : S34) (pl : Int) (nr : S34) (pr : Int) (tll tlr trl trr : Tr) (h : (plT (.node nx px (.node nl pl tll tlr) (.node nr pr trl trr))).Nodup) : ([px, pl, pr] : List Int).Nodup ∧ (∀ q ∈ ([px, pl, pr] : List Int), q ∈ plT (.node nx px (.node nl pl tll tlr) (.node nr pr trl trr))) ∧ Cl [px, pl, pr] (.node nx px (.node nl pl tll tlr) (.node nr pr trl trr)) := by
 simp only [plT, List.nodup_cons, List.nodup_append, List.mem_append, List.mem_cons, not_or, List.cons_append] at h
 refine ⟨?_, ?_, ?_⟩
 ·simp only [List.nodup_cons, List.mem_cons, List.not_mem_nil, or_false, not_or, List.nodup_nil]
  grind
 ·simp [plT]
 ·exact (.inl ⟨by simp, (.inl ⟨by simp, (cl_out (fun q hq hm => by simp only [List.mem_cons, List.not_mem_nil, or_false] at hm; first | (rcases hm with rfl|rfl|rfl <;> grind) | (subst hm; grind))), (cl_out (fun q hq hm => by simp only [List.mem_cons, List.not_mem_nil, or_false] at hm; first | (rcases hm with rfl|rfl|rfl <;> grind) | (subst hm; grind)))⟩), (.inl ⟨by simp, (cl_out (fun q hq hm => by simp only [List.mem_cons, List.not_mem_nil, or_false] at hm; first | (rcases hm with rfl|rfl|rfl <;> grind) | (subst hm; grind))), (cl_out (fun q hq hm => by simp only [List.mem_cons, List.not_mem_nil, or_false] at hm; first | (rcases hm with rfl|rfl|rfl <;> grind) | (subst hm; grind)))⟩)⟩)
theorem tp4m (nx : S34) (px : Int) (nl : S34) (pl : Int) (nr : S34) (pr : Int) (tlr tll trr trl : Tr) (h : (plT (.node nx px (.node nr pr trr trl) (.node nl pl tlr tll))).Nodup) : ([px, pl, pr] : List Int).Nodup ∧ (∀ q ∈ ([px, pl, pr] : List Int), q ∈ plT (.node nx px (.node nr pr trr trl) (.node nl pl tlr tll))) ∧ Cl [px, pl, pr] (.node nx px (.node nr pr trr trl) (.node nl pl tlr tll)) := by
 simp only [plT, List.nodup_cons, List.nodup_append, List.mem_append, List.mem_cons, not_or, List.cons_append] at h
 refine ⟨?_, ?_, ?_⟩
 ·simp only [List.nodup_cons, List.mem_cons, List.not_mem_nil, or_false, not_or, List.nodup_nil]
  grind
 ·simp [plT]
 ·exact (.inl ⟨by simp, (.inl ⟨by simp, (cl_out (fun q hq hm => by simp only [List.mem_cons, List.not_mem_nil, or_false] at hm; first | (rcases hm with rfl|rfl|rfl <;> grind) | (subst hm; grind))), (cl_out (fun q hq hm => by simp only [List.mem_cons, List.not_mem_nil, or_false] at hm; first | (rcases hm with rfl|rfl|rfl <;> grind) | (subst hm; grind)))⟩), (.inl ⟨by simp, (cl_out (fun q hq hm => by simp only [List.mem_cons, List.not_mem_nil, or_false] at hm; first | (rcases hm with rfl|rfl|rfl <;> grind) | (subst hm; grind))), (cl_out (fun q hq hm => by simp only [List.mem_cons, List.not_mem_nil, or_false] at hm; first | (rcases hm with rfl|rfl|rfl <;> grind) | (subst hm; grind)))⟩)⟩)
theorem tp5 (nx : S34) (px : Int) (nl : S34) (pl : Int) (nr : S34) (pr : Int) (nrl : S34) (prl : Int) (tll tlr trr trll trlr : Tr) (h : (plT (.node nx px (.node nl pl tll tlr) (.node nr pr (.node nrl prl trll trlr) trr))).Nodup) : ([px, pl, pr, prl] : List Int).Nodup ∧ (∀ q ∈ ([px, pl, pr, prl] : List Int), q ∈ plT (.node nx px (.node nl pl tll tlr) (.node nr pr (.node nrl prl trll trlr) trr))) ∧ Cl [px, pl, pr, prl] (.node nx px (.node nl pl tll tlr) (.node nr pr (.node nrl prl trll trlr) trr)) := by
 simp only [plT, List.nodup_cons, List.nodup_append, List.mem_append, List.mem_cons, not_or, List.cons_append] at h
 refine ⟨?_, ?_, ?_⟩
 ·simp only [List.nodup_cons, List.mem_cons, List.not_mem_nil, or_false, not_or, List.nodup_nil]
  grind
 ·simp [plT]
 ·exact (.inl ⟨by simp, (.inl ⟨by simp, (cl_out (fun q hq hm => by simp only [List.mem_cons, List.not_mem_nil, or_false] at hm; first | (rcases hm with rfl|rfl|rfl|rfl <;> grind) | (subst hm; grind))), (cl_out (fun q hq hm => by simp only [List.mem_cons, List.not_mem_nil, or_false] at hm; first | (rcases hm with rfl|rfl|rfl|rfl <;> grind) | (subst hm; grind)))⟩), (.inl ⟨by simp, (.inl ⟨by simp, (cl_out (fun q hq hm => by simp only [List.mem_cons, List.not_mem_nil, or_false] at hm; first | (rcases hm with rfl|rfl|rfl|rfl <;> grind) | (subst hm; grind))), (cl_out (fun q hq hm => by simp only [List.mem_cons, List.not_mem_nil, or_false] at hm; first | (rcases hm with rfl|rfl|rfl|rfl <;> grind) | (subst hm; grind)))⟩), (cl_out (fun q hq hm => by simp only [List.mem_cons, List.not_mem_nil, or_false] at hm; first | (rcases hm with rfl|rfl|rfl|rfl <;> grind) | (subst hm; grind)))⟩)⟩)
theorem tp5m (nx : S34) (px : Int) (nl : S34) (pl : Int) (nr : S34) (pr : Int) (nrl : S34) (prl : Int) (tlr tll trr trlr trll : Tr) (h : (plT (.node nx px (.node nr pr trr (.node nrl prl trlr trll)) (.node nl pl tlr tll))).Nodup) : ([px, pl, pr, prl] : List Int).Nodup ∧ (∀ q ∈ ([px, pl, pr, prl] : List Int), q ∈ plT (.node nx px (.node nr pr trr (.node nrl prl trlr trll)) (.node nl pl tlr tll))) ∧ Cl [px, pl, pr, prl] (.node nx px (.node nr pr trr (.node nrl prl trlr trll)) (.node nl pl tlr tll)) := by
 simp only [plT, List.nodup_cons, List.nodup_append, List.mem_append, List.mem_cons, not_or, List.cons_append] at h
 refine ⟨?_, ?_, ?_⟩
 ·simp only [List.nodup_cons, List.mem_cons, List.not_mem_nil, or_false, not_or, List.nodup_nil]
  grind
 ·simp [plT]
 ·exact (.inl ⟨by simp, (.inl ⟨by simp, (cl_out (fun q hq hm => by simp only [List.mem_cons, List.not_mem_nil, or_false] at hm; first | (rcases hm with rfl|rfl|rfl|rfl <;> grind) | (subst hm; grind))), (.inl ⟨by simp, (cl_out (fun q hq hm => by simp only [List.mem_cons, List.not_mem_nil, or_false] at hm; first | (rcases hm with rfl|rfl|rfl|rfl <;> grind) | (subst hm; grind))), (cl_out (fun q hq hm => by simp only [List.mem_cons, List.not_mem_nil, or_false] at hm; first | (rcases hm with rfl|rfl|rfl|rfl <;> grind) | (subst hm; grind)))⟩)⟩), (.inl ⟨by simp, (cl_out (fun q hq hm => by simp only [List.mem_cons, List.not_mem_nil, or_false] at hm; first | (rcases hm with rfl|rfl|rfl|rfl <;> grind) | (subst hm; grind))), (cl_out (fun q hq hm => by simp only [List.mem_cons, List.not_mem_nil, or_false] at hm; first | (rcases hm with rfl|rfl|rfl|rfl <;> grind) | (subst hm; grind)))⟩)⟩)
theorem tp6 (nx : S34) (px : Int) (nl : S34) (pl : Int) (nr : S34) (pr : Int) (nrl : S34) (prl : Int) (tll tlr trr trll trlr : Tr) (h : (plT (.node nx px (.node nl pl tll tlr) (.node nr pr (.node nrl prl trll trlr) trr))).Nodup) : ([px, pl, pr, prl] : List Int).Nodup ∧ (∀ q ∈ ([px, pl, pr, prl] : List Int), q ∈ plT (.node nx px (.node nl pl tll tlr) (.node nr pr (.node nrl prl trll trlr) trr))) ∧ Cl [px, pl, pr, prl] (.node nx px (.node nl pl tll tlr) (.node nr pr (.node nrl prl trll trlr) trr)) := by
 simp only [plT, List.nodup_cons, List.nodup_append, List.mem_append, List.mem_cons, not_or, List.cons_append] at h
 refine ⟨?_, ?_, ?_⟩
 ·simp only [List.nodup_cons, List.mem_cons, List.not_mem_nil, or_false, not_or, List.nodup_nil]
  grind
 ·simp [plT]
 ·exact (.inl ⟨by simp, (.inl ⟨by simp, (cl_out (fun q hq hm => by simp only [List.mem_cons, List.not_mem_nil, or_false] at hm; first | (rcases hm with rfl|rfl|rfl|rfl <;> grind) | (subst hm; grind))), (cl_out (fun q hq hm => by simp only [List.mem_cons, List.not_mem_nil, or_false] at hm; first | (rcases hm with rfl|rfl|rfl|rfl <;> grind) | (subst hm; grind)))⟩), (.inl ⟨by simp, (.inl ⟨by simp, (cl_out (fun q hq hm => by simp only [List.mem_cons, List.not_mem_nil, or_false] at hm; first | (rcases hm with rfl|rfl|rfl|rfl <;> grind) | (subst hm; grind))), (cl_out (fun q hq hm => by simp only [List.mem_cons, List.not_mem_nil, or_false] at hm; first | (rcases hm with rfl|rfl|rfl|rfl <;> grind) | (subst hm; grind)))⟩), (cl_out (fun q hq hm => by simp only [List.mem_cons, List.not_mem_nil, or_false] at hm; first | (rcases hm with rfl|rfl|rfl|rfl <;> grind) | (subst hm; grind)))⟩)⟩)
theorem tp6m (nx : S34) (px : Int) (nl : S34) (pl : Int) (nr : S34) (pr : Int) (nrl : S34) (prl : Int) (tlr tll trr trlr trll : Tr) (h : (plT (.node nx px (.node nr pr trr (.node nrl prl trlr trll)) (.node nl pl tlr tll))).Nodup) : ([px, pl, pr, prl] : List Int).Nodup ∧ (∀ q ∈ ([px, pl, pr, prl] : List Int), q ∈ plT (.node nx px (.node nr pr trr (.node nrl prl trlr trll)) (.node nl pl tlr tll))) ∧ Cl [px, pl, pr, prl] (.node nx px (.node nr pr trr (.node nrl prl trlr trll)) (.node nl pl tlr tll)) := by
 simp only [plT, List.nodup_cons, List.nodup_append, List.mem_append, List.mem_cons, not_or, List.cons_append] at h
 refine ⟨?_, ?_, ?_⟩
 ·simp only [List.nodup_cons, List.mem_cons, List.not_mem_nil, or_false, not_or, List.nodup_nil]
  grind
 ·simp [plT]
 ·exact (.inl ⟨by simp, (.inl ⟨by simp, (cl_out (fun q hq hm => by simp only [List.mem_cons, List.not_mem_nil, or_false] at hm; first | (rcases hm with rfl|rfl|rfl|rfl <;> grind) | (subst hm; grind))), (.inl ⟨by simp, (cl_out (fun q hq hm => by simp only [List.mem_cons, List.not_mem_nil, or_false] at hm; first | (rcases hm with rfl|rfl|rfl|rfl <;> grind) | (subst hm; grind))), (cl_out (fun q hq hm => by simp only [List.mem_cons, List.not_mem_nil, or_false] at hm; first | (rcases hm with rfl|rfl|rfl|rfl <;> grind) | (subst hm; grind)))⟩)⟩), (.inl ⟨by simp, (cl_out (fun q hq hm => by simp only [List.mem_cons, List.not_mem_nil, or_false] at hm; first | (rcases hm with rfl|rfl|rfl|rfl <;> grind) | (subst hm; grind))), (cl_out (fun q hq hm => by simp only [List.mem_cons, List.not_mem_nil, or_false] at hm; first | (rcases hm with rfl|rfl|rfl|rfl <;> grind) | (subst hm; grind)))⟩)⟩)
theorem tp7 (nx : S34) (px : Int) (nl : S34) (pl : Int) (nr : S34) (pr : Int) (nrl : S34) (prl : Int) (nrll : S34) (prll : Int) (tll tlr trr trlr trlll trllr : Tr) (h : (plT (.node nx px (.node nl pl tll tlr) (.node nr pr (.node nrl prl (.node nrll prll trlll trllr) trlr) trr))).Nodup) : ([px, pl, pr, prl, prll] : List Int).Nodup ∧ (∀ q ∈ ([px, pl, pr, prl, prll] : List Int), q ∈ plT (.node nx px (.node nl pl tll tlr) (.node nr pr (.node nrl prl (.node nrll prll trlll trllr) trlr) trr))) ∧ Cl [px, pl, pr, prl, prll] (.node nx px (.node nl pl tll tlr) (.node nr pr (.node nrl prl (.node nrll prll trlll trllr) trlr) trr)) := by
 simp only [plT, List.nodup_cons, List.nodup_append, List.mem_append, List.mem_cons, not_or, List.cons_append] at h
 refine ⟨?_, ?_, ?_⟩
 ·simp only [List.nodup_cons, List.mem_cons, List.not_mem_nil, or_false, not_or, List.nodup_nil]
  grind
 ·simp [plT]
 ·exact (.inl ⟨by simp, (.inl ⟨by simp, (cl_out (fun q hq hm => by simp only [List.mem_cons, List.not_mem_nil, or_false] at hm; first | (rcases hm with rfl|rfl|rfl|rfl|rfl <;> grind) | (subst hm; grind))), (cl_out (fun q hq hm => by simp only [List.mem_cons, List.not_mem_nil, or_false] at hm; first | (rcases hm with rfl|rfl|rfl|rfl|rfl <;> grind) | (subst hm; grind)))⟩), (.inl ⟨by simp, (.inl ⟨by simp, (.inl ⟨by simp, (cl_out (fun q hq hm => by simp only [List.mem_cons, List.not_mem_nil, or_false] at hm; first | (rcases hm with rfl|rfl|rfl|rfl|rfl <;> grind) | (subst hm; grind))), (cl_out (fun q hq hm => by simp only [List.mem_cons, List.not_mem_nil, or_false] at hm; first | (rcases hm with rfl|rfl|rfl|rfl|rfl <;> grind) | (subst hm; grind)))⟩), (cl_out (fun q hq hm => by simp only [List.mem_cons, List.not_mem_nil, or_false] at hm; first | (rcases hm with rfl|rfl|rfl|rfl|rfl <;> grind) | (subst hm; grind)))⟩), (cl_out (fun q hq hm => by simp only [List.mem_cons, List.not_mem_nil, or_false] at hm; first | (rcases hm with rfl|rfl|rfl|rfl|rfl <;> grind) | (subst hm; grind)))⟩)⟩)
theorem tp7m (nx : S34) (px : Int) (nl : S34) (pl : Int) (nr : S34) (pr : Int) (nrl : S34) (prl : Int) (nrll : S34) (prll : Int) (tlr tll trr trlr trllr trlll : Tr) (h : (plT (.node nx px (.node nr pr trr (.node nrl prl trlr (.node nrll prll trllr trlll))) (.node nl pl tlr tll))).Nodup) : ([px, pl, pr, prl, prll] : List Int).Nodup ∧ (∀ q ∈ ([px, pl, pr, prl, prll] : List Int), q ∈ plT (.node nx px (.node nr pr trr (.node nrl prl trlr (.node nrll prll trllr trlll))) (.node nl pl tlr tll))) ∧ Cl [px, pl, pr, prl, prll] (.node nx px (.node nr pr trr (.node nrl prl trlr (.node nrll prll trllr trlll))) (.node nl pl tlr tll)) := by
 simp only [plT, List.nodup_cons, List.nodup_append, List.mem_append, List.mem_cons, not_or, List.cons_append] at h
 refine ⟨?_, ?_, ?_⟩
 ·simp only [List.nodup_cons, List.mem_cons, List.not_mem_nil, or_false, not_or, List.nodup_nil]
  grind
 ·simp [plT]
 ·exact (.inl ⟨by simp, (.inl ⟨by simp, (cl_out (fun q hq hm => by simp only [List.mem_cons, List.not_mem_nil, or_false] at hm; first | (rcases hm with rfl|rfl|rfl|rfl|rfl <;> grind) | (subst hm; grind))), (.inl ⟨by simp, (cl_out (fun q hq hm => by simp only [List.mem_cons, List.not_mem_nil, or_false] at hm; first | (rcases hm with rfl|rfl|rfl|rfl|rfl <;> grind) | (subst hm; grind))), (.inl ⟨by simp, (cl_out (fun q hq hm => by simp only [List.mem_cons, List.not_mem_nil, or_false] at hm; first | (rcases hm with rfl|rfl|rfl|rfl|rfl <;> grind) | (subst hm; grind))), (cl_out (fun q hq hm => by simp only [List.mem_cons, List.not_mem_nil, or_false] at hm; first | (rcases hm with rfl|rfl|rfl|rfl|rfl <;> grind) | (subst hm; grind)))⟩)⟩)⟩), (.inl ⟨by simp, (cl_out (fun q hq hm => by simp only [List.mem_cons, List.not_mem_nil, or_false] at hm; first | (rcases hm with rfl|rfl|rfl|rfl|rfl <;> grind) | (subst hm; grind))), (cl_out (fun q hq hm => by simp only [List.mem_cons, List.not_mem_nil, or_false] at hm; first | (rcases hm with rfl|rfl|rfl|rfl|rfl <;> grind) | (subst hm; grind)))⟩)⟩)
theorem tp8 (nx : S34) (px : Int) (nl : S34) (pl : Int) (nr : S34) (pr : Int) (nrl : S34) (prl : Int) (nrlr : S34) (prlr : Int) (tll tlr trr trll trlrl trlrr : Tr) (h : (plT (.node nx px (.node nl pl tll tlr) (.node nr pr (.node nrl prl trll (.node nrlr prlr trlrl trlrr)) trr))).Nodup) : ([px, pl, pr, prl, prlr] : List Int).Nodup ∧ (∀ q ∈ ([px, pl, pr, prl, prlr] : List Int), q ∈ plT (.node nx px (.node nl pl tll tlr) (.node nr pr (.node nrl prl trll (.node nrlr prlr trlrl trlrr)) trr))) ∧ Cl [px, pl, pr, prl, prlr] (.node nx px (.node nl pl tll tlr) (.node nr pr (.node nrl prl trll (.node nrlr prlr trlrl trlrr)) trr)) := by
 simp only [plT, List.nodup_cons, List.nodup_append, List.mem_append, List.mem_cons, not_or, List.cons_append] at h
 refine ⟨?_, ?_, ?_⟩
 ·simp only [List.nodup_cons, List.mem_cons, List.not_mem_nil, or_false, not_or, List.nodup_nil]
  grind
 ·simp [plT]
 ·exact (.inl ⟨by simp, (.inl ⟨by simp, (cl_out (fun q hq hm => by simp only [List.mem_cons, List.not_mem_nil, or_false] at hm; first | (rcases hm with rfl|rfl|rfl|rfl|rfl <;> grind) | (subst hm; grind))), (cl_out (fun q hq hm => by simp only [List.mem_cons, List.not_mem_nil, or_false] at hm; first | (rcases hm with rfl|rfl|rfl|rfl|rfl <;> grind) | (subst hm; grind)))⟩), (.inl ⟨by simp, (.inl ⟨by simp, (cl_out (fun q hq hm => by simp only [List.mem_cons, List.not_mem_nil, or_false] at hm; first | (rcases hm with rfl|rfl|rfl|rfl|rfl <;> grind) | (subst hm; grind))), (.inl ⟨by simp, (cl_out (fun q hq hm => by simp only [List.mem_cons, List.not_mem_nil, or_false] at hm; first | (rcases hm with rfl|rfl|rfl|rfl|rfl <;> grind) | (subst hm; grind))), (cl_out (fun q hq hm => by simp only [List.mem_cons, List.not_mem_nil, or_false] at hm; first | (rcases hm with rfl|rfl|rfl|rfl|rfl <;> grind) | (subst hm; grind)))⟩)⟩), (cl_out (fun q hq hm => by simp only [List.mem_cons, List.not_mem_nil, or_false] at hm; first | (rcases hm with rfl|rfl|rfl|rfl|rfl <;> grind) | (subst hm; grind)))⟩)⟩)
theorem tp8m (nx : S34) (px : Int) (nl : S34) (pl : Int) (nr : S34) (pr : Int) (nrl : S34) (prl : Int) (nrlr : S34) (prlr : Int) (tlr tll trr trll trlrr trlrl : Tr) (h : (plT (.node nx px (.node nr pr trr (.node nrl prl (.node nrlr prlr trlrr trlrl) trll)) (.node nl pl tlr tll))).Nodup) : ([px, pl, pr, prl, prlr] : List Int).Nodup ∧ (∀ q ∈ ([px, pl, pr, prl, prlr] : List Int), q ∈ plT (.node nx px (.node nr pr trr (.node nrl prl (.node nrlr prlr trlrr trlrl) trll)) (.node nl pl tlr tll))) ∧ Cl [px, pl, pr, prl, prlr] (.node nx px (.node nr pr trr (.node nrl prl (.node nrlr prlr trlrr trlrl) trll)) (.node nl pl tlr tll)) := by
 simp only [plT, List.nodup_cons, List.nodup_append, List.mem_append, List.mem_cons, not_or, List.cons_append] at h
 refine ⟨?_, ?_, ?_⟩
 ·simp only [List.nodup_cons, List.mem_cons, List.not_mem_nil, or_false, not_or, List.nodup_nil]
  grind
 ·simp [plT]
 ·exact (.inl ⟨by simp, (.inl ⟨by simp, (cl_out (fun q hq hm => by simp only [List.mem_cons, List.not_mem_nil, or_false] at hm; first | (rcases hm with rfl|rfl|rfl|rfl|rfl <;> grind) | (subst hm; grind))), (.inl ⟨by simp, (.inl ⟨by simp, (cl_out (fun q hq hm => by simp only [List.mem_cons, List.not_mem_nil, or_false] at hm; first | (rcases hm with rfl|rfl|rfl|rfl|rfl <;> grind) | (subst hm; grind))), (cl_out (fun q hq hm => by simp only [List.mem_cons, List.not_mem_nil, or_false] at hm; first | (rcases hm with rfl|rfl|rfl|rfl|rfl <;> grind) | (subst hm; grind)))⟩), (cl_out (fun q hq hm => by simp only [List.mem_cons, List.not_mem_nil, or_false] at hm; first | (rcases hm with rfl|rfl|rfl|rfl|rfl <;> grind) | (subst hm; grind)))⟩)⟩), (.inl ⟨by simp, (cl_out (fun q hq hm => by simp only [List.mem_cons, List.not_mem_nil, or_false] at hm; first | (rcases hm with rfl|rfl|rfl|rfl|rfl <;> grind) | (subst hm; grind))), (cl_out (fun q hq hm => by simp only [List.mem_cons, List.not_mem_nil, or_false] at hm; first | (rcases hm with rfl|rfl|rfl|rfl|rfl <;> grind) | (subst hm; grind)))⟩)⟩)
theorem tp9 (nx : S34) (px : Int) (nl : S34) (pl : Int) (nr : S34) (pr : Int) (nrr : S34) (prr : Int) (tll tlr trl trrl trrr : Tr) (h : (plT (.node nx px (.node nl pl tll tlr) (.node nr pr trl (.node nrr prr trrl trrr)))).Nodup) : ([px, pl, pr, prr] : List Int).Nodup ∧ (∀ q ∈ ([px, pl, pr, prr] : List Int), q ∈ plT (.node nx px (.node nl pl tll tlr) (.node nr pr trl (.node nrr prr trrl trrr)))) ∧ Cl [px, pl, pr, prr] (.node nx px (.node nl pl tll tlr) (.node nr pr trl (.node nrr prr trrl trrr))) := by
 simp only [plT, List.nodup_cons, List.nodup_append, List.mem_append, List.mem_cons, not_or, List.cons_append] at h
 refine ⟨?_, ?_, ?_⟩
 ·simp only [List.nodup_cons, List.mem_cons, List.not_mem_nil, or_false, not_or, List.nodup_nil]
  grind
 ·simp [plT]
 ·exact (.inl ⟨by simp, (.inl ⟨by simp, (cl_out (fun q hq hm => by simp only [List.mem_cons, List.not_mem_nil, or_false] at hm; first | (rcases hm with rfl|rfl|rfl|rfl <;> grind) | (subst hm; grind))), (cl_out (fun q hq hm => by simp only [List.mem_cons, List.not_mem_nil, or_false] at hm; first | (rcases hm with rfl|rfl|rfl|rfl <;> grind) | (subst hm; grind)))⟩), (.inl ⟨by simp, (cl_out (fun q hq hm => by simp only [List.mem_cons, List.not_mem_nil, or_false] at hm; first | (rcases hm with rfl|rfl|rfl|rfl <;> grind) | (subst hm; grind))), (.inl ⟨by simp, (cl_out (fun q hq hm => by simp only [List.mem_cons, List.not_mem_nil, or_false] at hm; first | (rcases hm with rfl|rfl|rfl|rfl <;> grind) | (subst hm; grind))), (cl_out (fun q hq hm => by simp only [List.mem_cons, List.not_mem_nil, or_false] at hm; first | (rcases hm with rfl|rfl|rfl|rfl <;> grind) | (subst hm; grind)))⟩)⟩)⟩)
theorem tp9m (nx : S34) (px : Int) (nl : S34) (pl : Int) (nr : S34) (pr : Int) (nrr : S34) (prr : Int) (tlr tll trl trrr trrl : Tr) (h : (plT (.node nx px (.node nr pr (.node nrr prr trrr trrl) trl) (.node nl pl tlr tll))).Nodup) : ([px, pl, pr, prr] : List Int).Nodup ∧ (∀ q ∈ ([px, pl, pr, prr] : List Int), q ∈ plT (.node nx px (.node nr pr (.node nrr prr trrr trrl) trl) (.node nl pl tlr tll))) ∧ Cl [px, pl, pr, prr] (.node nx px (.node nr pr (.node nrr prr trrr trrl) trl) (.node nl pl tlr tll)) := by
 simp only [plT, List.nodup_cons, List.nodup_append, List.mem_append, List.mem_cons, not_or, List.cons_append] at h
 refine ⟨?_, ?_, ?_⟩
 ·simp only [List.nodup_cons, List.mem_cons, List.not_mem_nil, or_false, not_or, List.nodup_nil]
  grind
 ·simp [plT]
 ·exact (.inl ⟨by simp, (.inl ⟨by simp, (.inl ⟨by simp, (cl_out (fun q hq hm => by simp only [List.mem_cons, List.not_mem_nil, or_false] at hm; first | (rcases hm with rfl|rfl|rfl|rfl <;> grind) | (subst hm; grind))), (cl_out (fun q hq hm => by simp only [List.mem_cons, List.not_mem_nil, or_false] at hm; first | (rcases hm with rfl|rfl|rfl|rfl <;> grind) | (subst hm; grind)))⟩), (cl_out (fun q hq hm => by simp only [List.mem_cons, List.not_mem_nil, or_false] at hm; first | (rcases hm with rfl|rfl|rfl|rfl <;> grind) | (subst hm; grind)))⟩), (.inl ⟨by simp, (cl_out (fun q hq hm => by simp only [List.mem_cons, List.not_mem_nil, or_false] at hm; first | (rcases hm with rfl|rfl|rfl|rfl <;> grind) | (subst hm; grind))), (cl_out (fun q hq hm => by simp only [List.mem_cons, List.not_mem_nil, or_false] at hm; first | (rcases hm with rfl|rfl|rfl|rfl <;> grind) | (subst hm; grind)))⟩)⟩)
theorem tp10 (nx : S34) (px : Int) (nl : S34) (pl : Int) (nr : S34) (pr : Int) (nrl : S34) (prl : Int) (tll tlr trr trll trlr : Tr) (h : (plT (.node nx px (.node nl pl tll tlr) (.node nr pr (.node nrl prl trll trlr) trr))).Nodup) : ([px, pl, pr, prl] : List Int).Nodup ∧ (∀ q ∈ ([px, pl, pr, prl] : List Int), q ∈ plT (.node nx px (.node nl pl tll tlr) (.node nr pr (.node nrl prl trll trlr) trr))) ∧ Cl [px, pl, pr, prl] (.node nx px (.node nl pl tll tlr) (.node nr pr (.node nrl prl trll trlr) trr)) := by
 simp only [plT, List.nodup_cons, List.nodup_append, List.mem_append, List.mem_cons, not_or, List.cons_append] at h
 refine ⟨?_, ?_, ?_⟩
 ·simp only [List.nodup_cons, List.mem_cons, List.not_mem_nil, or_false, not_or, List.nodup_nil]
  grind
 ·simp [plT]
 ·exact (.inl ⟨by simp, (.inl ⟨by simp, (cl_out (fun q hq hm => by simp only [List.mem_cons, List.not_mem_nil, or_false] at hm; first | (rcases hm with rfl|rfl|rfl|rfl <;> grind) | (subst hm; grind))), (cl_out (fun q hq hm => by simp only [List.mem_cons, List.not_mem_nil, or_false] at hm; first | (rcases hm with rfl|rfl|rfl|rfl <;> grind) | (subst hm; grind)))⟩), (.inl ⟨by simp, (.inl ⟨by simp, (cl_out (fun q hq hm => by simp only [List.mem_cons, List.not_mem_nil, or_false] at hm; first | (rcases hm with rfl|rfl|rfl|rfl <;> grind) | (subst hm; grind))), (cl_out (fun q hq hm => by simp only [List.mem_cons, List.not_mem_nil, or_false] at hm; first | (rcases hm with rfl|rfl|rfl|rfl <;> grind) | (subst hm; grind)))⟩), (cl_out (fun q hq hm => by simp only [List.mem_cons, List.not_mem_nil, or_false] at hm; first | (rcases hm with rfl|rfl|rfl|rfl <;> grind) | (subst hm; grind)))⟩)⟩)
theorem tp10m (nx : S34) (px : Int) (nl : S34) (pl : Int) (nr : S34) (pr : Int) (nrl : S34) (prl : Int) (tlr tll trr trlr trll : Tr) (h : (plT (.node nx px (.node nr pr trr (.node nrl prl trlr trll)) (.node nl pl tlr tll))).Nodup) : ([px, pl, pr, prl] : List Int).Nodup ∧ (∀ q ∈ ([px, pl, pr, prl] : List Int), q ∈ plT (.node nx px (.node nr pr trr (.node nrl prl trlr trll)) (.node nl pl tlr tll))) ∧ Cl [px, pl, pr, prl] (.node nx px (.node nr pr trr (.node nrl prl trlr trll)) (.node nl pl tlr tll)) := by
 simp only [plT, List.nodup_cons, List.nodup_append, List.mem_append, List.mem_cons, not_or, List.cons_append] at h
 refine ⟨?_, ?_, ?_⟩
 ·simp only [List.nodup_cons, List.mem_cons, List.not_mem_nil, or_false, not_or, List.nodup_nil]
  grind
 ·simp [plT]
 ·exact (.inl ⟨by simp, (.inl ⟨by simp, (cl_out (fun q hq hm => by simp only [List.mem_cons, List.not_mem_nil, or_false] at hm; first | (rcases hm with rfl|rfl|rfl|rfl <;> grind) | (subst hm; grind))), (.inl ⟨by simp, (cl_out (fun q hq hm => by simp only [List.mem_cons, List.not_mem_nil, or_false] at hm; first | (rcases hm with rfl|rfl|rfl|rfl <;> grind) | (subst hm; grind))), (cl_out (fun q hq hm => by simp only [List.mem_cons, List.not_mem_nil, or_false] at hm; first | (rcases hm with rfl|rfl|rfl|rfl <;> grind) | (subst hm; grind)))⟩)⟩), (.inl ⟨by simp, (cl_out (fun q hq hm => by simp only [List.mem_cons, List.not_mem_nil, or_false] at hm; first | (rcases hm with rfl|rfl|rfl|rfl <;> grind) | (subst hm; grind))), (cl_out (fun q hq hm => by simp only [List.mem_cons, List.not_mem_nil, or_false] at hm; first | (rcases hm with rfl|rfl|rfl|rfl <;> grind) | (subst hm; grind)))⟩)⟩)
theorem tp11 (nx : S34) (px : Int) (nl : S34) (pl : Int) (nr : S34) (pr : Int) (tll tlr trl trr : Tr) (h : (plT (.node nx px (.node nl pl tll tlr) (.node nr pr trl trr))).Nodup) : ([px, pl, pr] : List Int).Nodup ∧ (∀ q ∈ ([px, pl, pr] : List Int), q ∈ plT (.node nx px (.node nl pl tll tlr) (.node nr pr trl trr))) ∧ Cl [px, pl, pr] (.node nx px (.node nl pl tll tlr) (.node nr pr trl trr)) := by
 simp only [plT, List.nodup_cons, List.nodup_append, List.mem_append, List.mem_cons, not_or, List.cons_append] at h
 refine ⟨?_, ?_, ?_⟩
 ·simp only [List.nodup_cons, List.mem_cons, List.not_mem_nil, or_false, not_or, List.nodup_nil]
  grind
 ·simp [plT]
 ·exact (.inl ⟨by simp, (.inl ⟨by simp, (cl_out (fun q hq hm => by simp only [List.mem_cons, List.not_mem_nil, or_false] at hm; first | (rcases hm with rfl|rfl|rfl <;> grind) | (subst hm; grind))), (cl_out (fun q hq hm => by simp only [List.mem_cons, List.not_mem_nil, or_false] at hm; first | (rcases hm with rfl|rfl|rfl <;> grind) | (subst hm; grind)))⟩), (.inl ⟨by simp, (cl_out (fun q hq hm => by simp only [List.mem_cons, List.not_mem_nil, or_false] at hm; first | (rcases hm with rfl|rfl|rfl <;> grind) | (subst hm; grind))), (cl_out (fun q hq hm => by simp only [List.mem_cons, List.not_mem_nil, or_false] at hm; first | (rcases hm with rfl|rfl|rfl <;> grind) | (subst hm; grind)))⟩)⟩)
theorem tp11m (nx : S34) (px : Int) (nl : S34) (pl : Int) (nr : S34) (pr : Int) (tlr tll trr trl : Tr) (h : (plT (.node nx px (.node nr pr trr trl) (.node nl pl tlr tll))).Nodup) : ([px, pl, pr] : List Int).Nodup ∧ (∀ q ∈ ([px, pl, pr] : List Int), q ∈ plT (.node nx px (.node nr pr trr trl) (.node nl pl tlr tll))) ∧ Cl [px, pl, pr] (.node nx px (.node nr pr trr trl) (.node nl pl tlr tll)) := by
 simp only [plT, List.nodup_cons, List.nodup_append, List.mem_append, List.mem_cons, not_or, List.cons_append] at h
 refine ⟨?_, ?_, ?_⟩
 ·simp only [List.nodup_cons, List.mem_cons, List.not_mem_nil, or_false, not_or, List.nodup_nil]
  grind
 ·simp [plT]
 ·exact (.inl ⟨by simp, (.inl ⟨by simp, (cl_out (fun q hq hm => by simp only [List.mem_cons, List.not_mem_nil, or_false] at hm; first | (rcases hm with rfl|rfl|rfl <;> grind) | (subst hm; grind))), (cl_out (fun q hq hm => by simp only [List.mem_cons, List.not_mem_nil, or_false] at hm; first | (rcases hm with rfl|rfl|rfl <;> grind) | (subst hm; grind)))⟩), (.inl ⟨by simp, (cl_out (fun q hq hm => by simp only [List.mem_cons, List.not_mem_nil, or_false] at hm; first | (rcases hm with rfl|rfl|rfl <;> grind) | (subst hm; grind))), (cl_out (fun q hq hm => by simp only [List.mem_cons, List.not_mem_nil, or_false] at hm; first | (rcases hm with rfl|rfl|rfl <;> grind) | (subst hm; grind)))⟩)⟩)
theorem tp12 (nx : S34) (px : Int) (tl tr : Tr) (h : (plT (.node nx px tl tr)).Nodup) : ([px] : List Int).Nodup ∧ (∀ q ∈ ([px] : List Int), q ∈ plT (.node nx px tl tr)) ∧ Cl [px] (.node nx px tl tr) := by
 simp only [plT, List.nodup_cons, List.nodup_append, List.mem_append, List.mem_cons, not_or, List.cons_append] at h
 refine ⟨?_, ?_, ?_⟩
 ·simp only [List.nodup_cons, List.mem_cons, List.not_mem_nil, or_false, not_or, List.nodup_nil]
  grind
 ·simp [plT]
 ·exact (.inl ⟨by simp, (cl_out (fun q hq hm => by simp only [List.mem_cons, List.not_mem_nil, or_false] at hm; first | (rcases hm with rfl <;> grind) | (subst hm; grind))), (cl_out (fun q hq hm => by simp only [List.mem_cons, List.not_mem_nil, or_false] at hm; first | (rcases hm with rfl <;> grind) | (subst hm; grind)))⟩)
theorem tp12m (nx : S34) (px : Int) (tr tl : Tr) (h : (plT (.node nx px tr tl)).Nodup) : ([px] : List Int).Nodup ∧ (∀ q ∈ ([px] : List Int), q ∈ plT (.node nx px tr tl)) ∧ Cl [px] (.node nx px tr tl) := by
 simp only [plT, List.nodup_cons, List.nodup_append, List.mem_append, List.mem_cons, not_or, List.cons_append] at h
 refine ⟨?_, ?_, ?_⟩
 ·simp only [List.nodup_cons, List.mem_cons, List.not_mem_nil, or_false, not_or, List.nodup_nil]
  grind
 ·simp [plT]
 ·exact (.inl ⟨by simp, (cl_out (fun q hq hm => by simp only [List.mem_cons, List.not_mem_nil, or_false] at hm; first | (rcases hm with rfl <;> grind) | (subst hm; grind))), (cl_out (fun q hq hm => by simp only [List.mem_cons, List.not_mem_nil, or_false] at hm; first | (rcases hm with rfl <;> grind) | (subst hm; grind)))⟩)
theorem tq1 (rt : Bool) (X : Tr) (hne : X ≠ .nil) (hnd : (plT X).Nodup) (hc : canT false rt X 1 = true) : ((outsT false X 1).map plc).Nodup ∧ (∀ q ∈ (outsT false X 1).map plc, q ∈ plT X) ∧ Cl ((outsT false X 1).map plc) X := by
 cases X with
 | nil => exact absurd rfl hne
 | node nx px tl tr =>
  cases tl with
  | nil => simp [canT, can1, lT, rT, wt, innerB] at hc
  | node nl pl tll tlr =>
   cases tr with
   | nil => simp [canT, can1, lT, rT, wt, innerB] at hc
   | node nr pr trl trr =>
    have e : (outsT false (.node nx px (.node nl pl tll tlr) (.node nr pr trl trr)) 1).map plc = [px, pl, pr] := by simp [outsT, lT, rT, plc]
    rw [e]
    exact tp1 nx px nl pl nr pr tll tlr trl trr hnd
theorem tq1m (rt : Bool) (X : Tr) (hne : X ≠ .nil) (hnd : (plT X).Nodup) (hc : canT true rt X 1 = true) : ((outsT true X 1).map plc).Nodup ∧ (∀ q ∈ (outsT true X 1).map plc, q ∈ plT X) ∧ Cl ((outsT true X 1).map plc) X := by
 cases X with
 | nil => exact absurd rfl hne
 | node nx px tr tl =>
  cases tl with
  | nil => simp [canT, can1, lT, rT, wt, innerB] at hc
  | node nl pl tlr tll =>
   cases tr with
   | nil => simp [canT, can1, lT, rT, wt, innerB] at hc
   | node nr pr trr trl =>
    have e : (outsT true (.node nx px (.node nr pr trr trl) (.node nl pl tlr tll)) 1).map plc = [px, pl, pr] := by simp [outsT, lT, rT, plc]
    rw [e]
    exact tp1m nx px nl pl nr pr tlr tll trr trl hnd
theorem tq2 (rt : Bool) (X : Tr) (hne : X ≠ .nil) (hnd : (plT X).Nodup) (hc : canT false rt X 2 = true) : ((outsT false X 2).map plc).Nodup ∧ (∀ q ∈ (outsT false X 2).map plc, q ∈ plT X) ∧ Cl ((outsT false X 2).map plc) X := by
 cases X with
 | nil => exact absurd rfl hne
 | node nx px tl tr =>
  cases tl with
  | nil => simp [canT, can2, lT, rT, wt, innerB] at hc
  | node nl pl tll tlr =>
   have e : (outsT false (.node nx px (.node nl pl tll tlr) tr) 2).map plc = [px, pl] := by simp [outsT, lT, rT, plc]
   rw [e]
   exact tp2 nx px nl pl tr tll tlr hnd
theorem tq2m (rt : Bool) (X : Tr) (hne : X ≠ .nil) (hnd : (plT X).Nodup) (hc : canT true rt X 2 = true) : ((outsT true X 2).map plc).Nodup ∧ (∀ q ∈ (outsT true X 2).map plc, q ∈ plT X) ∧ Cl ((outsT true X 2).map plc) X := by
 cases X with
 | nil => exact absurd rfl hne
 | node nx px tr tl =>
  cases tl with
  | nil => simp [canT, can2, lT, rT, wt, innerB] at hc
  | node nl pl tlr tll =>
   have e : (outsT true (.node nx px tr (.node nl pl tlr tll)) 2).map plc = [px, pl] := by simp [outsT, lT, rT, plc]
   rw [e]
   exact tp2m nx px nl pl tr tlr tll hnd
theorem tq3 (rt : Bool) (X : Tr) (hne : X ≠ .nil) (hnd : (plT X).Nodup) (hc : canT false rt X 3 = true) : ((outsT false X 3).map plc).Nodup ∧ (∀ q ∈ (outsT false X 3).map plc, q ∈ plT X) ∧ Cl ((outsT false X 3).map plc) X := by
 cases X with
 | nil => exact absurd rfl hne
 | node nx px tl tr =>
  cases tl with
  | nil => simp [canT, can3, lT, rT, wt, innerB] at hc
  | node nl pl tll tlr =>
   cases tlr with
   | nil => simp [canT, can3, lT, rT, wt, innerB] at hc
   | node nlr plr tlrl tlrr =>
    have e : (outsT false (.node nx px (.node nl pl tll (.node nlr plr tlrl tlrr)) tr) 3).map plc = [px, pl, plr] := by simp [outsT, lT, rT, plc]
    rw [e]
    exact tp3 nx px nl pl nlr plr tr tll tlrl tlrr hnd
theorem tq3m (rt : Bool) (X : Tr) (hne : X ≠ .nil) (hnd : (plT X).Nodup) (hc : canT true rt X 3 = true) : ((outsT true X 3).map plc).Nodup ∧ (∀ q ∈ (outsT true X 3).map plc, q ∈ plT X) ∧ Cl ((outsT true X 3).map plc) X := by
 cases X with
 | nil => exact absurd rfl hne
 | node nx px tr tl =>
  cases tl with
  | nil => simp [canT, can3, lT, rT, wt, innerB] at hc
  | node nl pl tlr tll =>
   cases tlr with
   | nil => simp [canT, can3, lT, rT, wt, innerB] at hc
   | node nlr plr tlrr tlrl =>
    have e : (outsT true (.node nx px tr (.node nl pl (.node nlr plr tlrr tlrl) tll)) 3).map plc = [px, pl, plr] := by simp [outsT, lT, rT, plc]
    rw [e]
    exact tp3m nx px nl pl nlr plr tr tll tlrr tlrl hnd
theorem tq4 (rt : Bool) (X : Tr) (hne : X ≠ .nil) (hnd : (plT X).Nodup) (hc : canT false rt X 4 = true) : ((outsT false X 4).map plc).Nodup ∧ (∀ q ∈ (outsT false X 4).map plc, q ∈ plT X) ∧ Cl ((outsT false X 4).map plc) X := by
 cases X with
 | nil => exact absurd rfl hne
 | node nx px tl tr =>
  cases tl with
  | nil => simp [canT, can4, lT, rT, wt, innerB] at hc
  | node nl pl tll tlr =>
   cases tr with
   | nil => simp [canT, can4, lT, rT, wt, innerB] at hc
   | node nr pr trl trr =>
    have e : (outsT false (.node nx px (.node nl pl tll tlr) (.node nr pr trl trr)) 4).map plc = [px, pl, pr] := by simp [outsT, lT, rT, plc]
    rw [e]
    exact tp4 nx px nl pl nr pr tll tlr trl trr hnd
theorem tq4m (rt : Bool) (X : Tr) (hne : X ≠ .nil) (hnd : (plT X).Nodup) (hc : canT true rt X 4 = true) : ((outsT true X 4).map plc).Nodup ∧ (∀ q ∈ (outsT true X 4).map plc, q ∈ plT X) ∧ Cl ((outsT true X 4).map plc) X := by
 cases X with
 | nil => exact absurd rfl hne
 | node nx px tr tl =>
  cases tl with
  | nil => simp [canT, can4, lT, rT, wt, innerB] at hc
  | node nl pl tlr tll =>
   cases tr with
   | nil => simp [canT, can4, lT, rT, wt, innerB] at hc
   | node nr pr trr trl =>
    have e : (outsT true (.node nx px (.node nr pr trr trl) (.node nl pl tlr tll)) 4).map plc = [px, pl, pr] := by simp [outsT, lT, rT, plc]
    rw [e]
    exact tp4m nx px nl pl nr pr tlr tll trr trl hnd
theorem tq5 (rt : Bool) (X : Tr) (hne : X ≠ .nil) (hnd : (plT X).Nodup) (hc : canT false rt X 5 = true) : ((outsT false X 5).map plc).Nodup ∧ (∀ q ∈ (outsT false X 5).map plc, q ∈ plT X) ∧ Cl ((outsT false X 5).map plc) X := by
 cases X with
 | nil => exact absurd rfl hne
 | node nx px tl tr =>
  cases tl with
  | nil => simp [canT, can5, lT, rT, wt, innerB] at hc
  | node nl pl tll tlr =>
   cases tr with
   | nil => simp [canT, can5, lT, rT, wt, innerB] at hc
   | node nr pr trl trr =>
    cases trl with
    | nil => simp [canT, can5, lT, rT, wt, innerB] at hc
    | node nrl prl trll trlr =>
     have e : (outsT false (.node nx px (.node nl pl tll tlr) (.node nr pr (.node nrl prl trll trlr) trr)) 5).map plc = [px, pl, pr, prl] := by simp [outsT, lT, rT, plc]
     rw [e]
     exact tp5 nx px nl pl nr pr nrl prl tll tlr trr trll trlr hnd
theorem tq5m (rt : Bool) (X : Tr) (hne : X ≠ .nil) (hnd : (plT X).Nodup) (hc : canT true rt X 5 = true) : ((outsT true X 5).map plc).Nodup ∧ (∀ q ∈ (outsT true X 5).map plc, q ∈ plT X) ∧ Cl ((outsT true X 5).map plc) X := by
 cases X with
 | nil => exact absurd rfl hne
 | node nx px tr tl =>
  cases tl with
  | nil => simp [canT, can5, lT, rT, wt, innerB] at hc
  | node nl pl tlr tll =>
   cases tr with
   | nil => simp [canT, can5, lT, rT, wt, innerB] at hc
   | node nr pr trr trl =>
    cases trl with
    | nil => simp [canT, can5, lT, rT, wt, innerB] at hc
    | node nrl prl trlr trll =>
     have e : (outsT true (.node nx px (.node nr pr trr (.node nrl prl trlr trll)) (.node nl pl tlr tll)) 5).map plc = [px, pl, pr, prl] := by simp [outsT, lT, rT, plc]
     rw [e]
     exact tp5m nx px nl pl nr pr nrl prl tlr tll trr trlr trll hnd
theorem tq6 (rt : Bool) (X : Tr) (hne : X ≠ .nil) (hnd : (plT X).Nodup) (hc : canT false rt X 6 = true) : ((outsT false X 6).map plc).Nodup ∧ (∀ q ∈ (outsT false X 6).map plc, q ∈ plT X) ∧ Cl ((outsT false X 6).map plc) X := by
 cases X with
 | nil => exact absurd rfl hne
 | node nx px tl tr =>
  cases tl with
  | nil => simp [canT, can6, lT, rT, wt, innerB] at hc
  | node nl pl tll tlr =>
   cases tr with
   | nil => simp [canT, can6, lT, rT, wt, innerB] at hc
   | node nr pr trl trr =>
    cases trl with
    | nil => simp [canT, can6, lT, rT, wt, innerB] at hc
    | node nrl prl trll trlr =>
     have e : (outsT false (.node nx px (.node nl pl tll tlr) (.node nr pr (.node nrl prl trll trlr) trr)) 6).map plc = [px, pl, pr, prl] := by simp [outsT, lT, rT, plc]
     rw [e]
     exact tp6 nx px nl pl nr pr nrl prl tll tlr trr trll trlr hnd
theorem tq6m (rt : Bool) (X : Tr) (hne : X ≠ .nil) (hnd : (plT X).Nodup) (hc : canT true rt X 6 = true) : ((outsT true X 6).map plc).Nodup ∧ (∀ q ∈ (outsT true X 6).map plc, q ∈ plT X) ∧ Cl ((outsT true X 6).map plc) X := by
 cases X with
 | nil => exact absurd rfl hne
 | node nx px tr tl =>
  cases tl with
  | nil => simp [canT, can6, lT, rT, wt, innerB] at hc
  | node nl pl tlr tll =>
   cases tr with
   | nil => simp [canT, can6, lT, rT, wt, innerB] at hc
   | node nr pr trr trl =>
    cases trl with
    | nil => simp [canT, can6, lT, rT, wt, innerB] at hc
    | node nrl prl trlr trll =>
     have e : (outsT true (.node nx px (.node nr pr trr (.node nrl prl trlr trll)) (.node nl pl tlr tll)) 6).map plc = [px, pl, pr, prl] := by simp [outsT, lT, rT, plc]
     rw [e]
     exact tp6m nx px nl pl nr pr nrl prl tlr tll trr trlr trll hnd
theorem tq7 (rt : Bool) (X : Tr) (hne : X ≠ .nil) (hnd : (plT X).Nodup) (hc : canT false rt X 7 = true) : ((outsT false X 7).map plc).Nodup ∧ (∀ q ∈ (outsT false X 7).map plc, q ∈ plT X) ∧ Cl ((outsT false X 7).map plc) X := by
 cases X with
 | nil => exact absurd rfl hne
 | node nx px tl tr =>
  cases tl with
  | nil => simp [canT, can7, lT, rT, wt, innerB] at hc
  | node nl pl tll tlr =>
   cases tr with
   | nil => simp [canT, can7, lT, rT, wt, innerB] at hc
   | node nr pr trl trr =>
    cases trl with
    | nil => simp [canT, can7, lT, rT, wt, innerB] at hc
    | node nrl prl trll trlr =>
     cases trll with
     | nil => simp [canT, can7, lT, rT, wt, innerB] at hc
     | node nrll prll trlll trllr =>
      have e : (outsT false (.node nx px (.node nl pl tll tlr) (.node nr pr (.node nrl prl (.node nrll prll trlll trllr) trlr) trr)) 7).map plc = [px, pl, pr, prl, prll] := by simp [outsT, lT, rT, plc]
      rw [e]
      exact tp7 nx px nl pl nr pr nrl prl nrll prll tll tlr trr trlr trlll trllr hnd
theorem tq7m (rt : Bool) (X : Tr) (hne : X ≠ .nil) (hnd : (plT X).Nodup) (hc : canT true rt X 7 = true) : ((outsT true X 7).map plc).Nodup ∧ (∀ q ∈ (outsT true X 7).map plc, q ∈ plT X) ∧ Cl ((outsT true X 7).map plc) X := by
 cases X with
 | nil => exact absurd rfl hne
 | node nx px tr tl =>
  cases tl with
  | nil => simp [canT, can7, lT, rT, wt, innerB] at hc
  | node nl pl tlr tll =>
   cases tr with
   | nil => simp [canT, can7, lT, rT, wt, innerB] at hc
   | node nr pr trr trl =>
    cases trl with
    | nil => simp [canT, can7, lT, rT, wt, innerB] at hc
    | node nrl prl trlr trll =>
     cases trll with
     | nil => simp [canT, can7, lT, rT, wt, innerB] at hc
     | node nrll prll trllr trlll =>
      have e : (outsT true (.node nx px (.node nr pr trr (.node nrl prl trlr (.node nrll prll trllr trlll))) (.node nl pl tlr tll)) 7).map plc = [px, pl, pr, prl, prll] := by simp [outsT, lT, rT, plc]
      rw [e]
      exact tp7m nx px nl pl nr pr nrl prl nrll prll tlr tll trr trlr trllr trlll hnd
theorem tq8 (rt : Bool) (X : Tr) (hne : X ≠ .nil) (hnd : (plT X).Nodup) (hc : canT false rt X 8 = true) : ((outsT false X 8).map plc).Nodup ∧ (∀ q ∈ (outsT false X 8).map plc, q ∈ plT X) ∧ Cl ((outsT false X 8).map plc) X := by
 cases X with
 | nil => exact absurd rfl hne
 | node nx px tl tr =>
  cases tl with
  | nil => simp [canT, can8, lT, rT, wt, innerB] at hc
  | node nl pl tll tlr =>
   cases tr with
   | nil => simp [canT, can8, lT, rT, wt, innerB] at hc
   | node nr pr trl trr =>
    cases trl with
    | nil => simp [canT, can8, lT, rT, wt, innerB] at hc
    | node nrl prl trll trlr =>
     cases trlr with
     | nil => simp [canT, can8, lT, rT, wt, innerB] at hc
     | node nrlr prlr trlrl trlrr =>
      have e : (outsT false (.node nx px (.node nl pl tll tlr) (.node nr pr (.node nrl prl trll (.node nrlr prlr trlrl trlrr)) trr)) 8).map plc = [px, pl, pr, prl, prlr] := by simp [outsT, lT, rT, plc]
      rw [e]
      exact tp8 nx px nl pl nr pr nrl prl nrlr prlr tll tlr trr trll trlrl trlrr hnd
theorem tq8m (rt : Bool) (X : Tr) (hne : X ≠ .nil) (hnd : (plT X).Nodup) (hc : canT true rt X 8 = true) : ((outsT true X 8).map plc).Nodup ∧ (∀ q ∈ (outsT true X 8).map plc, q ∈ plT X) ∧ Cl ((outsT true X 8).map plc) X := by
 cases X with
 | nil => exact absurd rfl hne
 | node nx px tr tl =>
  cases tl with
  | nil => simp [canT, can8, lT, rT, wt, innerB] at hc
  | node nl pl tlr tll =>
   cases tr with
   | nil => simp [canT, can8, lT, rT, wt, innerB] at hc
   | node nr pr trr trl =>
    cases trl with
    | nil => simp [canT, can8, lT, rT, wt, innerB] at hc
    | node nrl prl trlr trll =>
     cases trlr with
     | nil => simp [canT, can8, lT, rT, wt, innerB] at hc
     | node nrlr prlr trlrr trlrl =>
      have e : (outsT true (.node nx px (.node nr pr trr (.node nrl prl (.node nrlr prlr trlrr trlrl) trll)) (.node nl pl tlr tll)) 8).map plc = [px, pl, pr, prl, prlr] := by simp [outsT, lT, rT, plc]
      rw [e]
      exact tp8m nx px nl pl nr pr nrl prl nrlr prlr tlr tll trr trll trlrr trlrl hnd
theorem tq9 (rt : Bool) (X : Tr) (hne : X ≠ .nil) (hnd : (plT X).Nodup) (hc : canT false rt X 9 = true) : ((outsT false X 9).map plc).Nodup ∧ (∀ q ∈ (outsT false X 9).map plc, q ∈ plT X) ∧ Cl ((outsT false X 9).map plc) X := by
 cases X with
 | nil => exact absurd rfl hne
 | node nx px tl tr =>
  cases tl with
  | nil => simp [canT, can9, lT, rT, wt, innerB] at hc
  | node nl pl tll tlr =>
   cases tr with
   | nil => simp [canT, can9, lT, rT, wt, innerB] at hc
   | node nr pr trl trr =>
    cases trr with
    | nil => simp [canT, can9, lT, rT, wt, innerB] at hc
    | node nrr prr trrl trrr =>
     have e : (outsT false (.node nx px (.node nl pl tll tlr) (.node nr pr trl (.node nrr prr trrl trrr))) 9).map plc = [px, pl, pr, prr] := by simp [outsT, lT, rT, plc]
     rw [e]
     exact tp9 nx px nl pl nr pr nrr prr tll tlr trl trrl trrr hnd
theorem tq9m (rt : Bool) (X : Tr) (hne : X ≠ .nil) (hnd : (plT X).Nodup) (hc : canT true rt X 9 = true) : ((outsT true X 9).map plc).Nodup ∧ (∀ q ∈ (outsT true X 9).map plc, q ∈ plT X) ∧ Cl ((outsT true X 9).map plc) X := by
 cases X with
 | nil => exact absurd rfl hne
 | node nx px tr tl =>
  cases tl with
  | nil => simp [canT, can9, lT, rT, wt, innerB] at hc
  | node nl pl tlr tll =>
   cases tr with
   | nil => simp [canT, can9, lT, rT, wt, innerB] at hc
   | node nr pr trr trl =>
    cases trr with
    | nil => simp [canT, can9, lT, rT, wt, innerB] at hc
    | node nrr prr trrr trrl =>
     have e : (outsT true (.node nx px (.node nr pr (.node nrr prr trrr trrl) trl) (.node nl pl tlr tll)) 9).map plc = [px, pl, pr, prr] := by simp [outsT, lT, rT, plc]
     rw [e]
     exact tp9m nx px nl pl nr pr nrr prr tlr tll trl trrr trrl hnd
theorem tq10 (rt : Bool) (X : Tr) (hne : X ≠ .nil) (hnd : (plT X).Nodup) (hc : canT false rt X 10 = true) : ((outsT false X 10).map plc).Nodup ∧ (∀ q ∈ (outsT false X 10).map plc, q ∈ plT X) ∧ Cl ((outsT false X 10).map plc) X := by
 cases X with
 | nil => exact absurd rfl hne
 | node nx px tl tr =>
  cases tl with
  | nil => simp [canT, can10, lT, rT, wt, innerB] at hc
  | node nl pl tll tlr =>
   cases tr with
   | nil => simp [canT, can10, lT, rT, wt, innerB] at hc
   | node nr pr trl trr =>
    cases trl with
    | nil => simp [canT, can10, lT, rT, wt, innerB] at hc
    | node nrl prl trll trlr =>
     have e : (outsT false (.node nx px (.node nl pl tll tlr) (.node nr pr (.node nrl prl trll trlr) trr)) 10).map plc = [px, pl, pr, prl] := by simp [outsT, lT, rT, plc]
     rw [e]
     exact tp10 nx px nl pl nr pr nrl prl tll tlr trr trll trlr hnd
theorem tq10m (rt : Bool) (X : Tr) (hne : X ≠ .nil) (hnd : (plT X).Nodup) (hc : canT true rt X 10 = true) : ((outsT true X 10).map plc).Nodup ∧ (∀ q ∈ (outsT true X 10).map plc, q ∈ plT X) ∧ Cl ((outsT true X 10).map plc) X := by
 cases X with
 | nil => exact absurd rfl hne
 | node nx px tr tl =>
  cases tl with
  | nil => simp [canT, can10, lT, rT, wt, innerB] at hc
  | node nl pl tlr tll =>
   cases tr with
   | nil => simp [canT, can10, lT, rT, wt, innerB] at hc
   | node nr pr trr trl =>
    cases trl with
    | nil => simp [canT, can10, lT, rT, wt, innerB] at hc
    | node nrl prl trlr trll =>
     have e : (outsT true (.node nx px (.node nr pr trr (.node nrl prl trlr trll)) (.node nl pl tlr tll)) 10).map plc = [px, pl, pr, prl] := by simp [outsT, lT, rT, plc]
     rw [e]
     exact tp10m nx px nl pl nr pr nrl prl tlr tll trr trlr trll hnd
theorem tq11 (rt : Bool) (X : Tr) (hne : X ≠ .nil) (hnd : (plT X).Nodup) (hc : canT false rt X 11 = true) : ((outsT false X 11).map plc).Nodup ∧ (∀ q ∈ (outsT false X 11).map plc, q ∈ plT X) ∧ Cl ((outsT false X 11).map plc) X := by
 cases X with
 | nil => exact absurd rfl hne
 | node nx px tl tr =>
  cases tl with
  | nil => simp [canT, can11, lT, rT, wt, innerB] at hc
  | node nl pl tll tlr =>
   cases tr with
   | nil => simp [canT, can11, lT, rT, wt, innerB] at hc
   | node nr pr trl trr =>
    have e : (outsT false (.node nx px (.node nl pl tll tlr) (.node nr pr trl trr)) 11).map plc = [px, pl, pr] := by simp [outsT, lT, rT, plc]
    rw [e]
    exact tp11 nx px nl pl nr pr tll tlr trl trr hnd
theorem tq11m (rt : Bool) (X : Tr) (hne : X ≠ .nil) (hnd : (plT X).Nodup) (hc : canT true rt X 11 = true) : ((outsT true X 11).map plc).Nodup ∧ (∀ q ∈ (outsT true X 11).map plc, q ∈ plT X) ∧ Cl ((outsT true X 11).map plc) X := by
 cases X with
 | nil => exact absurd rfl hne
 | node nx px tr tl =>
  cases tl with
  | nil => simp [canT, can11, lT, rT, wt, innerB] at hc
  | node nl pl tlr tll =>
   cases tr with
   | nil => simp [canT, can11, lT, rT, wt, innerB] at hc
   | node nr pr trr trl =>
    have e : (outsT true (.node nx px (.node nr pr trr trl) (.node nl pl tlr tll)) 11).map plc = [px, pl, pr] := by simp [outsT, lT, rT, plc]
    rw [e]
    exact tp11m nx px nl pl nr pr tlr tll trr trl hnd
theorem tq12 (rt : Bool) (X : Tr) (hne : X ≠ .nil) (hnd : (plT X).Nodup) (hc : canT false rt X 12 = true) : ((outsT false X 12).map plc).Nodup ∧ (∀ q ∈ (outsT false X 12).map plc, q ∈ plT X) ∧ Cl ((outsT false X 12).map plc) X := by
 cases X with
 | nil => exact absurd rfl hne
 | node nx px tl tr =>
  have e : (outsT false (.node nx px tl tr) 12).map plc = [px] := by simp [outsT, lT, rT, plc]
  rw [e]
  exact tp12 nx px tl tr hnd
theorem tq12m (rt : Bool) (X : Tr) (hne : X ≠ .nil) (hnd : (plT X).Nodup) (hc : canT true rt X 12 = true) : ((outsT true X 12).map plc).Nodup ∧ (∀ q ∈ (outsT true X 12).map plc, q ∈ plT X) ∧ Cl ((outsT true X 12).map plc) X := by
 cases X with
 | nil => exact absurd rfl hne
 | node nx px tr tl =>
  have e : (outsT true (.node nx px tr tl) 12).map plc = [px] := by simp [outsT, lT, rT, plc]
  rw [e]
  exact tp12m nx px tr tl hnd
theorem touched_pre {m rt : Bool} {X : Tr} {kind : Int} (hk : 1 ≤ kind ∧ kind ≤ 12) (hne : X ≠ .nil) (hnd : (plT X).Nodup) (hc : canT m rt X kind = true) : ((outsT m X kind).map plc).Nodup ∧ (∀ q ∈ (outsT m X kind).map plc, q ∈ plT X) ∧ Cl ((outsT m X kind).map plc) X := by
 have hd : kind = 1 ∨ kind = 2 ∨ kind = 3 ∨ kind = 4 ∨ kind = 5 ∨ kind = 6 ∨ kind = 7 ∨ kind = 8 ∨ kind = 9 ∨ kind = 10 ∨ kind = 11 ∨ kind = 12 := by omega
 cases m
 ·rcases hd with rfl | rfl | rfl | rfl | rfl | rfl | rfl | rfl | rfl | rfl | rfl | rfl
  ·exact tq1 rt X hne hnd hc
  ·exact tq2 rt X hne hnd hc
  ·exact tq3 rt X hne hnd hc
  ·exact tq4 rt X hne hnd hc
  ·exact tq5 rt X hne hnd hc
  ·exact tq6 rt X hne hnd hc
  ·exact tq7 rt X hne hnd hc
  ·exact tq8 rt X hne hnd hc
  ·exact tq9 rt X hne hnd hc
  ·exact tq10 rt X hne hnd hc
  ·exact tq11 rt X hne hnd hc
  ·exact tq12 rt X hne hnd hc
 ·rcases hd with rfl | rfl | rfl | rfl | rfl | rfl | rfl | rfl | rfl | rfl | rfl | rfl
  ·exact tq1m rt X hne hnd hc
  ·exact tq2m rt X hne hnd hc
  ·exact tq3m rt X hne hnd hc
  ·exact tq4m rt X hne hnd hc
  ·exact tq5m rt X hne hnd hc
  ·exact tq6m rt X hne hnd hc
  ·exact tq7m rt X hne hnd hc
  ·exact tq8m rt X hne hnd hc
  ·exact tq9m rt X hne hnd hc
  ·exact tq10m rt X hne hnd hc
  ·exact tq11m rt X hne hnd hc
  ·exact tq12m rt X hne hnd hc
theorem touched_pure {m rt : Bool} {X : Tr} {kind : Int} (hk : 1 ≤ kind ∧ kind ≤ 12) (hne : X ≠ .nil) (h2 : TwoT X) (hnd : (plT X).Nodup) (hc : canT m rt X kind = true) : ((outsT m X kind).map plc).Nodup ∧ ∃ res, rowsR ((outsT m X kind).map plc) 10 [] [X] = some res ∧ rowsP ((outsT m X kind).map plc) 10 [] [X] = some res := by
 obtain ⟨h1, h3, h4⟩ := touched_pre hk hne hnd hc
 have hl : ((outsT m X kind).map plc).length ≤ 5 := by rw [List.length_map]; exact outs_len _ _ _
 have hp : 0 < ((outsT m X kind).map plc).length := by
  rw [List.length_map]
  have hd : kind = 1 ∨ kind = 2 ∨ kind = 3 ∨ kind = 4 ∨ kind = 5 ∨ kind = 6 ∨ kind = 7 ∨ kind = 8 ∨ kind = 9 ∨ kind = 10 ∨ kind = 11 ∨ kind = 12 := by omega
  rcases hd with rfl | rfl | rfl | rfl | rfl | rfl | rfl | rfl | rfl | rfl | rfl | rfl <;> simp [outsT]
 generalize (outsT m X kind).map plc = O at *
 refine ⟨h1, ?_⟩
 have hg : ∀ T ∈ [X], GoodR O T := fun T hT => by rw [List.mem_singleton.1 hT]; exact ⟨hne, h2, h4⟩
 have hcnt : cntO O [X] = O.length := by
  unfold cntO
  rw [List.flatMap_singleton]
  refine List.Perm.length_eq ((List.perm_ext_iff_of_nodup (hnd.filter _) h1).2 (fun q => ?_))
  rw [List.mem_filter]
  exact ⟨fun h => by simpa using h.2, fun h => ⟨h3 q h, by simpa using h⟩⟩
 exact rows_alike h1 O.length 10 [] [X] [X] hcnt hp (by simp) rfl hg hg (by omega)
theorem lay_ok : ∀ {T : Tr} (a : Nat), Ok T → layT T a = flatT T a
 | .nil, _, h => h.elim
 | .node n p .nil r, a, h => by
  obtain ⟨e1, e2, e3⟩ := ok_leaf h
  rw [layT, flatT]
  cases n
  simp only at e2 e3
  rw [e2, e3]
 | .node n p (.node n' p' l' r') r, a, h => by
  obtain ⟨h1, h2⟩ := ok_inner h (by simp)
  rw [layT, flatT, lay_ok _ h1, lay_ok _ h2]
theorem ok_great : ∀ {T : Tr}, Ok T → greatT T = false
 | .nil, h => h.elim
 | .node n p l r, h => by
  rw [greatT, decide_eq_false (by have := h.1; omega), Bool.false_or]
  rcases h.2.2 with ⟨rfl, rfl, _⟩ | ⟨_, h1, h2⟩
  ·rfl
  ·rw [ok_great h1, ok_great h2]; rfl
theorem ins_new (c : Nat) (R : Tr) : ∀ T : Tr, insT (c : Int) R T = newX c R T
 | .nil => by rw [insT, newX, if_neg (plc_nil c)]; rfl
 | .node n p l r => by
  rw [insT, newX, repl_new, ins_new c R l, ins_new c R r]
  rfl
def doV (t : List S34) (T X : Tr) (c : Nat) (kind : Int) (mir rt : Bool) : List S34 × Int :=
 if canT mir rt X kind = true then (if greatT (newT mir rt X kind) = true then ([], 2) else (flatT (replT c (newT mir rt X kind) T) 0, 0)) else ([], 6)
structure InK (K : Nat) (t : List S34) (T X0 : Tr) (c0 : Nat) (met : List Bool) (c : Nat) (X : Tr) : Prop where
 base : KeysOk K t T X0 c0 met
 lt : c < t.length
 inX : (c : Int) ∈ plT X0
 sub : mkT t t.length c = some X
 ok : Ok X
 pla : plaT c X0 = X
 inf : allT (fun n => n.f1 = 0) X
 nod : (plT X).Nodup
 ne0 : c ≠ 0
theorem in_k {K : Nat} {t : List S34} {T X0 : Tr} {c0 : Nat} {met : List Bool} (h : KeysOk K t T X0 c0 met) {a : Int} (ha : a ∈ plT X0) : ∃ c X, a = (c : Nat) ∧ InK K t T X0 c0 met c X := by
 obtain ⟨h0, h1⟩ := (plT_mem _ _ _ h.tree).2 a ha
 obtain ⟨c, rfl⟩ : ∃ c : Nat, a = c := ⟨a.toNat, by omega⟩
 obtain ⟨p1, p2⟩ := pla_in (c : Int) _ _ _ h.tree ha
 rw [Int.toNat_natCast] at p2
 obtain ⟨X', hX', hall⟩ := sub_ex h.tree _ ha
 rw [Int.toNat_natCast] at hX'
 obtain rfl : X' = plaT (c : Int) X0 := by rw [p2] at hX'; exact (Option.some.inj hX').symm
 have hT0 : (0 : Int) ∉ plT X0 := by
  have hn := h.good.nodup
  obtain ⟨n0, n1, q1, q2, q0, rfl, _⟩ := h.crown
  simp only [plT, List.nodup_cons, List.mem_append, List.mem_cons, not_or] at hn
  exact fun hm => hn.1.1.2.1 hm
 have hcT : (c : Int) ∈ plT T := by
  obtain ⟨n0, n1, q1, q2, q0, rfl, _⟩ := h.crown
  simp only [plT, List.mem_cons, List.mem_append]
  exact .inr (.inl (.inr (.inl ha)))
 have hinf : allT (fun n => n.f1 = 0) X0 := by
  obtain ⟨n0, n1, q1, q2, q0, _, _, _, _, _, hi, _⟩ := h.crown
  exact hi
 refine ⟨c, _, rfl, h, by omega, ha, p2, ok_mkT h.good.form p2, rfl, hall _ hinf, ?_, fun e => hT0 (by rw [e] at ha; exact ha)⟩
 exact mk_nodup h.good.form (good_uq h.good) _ _ _ p2 (mem_up h.good.form _ _ _ h.good.tree c hcT)
theorem do_val {K : Nat} {t : List S34} {T X0 : Tr} {c0 : Nat} {met : List Bool} {c : Nat} {X : Tr} (h : InK K t T X0 c0 met c X) {kind : Int} {mir : Bool} (hm : steps_Move_is.f kind mir = some true) :
  steps_Do.f K t c kind mir = some (doV t T X c kind mir ((c : Int) == (c0 : Int))) := by
 have hkd := move_kind hm
 have hok := h.ok
 have hg := h.base.good
 have hokT : Ok T := ok_mkT hg.form hg.tree
 have hml := h.base.ml
 have hlt := h.lt
 have hbel : rdOf false met (c : Int) = true := (h.base.mem c h.lt).2 h.inX
 have hsz : sizeT T = t.length := by rw [size_pl, hg.all]
 have hlen := hg.len
 unfold steps_Do.f
 rw [h.base.keys, Option.bind_some]
 simp only
 rw [if_pos trivial, hm, Option.bind_some, if_pos rfl, if_neg (by omega), if_pos (by omega), if_pos hbel, Int.toNat_natCast]
 unfold doGood doV
 rw [if_pos (okB_good hg), h.sub, Option.bind_some]
 by_cases hcan : canT mir ((c : Int) == (c0 : Int)) X kind = true
 ·rw [if_pos hcan, if_pos hcan]
  have fin : ∀ R, Gives ((c : Int) == (c0 : Int)) X R → (mkR t c R t.length 0).bind outT = some (flatT (replT c R T) 0, 0) := by
   intro R hR
   have h1 := mkR_eq t c R _ _ _ hg.tree
   have h2 : Ok (replT c R T) := repl_ok hR.ok hokT
   have h3 : sizeT (replT c R T) = t.length := by rw [repl_size h.sub hR.size _ _ _ hg.tree, hsz]
   rw [h1, Option.bind_some, outT, if_pos (fullB_ok h2), if_pos (by omega)]
  by_cases hrt : ((c : Int) == (c0 : Int)) = true
  ·rw [hrt] at fin hcan ⊢
   have hG := gives_root mir hkd hok hcan
   have hN : newT mir true X kind = setW (doT mir X kind) 1 := rfl
   rw [if_pos rfl, hN, ok_great hG.ok, if_neg (by simp)]
   exact fin _ hG
  ·rw [Bool.not_eq_true] at hrt
   rw [hrt] at fin hcan ⊢
   have hN : newT mir false X kind = doT mir X kind := rfl
   rw [hN]
   by_cases hbig : 1000000 < wt (doT mir X kind)
   ·have hgr : greatT (doT mir X kind) = true := by
     cases hd : doT mir X kind with
     | nil => rw [hd] at hbig; simp [wt] at hbig
     | node n p l r => rw [hd, wt] at hbig; rw [greatT, decide_eq_true hbig]; simp
    rw [if_neg (by simp), if_pos hbig, hgr, if_pos rfl]
   ·have hG := gives_plain mir hkd hok hcan hbig
    rw [if_neg (by simp), if_neg hbig, ok_great hG.ok, if_neg (by simp)]
    exact fin _ hG
 ·rw [if_neg hcan, if_neg hcan]
def AtE (k : Nat) (t : List S34) (a kind : Int) (mir asked : Bool) (e : Int) : Prop :=
 e ≠ 0 ∧ ((∃ r1 r2, steps_keys.f k t = some (r1, r2, e)) ∨ ∃ r1 r2, steps_keys.f k t = some (r1, r2, 0) ∧ ((asked = true ∧ steps_Move_is.f kind mir = some false ∧ e = 5) ∨ ((asked = true → steps_Move_is.f kind mir = some true) ∧ e = 1 ∧ ((a < 0 ∨ (t.length : Int) ≤ a) ∨ (0 ≤ a ∧ a < t.length ∧ a < r2.length ∧ rdOf false r2 a = false)))))
theorem at_e {k : Nat} {A0 : Option Addr} {c0 : Nat} {t : List S34} {a kind : Int} {mir asked : Bool} {e : Int} (w : World) (hr0 : Kd.C k34 w A0 t.length t) (hc0 : t.length ≤ c0) (h : AtE k t a kind mir asked e) :
  Calls Try.prog 62 #[.slice A0 t.length c0, .int .i64 a, .agg #[.int .i64 kind, .bool mir], .bool asked] w (RB w (.tuple #[.slice none 0 0, .int .i64 0, .int .i64 e])) := by
 obtain ⟨he, ⟨r1, r2, h⟩ | ⟨r1, r2, h, ⟨ha, hm, rfl⟩ | ⟨hm, rfl, hp | ⟨h0, h1, h2, hb⟩⟩⟩⟩ := h
 ·exact at_err1 k A0 c0 t a kind mir asked r1 r2 e w hr0 hc0 h he
 ·subst ha
  exact at_err2 k A0 c0 t a kind mir r1 r2 w hr0 hc0 h hm
 ·cases asked
  ·exact at_err3f k A0 c0 t a kind mir r1 r2 w hr0 hc0 h hm hp
  ·exact at_err3t k A0 c0 t a kind mir r1 r2 w hr0 hc0 h hm hp
 ·cases asked
  ·exact at_err4f k A0 c0 t a kind mir r1 r2 w hr0 hc0 h hm h0 h1 h2 hb
  ·exact at_err4t k A0 c0 t a kind mir r1 r2 w hr0 hc0 h hm h0 h1 h2 hb
structure AtG (k : Nat) (t : List S34) (c : Nat) (r1 : Int) (met : List Bool) (X : Tr) : Prop where
 keys : steps_keys.f k t = some (r1, met, 0)
 lt : c < t.length
 ml : met.length = t.length
 bel : met.getD c false = true
 len : t.length ≤ 100000
 kids : ∀ i, i < t.length → 0 ≤ (t.getD i z34).f4 → (t.getD i z34).f4 < t.length ∧ 0 ≤ (t.getD i z34).f5 ∧ (t.getD i z34).f5 < t.length
 tree : ∃ K, mkT t K c = some X
theorem at_g {k : Nat} {A0 : Option Addr} {c0 : Nat} {t : List S34} {c : Nat} {kind : Int} {mir asked : Bool} {r1 : Int} {met : List Bool} {X : Tr} (w : World) (hr0 : Kd.C k34 w A0 t.length t) (hc0 : t.length ≤ c0) (h : AtG k t c r1 met X) (hm : asked = true → steps_Move_is.f kind mir = some true) :
  Calls Try.prog 62 #[.slice A0 t.length c0, .int .i64 c, .agg #[.int .i64 kind, .bool mir], .bool asked] w fun ed w' => ∃ B, ed = .returned (.tuple #[.slice (some ⟨B, 0, none⟩) t.length t.length, .int .i64 r1, .int .i64 0]) ∧ Below w.heap.size w w' ∧ w'.cell? ⟨B, c, none⟩ = some (.pointer (some ⟨B + 2 + 2 * c, 0, none⟩)) ∧ Rep (SetC B t c) w' (.pointer (some ⟨B + 2 + 2 * c, 0, none⟩)) X := by
 have hf : ∀ ed w', AtPost w t r1 ed w' → ∃ B, ed = .returned (.tuple #[.slice (some ⟨B, 0, none⟩) t.length t.length, .int .i64 r1, .int .i64 0]) ∧ Below w.heap.size w w' ∧ w'.cell? ⟨B, c, none⟩ = some (.pointer (some ⟨B + 2 + 2 * c, 0, none⟩)) ∧ Rep (SetC B t c) w' (.pointer (some ⟨B + 2 + 2 * c, 0, none⟩)) X := by
  rintro ed w' ⟨wg, rfl, hb, hfo⟩
  obtain ⟨K, hX⟩ := h.tree
  exact ⟨wg.heap.size, rfl, bel_t' hb hfo.bel, (rowIs_cell hfo.ptrs c h.lt).trans (by rw [if_pos h.lt]; rfl), forest_rep hfo hX K c X hX (Nat.le_refl _)⟩
 have hl := h.lt
 have hml := h.ml
 have hln := h.len
 have hbel : rdOf false met (c : Int) = true := h.bel
 cases asked
 ·exact (at_okf k A0 c0 t c kind mir r1 met w hr0 hc0 h.keys hm (by omega) (by omega) (by omega) hbel (by omega) h.kids).mono hf
 ·exact (at_okt k A0 c0 t c kind mir r1 met w hr0 hc0 h.keys hm (by omega) (by omega) (by omega) hbel (by omega) h.kids).mono hf
theorem sCan_err {k : Nat} {A0 : Option Addr} {c0 : Nat} {t : List S34} {a kind : Int} {mir : Bool} {e : Int} (w : World) (hr0 : Kd.C k34 w A0 t.length t) (hc0 : t.length ≤ c0) (h : AtE k t a kind mir true e) :
  Calls Try.prog 28 #[.slice A0 t.length c0, .int .i64 a, .agg #[.int .i64 kind, .bool mir]] w (RB w (.tuple #[.bool false, .int .i64 e])) := by
 have HR0 := Am hr0
 have HC0 := Am hc0
 have H := Am h
 have q : (e != 0) = true := bne_iff_ne.mpr h.1
 clear hr0 hc0 h
 go_enter Try.func28, Try.ntmps28
 go_wp2_with (fail)
 refine (at_e _ (Kd.C_below HR0.out (ba (Below.refl _ _) (.cells #[.int .i64 kind, .bool mir] 62))) HC0.out H.out).mono ?_
 rintro _ w2 ⟨rfl, hb⟩
 have HB := Am ((ba (Below.refl w.heap.size w) _).trans (hb.mono (by simp)))
 clear hb
 go_wp2
 go_ret2
 exact ⟨rfl, HB.out⟩
theorem sHere_err {k : Nat} {A0 : Option Addr} {c0 : Nat} {t : List S34} {a : Int} {e : Int} (w : World) (hr0 : Kd.C k34 w A0 t.length t) (hc0 : t.length ≤ c0) (h : AtE k t a 0 false false e) :
  Calls Try.prog 31 #[.slice A0 t.length c0, .int .i64 a] w (RB w (.tuple #[.slice none 0 0, .int .i64 e])) := by
 have HR0 := Am hr0
 have HC0 := Am hc0
 have H := Am h
 have q : (e != 0) = true := bne_iff_ne.mpr h.1
 clear hr0 hc0 h
 go_enter Try.func31, Try.ntmps31
 go_wp2_with (fail)
 refine (at_e _ HR0.out HC0.out H.out).mono ?_
 rintro _ w2 ⟨rfl, hb⟩
 have HB := Am hb
 clear hb
 go_wp2
 go_ret2
 exact ⟨rfl, HB.out⟩
theorem sHere_ok {k : Nat} {A0 : Option Addr} {c0 : Nat} {t : List S34} {c : Nat} {r1 : Int} {met : List Bool} {X : Tr} (w : World) (hr0 : Kd.C k34 w A0 t.length t) (hc0 : t.length ≤ c0) (h : AtG k t c r1 met X) :
  Calls Try.prog 31 #[.slice A0 t.length c0, .int .i64 c] w fun ed w' => ∃ v, ed = .returned (.tuple #[v, .int .i64 0]) ∧ Kd.R k62 62 w' w.heap.size (fun _ => True) v (hereS ((c : Int) == r1) X) ∧ Below w.heap.size w w' := by
 have HR0 := Am hr0
 have HC0 := Am hc0
 have H := Am h
 have p1 : (0 ≤ (c : Int)) = True := eq_true (by omega)
 have p2 : ((c : Int) < (t.length : Int)) = True := eq_true (by have := h.lt; omega)
 clear hr0 hc0 h
 go_enter Try.func31, Try.ntmps31
 go_wp2_with (fail)
 refine (at_g _ HR0.out HC0.out H.out (fun h => by cases h)).mono ?_
 rintro _ w2 ⟨B, rfl, hb, hpc, hx⟩
 have HB := Am hb
 have HX := Am hx
 clear hb hx
 go_wp2_with (fail)
 refine (here_any _ X ((c : Int) == r1) _ HX.out).mono ?_
 rintro _ w3 ⟨v, rfl, ho, hb⟩
 have HO := Am (Kd.R_lower ho HB.out.size)
 have HB2 := Am (bel_t' HB.out hb)
 clear ho hb hpc
 go_wp2
 go_ret2
 exact ⟨_, rfl, HO.out, HB2.out⟩
theorem sCan_ok {k : Nat} {A0 : Option Addr} {c0 : Nat} {t : List S34} {c : Nat} {kind : Int} {mir : Bool} {r1 : Int} {met : List Bool} {X : Tr} (w : World) (hr0 : Kd.C k34 w A0 t.length t) (hc0 : t.length ≤ c0) (h : AtG k t c r1 met X) (hm : steps_Move_is.f kind mir = some true) (hk : 1 ≤ kind ∧ kind ≤ 12) :
  Calls Try.prog 28 #[.slice A0 t.length c0, .int .i64 c, .agg #[.int .i64 kind, .bool mir]] w fun ed w' => ed = .returned (.tuple #[.bool (canT mir ((c : Int) == r1) X kind), .int .i64 0]) ∧ Below w.heap.size w w' := by
 have HR0 := Am hr0
 have HC0 := Am hc0
 have H := Am h
 have HM := Am hm
 have HKD := Am hk
 have p1 : (0 ≤ (c : Int)) = True := eq_true (by omega)
 have p2 : ((c : Int) < (t.length : Int)) = True := eq_true (by have := h.lt; omega)
 clear hr0 hc0 h hm hk
 go_enter Try.func28, Try.ntmps28
 go_wp2_with (fail)
 refine (at_g _ (Kd.C_below HR0.out (ba (Below.refl _ _) (.cells #[.int .i64 kind, .bool mir] 62))) HC0.out H.out (fun _ => HM.out)).mono ?_
 rintro _ w2 ⟨B, rfl, hb, hpc, hx⟩
 have HB := Am ((ba (Below.refl w.heap.size w) _).trans (hb.mono (by simp)))
 have HK := Am ((hb.block w.heap.size (by simp)).trans (heap_alloc_new w (.cells #[.int .i64 kind, .bool mir] 62)))
 have HX := Am hx
 have HPC := Am hpc
 clear hb hx hpc
 go_wp2
 refine sG 14 (w0 := w2) (below_drew (Below.refl _ _)) fun w3 hHeld => ?_
 refine pu 0 22 ?_
 refine pu 1 23 ?_
 refine pu 2 24 ?_
 refine ta 3 25 hHeld (hy := by intro w' hs; have y := cellB hs HPC.out; go_simp; with_reducible rfl) ?_
 refine ta 4 26 hHeld (hy := by intro w' hs; obtain ⟨y0, y1⟩ := c2_of (blkB hs HK.out); go_simp; with_reducible rfl) ?_
 refine pu 5 27 ?_
 refine pu 6 28 ?_
 refine pu 7 29 ?_
 refine pu 9 31 ?_
 refine ta 10 32 hHeld (hy := by intro w' hs; obtain ⟨y0, y1⟩ := c2_of (blkB hs HK.out); go_simp; with_reducible rfl) ?_
 refine on 8 30 fun K hK => ?_
 refine gO Try.func63 #[.pointer (some ⟨B + 2 + 2 * c, 0, none⟩), .agg #[.int .i64 kind, .bool mir], .bool ((c : Int) == r1)] ?_
 refine (look_any (S := SetC B t c) (some ⟨B + 2 + 2 * c, 0, none⟩) X kind mir ((c : Int) == r1) _ (HX.out.below hHeld)).mono ?_
 rintro e w4 ⟨pl, pr, pll, plr, prl, prr, pa, pb, rfl, hb4, hl, hr, hll, hlr, hrl, hrr, ha, hb⟩
 have HB2 := Am (bel_t' hHeld hb4)
 have Hl := Am (hl.below hb4)
 have Hr := Am (hr.below hb4)
 have Hll := Am (hll.below hb4)
 have Hlr := Am (hlr.below hb4)
 have Hrl := Am (hrl.below hb4)
 have Hrr := Am (hrr.below hb4)
 have Ha := Am (ha.below hb4)
 have Hb := Am (hb.below hb4)
 clear hl hr hll hlr hrl hrr ha hb hb4
 refine ⟨_, rfl, ?_⟩
 refine hK.out _ _ HB2.out (fun hHeld => ?_)
 clear hK K HB2
 refine nm 30 ?_
 refine on 11 33 fun K hK => ?_
 refine gO Try.func64 #[.agg #[.bool mir, .pointer (some ⟨B + 2 + 2 * c, 0, none⟩), .pointer pl, .pointer pr, .pointer pll, .pointer plr, .pointer prl, .pointer prr, .pointer pa, .pointer pb, .bool ((c : Int) == r1)], .int .i64 kind] ?_
 refine (can_any (S := SetC B t c) mir ((c : Int) == r1) (some ⟨B + 2 + 2 * c, 0, none⟩) pl pr pll plr prl prr pa pb X w4 ⟨HX.out.below hHeld⟩ Hl Hr Hll Hlr Hrl Hrr Ha Hb kind HKD.out).mono ?_
 rintro e w5 ⟨rfl, hb5⟩
 have HB2 := Am (bel_t' hHeld hb5)
 clear hb5
 refine ⟨_, rfl, ?_⟩
 refine hK.out _ _ HB2.out (fun hHeld => ?_)
 clear hK K HB2
 refine nm 33 ?_
 refine pu 12 6 ?_
 refine pu 13 7 ?_
 refine done_ (by kernel_rfl) ?_
 go_wp2
 go_ret2
 exact ⟨rfl, bel_t' HB.out hHeld⟩
section
theorem ask_err {K : Nat} {t : List S34} {e a kind : Int} {mir : Bool} (h : SpotsErr K t e) : AskR K t a kind mir .nil false e := by
 obtain ⟨h1, h2, ⟨h3, h4⟩ | ⟨h3, r, h4, h5⟩⟩ := h
 ·exact .inl ⟨h3, h4, rfl, rfl⟩
 ·exact .inr (.inl ⟨h3, r, h4, h5, rfl, rfl⟩)
section
variable {K : Nat} {t : List S34} {T X0 : Tr} {c0 : Nat} {met : List Bool} {kind : Int} {mir : Bool}
theorem ask_5 {a : Int} (h : KeysOk K t T X0 c0 met) (hm : larchref18_IsMove.f kind mir = some false) : AskR K t a kind mir .nil false 5 :=
 .inr (.inr (.inl ⟨h.check, _, h.root, hm, rfl, rfl, rfl⟩))
theorem ask_1 {a : Int} (h : KeysOk K t T X0 c0 met) (hm : larchref18_IsMove.f kind mir = some true) (ha : a ∉ plT X0) : AskR K t a kind mir .nil false 1 :=
 .inr (.inr (.inr ⟨h.check, hm, h.good.form, c0, X0, _, h.root, h.tree, rfl, .inl ⟨pla_out a ha, rfl, rfl, rfl⟩⟩))
theorem ask_0 {c : Nat} {X : Tr} (h : InK K t T X0 c0 met c X) (hm : larchref18_IsMove.f kind mir = some true) : AskR K t c kind mir X ((c : Int) == (c0 : Int)) 0 :=
 .inr (.inr (.inr ⟨h.base.check, hm, h.base.good.form, c0, X0, _, h.base.root, h.base.tree, rfl, .inr ⟨h.pla, ok_ne h.ok, rfl, rfl⟩⟩))
theorem at_err {e a : Int} {asked : Bool} (h : SpotsErr K t e) : AtE K t a kind mir asked e := ⟨by have := h.1; simpa using this, .inl ⟨_, _, h.2.1⟩⟩
theorem at_5 {a : Int} (h : KeysOk K t T X0 c0 met) (hm : steps_Move_is.f kind mir = some false) : AtE K t a kind mir true 5 :=
 ⟨by decide, .inr ⟨_, _, h.keys, .inl ⟨rfl, hm, rfl⟩⟩⟩
theorem at_1 {a : Int} {asked : Bool} (h : KeysOk K t T X0 c0 met) (hm : asked = true → steps_Move_is.f kind mir = some true) (ha : a ∉ plT X0) : AtE K t a kind mir asked 1 := by
 refine ⟨by decide, .inr ⟨_, _, h.keys, .inr ⟨hm, rfl, ?_⟩⟩⟩
 by_cases h1 : a < 0 ∨ (t.length : Int) ≤ a
 ·exact .inl h1
 ·right
  obtain ⟨c, rfl⟩ : ∃ c : Nat, a = c := ⟨a.toNat, by omega⟩
  have hml := h.ml
  refine ⟨by omega, by omega, by omega, ?_⟩
  have := mt (h.mem c (by omega)).1 ha
  simpa [rdOf] using this
theorem at_0 {c : Nat} {X : Tr} (h : InK K t T X0 c0 met c X) : AtG K t c c0 met X :=
 ⟨h.base.keys, h.lt, h.base.ml, (h.base.mem c h.lt).2 h.inX, h.base.good.len, fun i hi h4 => by have := formT_of h.base.good.form i hi; omega, ⟨_, h.sub⟩⟩
end
theorem can_t {m : Bool} {X : Tr} {kind : Int} {rt : Bool} (h : canT m rt X kind = true) : canT m true X kind = true := by
 cases rt with
 | true => exact h
 | false =>
  unfold canT at h ⊢
  repeat' split
  all_goals simp_all
end
theorem good_plc {t : List S34} {T : Tr} (h : Good t T) : plc T = 0 := mkT_plc h.tree
section
theorem repl_sh {c : Nat} {R R' : Tr} (h1 : TwoT R → TwoT R') (h2 : R = .nil ↔ R' = .nil) (h3 : sizeT R = sizeT R') : ∀ T, (TwoT (replT c R T) → TwoT (replT c R' T)) ∧ (replT c R T = .nil ↔ replT c R' T = .nil) ∧ sizeT (replT c R T) = sizeT (replT c R' T)
 | .nil => ⟨id, Iff.rfl, rfl⟩
 | .node n p l r => by
  obtain ⟨a1, a2, a3⟩ := repl_sh h1 h2 h3 l
  obtain ⟨b1, b2, b3⟩ := repl_sh h1 h2 h3 r
  simp only [replT]
  by_cases hl : plc l = (c : Int) <;> by_cases hr : plc r = (c : Int)
  all_goals
   first | rw [if_pos hl, if_pos hl] | rw [if_neg hl, if_neg hl]
   first | rw [if_pos hr, if_pos hr] | rw [if_neg hr, if_neg hr]
   simp only [TwoT, sizeT]
  ·exact ⟨fun h => ⟨trivial, h1 h.2.1, h1 h.2.2⟩, by simp, by omega⟩
  ·exact ⟨fun h => ⟨h2.symm.trans (h.1.trans b2), h1 h.2.1, b1 h.2.2⟩, by simp, by omega⟩
  ·exact ⟨fun h => ⟨a2.symm.trans (h.1.trans h2), a1 h.2.1, h1 h.2.2⟩, by simp, by omega⟩
  ·exact ⟨fun h => ⟨a2.symm.trans (h.1.trans b2), a1 h.2.1, b1 h.2.2⟩, by simp, by omega⟩
theorem do_e {K : Nat} {t : List S34} {e a kind : Int} {mir : Bool} (h : SpotsErr K t e) : steps_Do.f K t a kind mir = some ([], e) := by
 have he : e ≠ 0 := by simpa using h.1
 unfold steps_Do.f
 rw [h.2.1, Option.bind_some]
 simp only
 rw [if_neg he]
section
variable {K : Nat} {t : List S34} {T X0 : Tr} {c0 : Nat} {met : List Bool} {kind : Int} {mir : Bool}
theorem do_5 {a : Int} (h : KeysOk K t T X0 c0 met) (hm : steps_Move_is.f kind mir = some false) : steps_Do.f K t a kind mir = some ([], 5) := by
 unfold steps_Do.f
 rw [h.keys, Option.bind_some]
 simp only
 rw [if_pos trivial, hm, Option.bind_some, if_neg (by simp)]
theorem do_1 {a : Int} (h : KeysOk K t T X0 c0 met) (hm : steps_Move_is.f kind mir = some true) (ha : a ∉ plT X0) : steps_Do.f K t a kind mir = some ([], 1) := by
 unfold steps_Do.f
 rw [h.keys, Option.bind_some]
 simp only
 rw [if_pos trivial, hm, Option.bind_some, if_pos rfl]
 by_cases h1 : a < 0 ∨ (t.length : Int) ≤ a
 ·rw [if_pos h1]
 ·obtain ⟨c, rfl⟩ : ∃ c : Nat, a = c := ⟨a.toNat, by omega⟩
  have hml := h.ml
  have hb : ¬ rdOf false met (c : Int) = true := mt (h.mem c (by omega)).1 ha
  rw [if_neg h1, if_pos (by omega), if_neg hb]
theorem rdo_in {c : Nat} {X : Tr} (h : InK K t T X0 c0 met c X) (hm : steps_Move_is.f kind mir = some true) (hm' : larchref18_IsMove.f kind mir = some true) (A0 : Option Addr) (d0 : Nat) (w : World) (hr : Kd.C k34 w A0 t.length t) (hc : t.length ≤ d0) :
  Calls Try.prog 25 #[.slice A0 t.length d0, .int .i64 c, .agg #[.int .i64 kind, .bool mir]] w fun ed w' => ∃ v, ed = .returned (.tuple #[v, .int .i64 (doV t T X c kind mir ((c : Int) == (c0 : Int))).2]) ∧ Kd.R k34 34 w' w.heap.size (fun _ => True) v (doV t T X c kind mir ((c : Int) == (c0 : Int))).1 ∧ Below w.heap.size w w' := by
 have hkd := move_kind hm
 have hg := h.base.good
 have hokT : Ok T := ok_mkT hg.form hg.tree
 have hsz : sizeT T = t.length := by rw [size_pl, hg.all]
 have hlen := hg.len
 refine rDo_any K A0 d0 t c kind mir X ((c : Int) == (c0 : Int)) 0 _ T (newT mir ((c : Int) == (c0 : Int)) X kind) _ _ w hr hc (ask_0 h hm') (fun h0 => absurd rfl h0) (fun _ => ⟨h.ok, h.inf, hkd, rfl, fun hcf => ?_, fun hct => ?_⟩)
 ·unfold doV
  rw [hcf, if_neg (by simp)]
  exact ⟨rfl, rfl⟩
 ·have hG := gives_root mir hkd h.ok (can_t hct)
  have e : ∀ R, insT (c : Int) R T = replT c R T := fun R => by
   rw [ins_new, newX, if_neg (by rw [good_plc hg]; exact fun e => h.ne0 (by omega))]
  have h2 : Ok (replT c (setW (doT mir X kind) 1) T) := repl_ok hG.ok hokT
  have h3 : sizeT (replT c (setW (doT mir X kind) 1) T) = t.length := by rw [repl_size h.sub hG.size _ _ _ hg.tree, hsz]
  have hsh : TwoT (replT c (newT mir ((c : Int) == (c0 : Int)) X kind) T) ∧ replT c (newT mir ((c : Int) == (c0 : Int)) X kind) T ≠ .nil ∧ sizeT (replT c (newT mir ((c : Int) == (c0 : Int)) X kind) T) = t.length := by
   unfold newT
   split
   ·exact ⟨two_ok h2, ok_ne h2, h3⟩
   ·obtain ⟨a1, a2, a3⟩ := repl_sh (c := c) (R := setW (doT mir X kind) 1) (R' := doT mir X kind) (fun h => by cases hd : doT mir X kind with | nil => trivial | node _ _ _ _ => rw [hd] at h; exact h) (by cases doT mir X kind <;> simp [setW]) (by cases doT mir X kind <;> rfl) T
    exact ⟨a1 (two_ok h2), fun e => ok_ne h2 (a2.2 e), by rw [← a3, h3]⟩
  refine ⟨rfl, hg.form, hg.tree, by rw [e]; exact hsh.1, by rw [e]; exact hsh.2.1, by rw [e, hsh.2.2]; omega, fun hgr => ?_, fun hgr => ?_⟩
  ·unfold doV
   rw [if_pos hct, if_pos hgr]
   exact ⟨rfl, rfl⟩
  ·unfold doV
   rw [if_pos hct, if_neg (by rw [hgr]; simp), e]
   refine ⟨(lay_ok 0 ?_).symm, rfl⟩
   unfold newT at hgr ⊢
   split
   ·exact h2
   ·rename_i hrt
    rw [if_neg hrt] at hgr
    have hbig : ¬ 1000000 < wt (doT mir X kind) := fun hb => by
     cases hd : doT mir X kind with
     | nil => rw [hd] at hb; simp [wt] at hb
     | node n p l r => rw [hd, wt] at hb; rw [hd, greatT, decide_eq_true hb] at hgr; simp at hgr
    rw [Bool.not_eq_true] at hrt
    rw [hrt] at hct
    exact repl_ok (gives_plain mir hkd h.ok hct hbig).ok hokT
end
theorem out_len {T : Tr} {r1 : List S34} {r2 : Int} (h : outT T = some (r1, r2)) : r1.length ≤ 1000000 := by
 obtain ⟨h1, h2, rfl, _⟩ := outT_some h
 rw [flatT_len _ _ h1]; exact h2
theorem do_len {K : Nat} {t : List S34} {a kind : Int} {mir : Bool} {r1 : List S34} {r2 : Int} (h : steps_Do.f K t a kind mir = some (r1, r2)) : r1.length ≤ 1000000 := by
 have nil : ∀ {e : Int}, (some (([] : List S34), e) = some (r1, r2)) → r1.length ≤ 1000000 := fun h => by
  have := (Prod.mk.inj (Option.some.inj h)).1
  rw [← this]; simp
 unfold steps_Do.f at h
 obtain ⟨bt, _, h⟩ := Option.bind_eq_some_iff.1 h
 split at h
 ·obtain ⟨b, _, h⟩ := Option.bind_eq_some_iff.1 h
  split at h
  ·split at h
   ·exact nil h
   ·split at h
    ·split at h
     ·unfold doGood at h
      split at h
      ·obtain ⟨X, _, h⟩ := Option.bind_eq_some_iff.1 h
       split at h
       ·split at h
        ·obtain ⟨T1, _, h⟩ := Option.bind_eq_some_iff.1 h
         exact out_len h
        ·split at h
         ·exact nil h
         ·obtain ⟨T1, _, h⟩ := Option.bind_eq_some_iff.1 h
          exact out_len h
       ·exact nil h
      ·cases h
     ·exact nil h
    ·cases h
  ·exact nil h
 ·exact nil h
theorem do_both (t : List S34) (a kind : Int) (mir : Bool) : ∃ (L : List S34) (e : Int), L.length ≤ 1000000 ∧ ∀ A0 c0 w, Kd.C k34 w A0 t.length t → t.length ≤ c0 →
  (Calls Try.prog 25 #[.slice A0 t.length c0, .int .i64 a, .agg #[.int .i64 kind, .bool mir]] w fun ed w' => ∃ v, ed = .returned (.tuple #[v, .int .i64 e]) ∧ Kd.R k34 34 w' w.heap.size (fun _ => True) v L ∧ Below w.heap.size w w') ∧
  (Calls Try.prog 30 #[.slice A0 t.length c0, .int .i64 a, .agg #[.int .i64 kind, .bool mir]] w fun ed w' => ∃ v, ed = .returned (.tuple #[v, .int .i64 e]) ∧ Kd.R k34 34 w' w.heap.size (fun _ => True) v L ∧ Below w.heap.size w w') := by
 obtain ⟨K, ⟨e, h⟩ | ⟨T, X0, c0', met, h⟩⟩ := keys_base t
 ·have he : e ≠ 0 := by simpa using h.1
  exact ⟨[], e, by simp, fun A0 c0 w hr hc => ⟨rDo_any K A0 c0 t a kind mir .nil false e false .nil .nil [] e w hr hc (ask_err h) (fun _ => ⟨rfl, rfl⟩) (fun h0 => absurd h0 he), steps_Do.calls K A0 c0 t a kind mir [] e w hr hc (do_e h)⟩⟩
 ·obtain ⟨b, hb1, hb2⟩ := is_alike kind mir
  cases b with
  | false => exact ⟨[], 5, by simp, fun A0 c0 w hr hc => ⟨rDo_any K A0 c0 t a kind mir .nil false 5 false .nil .nil [] 5 w hr hc (ask_5 h hb2) (fun _ => ⟨rfl, rfl⟩) (fun h0 => absurd h0 (by decide)), steps_Do.calls K A0 c0 t a kind mir [] 5 w hr hc (do_5 h hb1)⟩⟩
  | true =>
   by_cases ha : a ∈ plT X0
   ·obtain ⟨c, X, rfl, hi⟩ := in_k h ha
    exact ⟨_, _, do_len (do_val hi hb1), fun A0 c0 w hr hc => ⟨rdo_in hi hb1 hb2 A0 c0 w hr hc, steps_Do.calls K A0 c0 t c kind mir _ _ w hr hc (do_val hi hb1)⟩⟩
   ·exact ⟨[], 1, by simp, fun A0 c0 w hr hc => ⟨rDo_any K A0 c0 t a kind mir .nil false 1 false .nil .nil [] 1 w hr hc (ask_1 h hb2 ha) (fun _ => ⟨rfl, rfl⟩) (fun h0 => absurd h0 (by decide)), steps_Do.calls K A0 c0 t a kind mir [] 1 w hr hc (do_1 h hb1 ha)⟩⟩
end
theorem sTouched_err {k : Nat} {A0 : Option Addr} {c0 : Nat} {t : List S34} {a kind : Int} {mir : Bool} {e : Int} (w : World) (hr0 : Kd.C k34 w A0 t.length t) (hc0 : t.length ≤ c0) (h : AtE k t a kind mir true e) :
  Calls Try.prog 32 #[.slice A0 t.length c0, .int .i64 a, .agg #[.int .i64 kind, .bool mir]] w fun ed w' => ∃ v, ed = .returned (.tuple #[v, .int .i64 e]) ∧ Kd.R (Kd.int .i64) 3 w' w.heap.size (fun _ => True) v ([] : List Int) ∧ Below w.heap.size w w' := by
 have HR0 := Am hr0
 have HC0 := Am hc0
 have H := Am h
 have q : (e != 0) = true := bne_iff_ne.mpr h.1
 clear hr0 hc0 h
 go_enter Try.func32, Try.ntmps32
 go_wp2_with (fail)
 refine (at_e _ (Kd.C_below HR0.out (ba (Below.refl _ _) (.cells #[.int .i64 kind, .bool mir] 62))) HC0.out H.out).mono ?_
 rintro _ w2 ⟨rfl, hb⟩
 have HB := Am ((ba (Below.refl w.heap.size w) _).trans (hb.mono (by simp)))
 clear hb
 go_wp2
 go_ret2
 exact ⟨_, rfl, Kd.R_nil _ _ _ _ _, HB.out⟩
theorem rowsR_len {O : List Int} : ∀ (k : Nat) (out : List Int) (row : List Tr) (res : List Int), rowsR O k out row = some res → out.length ≤ O.length → res.length ≤ O.length
 | 0, _, _, _, h, _ => by simp [rowsR] at h
 | k + 1, out, [], res, h, hl => by
  rw [rowsR] at h
  rw [← Option.some.inj h]; exact hl
 | k + 1, out, T :: row, res, h, hl => by
  rw [rowsR] at h
  split at h
  ·rename_i he
   rw [← Option.some.inj h]; omega
  ·split at h
   ·exact rowsR_len k _ _ _ h (by omega)
   ·cases h
theorem touched_both (t : List S34) (a kind : Int) (mir : Bool) : ∃ (L : List Int) (e : Int), L.length ≤ 10000 ∧ ∀ A0 c0 w, Kd.C k34 w A0 t.length t → t.length ≤ c0 →
  (Calls Try.prog 27 #[.slice A0 t.length c0, .int .i64 a, .agg #[.int .i64 kind, .bool mir]] w fun ed w' => ∃ v, ed = .returned (.tuple #[v, .int .i64 e]) ∧ Kd.R (Kd.int .i64) 3 w' w.heap.size (fun _ => True) v L ∧ Below w.heap.size w w') ∧
  (Calls Try.prog 32 #[.slice A0 t.length c0, .int .i64 a, .agg #[.int .i64 kind, .bool mir]] w fun ed w' => ∃ v, ed = .returned (.tuple #[v, .int .i64 e]) ∧ Kd.R (Kd.int .i64) 3 w' w.heap.size (fun _ => True) v L ∧ Below w.heap.size w w') := by
 obtain ⟨K, ⟨e, h⟩ | ⟨T, X0, c0', met, h⟩⟩ := keys_base t
 ·have he : e ≠ 0 := by simpa using h.1
  exact ⟨[], e, by simp, fun A0 c0 w hr hc => ⟨rTouched_any K A0 c0 t a kind mir .nil false e false [] e w hr hc (ask_err h) (fun _ => ⟨rfl, rfl⟩) (fun h0 => absurd h0 he), sTouched_err w hr hc (at_err h)⟩⟩
 ·obtain ⟨b, hb1, hb2⟩ := is_alike kind mir
  cases b with
  | false => exact ⟨[], 5, by simp, fun A0 c0 w hr hc => ⟨rTouched_any K A0 c0 t a kind mir .nil false 5 false [] 5 w hr hc (ask_5 h hb2) (fun _ => ⟨rfl, rfl⟩) (fun h0 => absurd h0 (by decide)), sTouched_err w hr hc (at_5 h hb1)⟩⟩
  | true =>
   by_cases ha : a ∈ plT X0
   ·obtain ⟨c, X, rfl, hi⟩ := in_k h ha
    have hkd := move_kind hb1
    have hml := h.ml
    have hlt := hi.lt
    have hbel : rdOf false met (c : Int) = true := (h.mem c hi.lt).2 hi.inX
    have hOk := okT_of (okB_good h.good)
    cases hcan : canT mir ((c : Int) == (c0' : Int)) X kind with
    | false =>
     refine ⟨[], 6, by simp, fun A0 c0 w hr hc => ⟨rTouched_any K A0 c0 t c kind mir X _ 0 false [] 6 w hr hc (ask_0 hi hb2) (fun h0 => absurd rfl h0) (fun _ => ⟨hi.ok, hkd, hcan, fun _ => ⟨rfl, rfl⟩, fun h0 => by cases h0⟩), ?_⟩⟩
     refine (touched_nocan K A0 c0 t c kind mir (c0' : Int) met w hr hc h.keys hb1 hkd (by omega) (by omega) hbel hOk t.length X hi.sub _ rfl hcan).mono ?_
     rintro _ w' ⟨rfl, hb⟩
     exact ⟨_, rfl, Kd.R_nil _ _ _ _ _, hb⟩
    | true =>
     obtain ⟨hn, res, hr1, hr2⟩ := touched_pure hkd (ok_ne hi.ok) (two_ok hi.ok) hi.nod hcan
     refine ⟨res, 0, ?_, fun A0 c0 w hr hc => ⟨rTouched_any K A0 c0 t c kind mir X _ 0 true res 0 w hr hc (ask_0 hi hb2) (fun h0 => absurd rfl h0) (fun _ => ⟨hi.ok, hkd, hcan, fun h0 => (by cases h0), fun _ => ⟨rfl, hr1, outs_ne (rt := ((c : Int) == (c0' : Int))) hkd (side_ne mir (ok_ne hi.ok)) ((side_can mir _ hi.ok kind).trans hcan)⟩⟩), touched_ok K A0 c0 t c kind mir (c0' : Int) met w hr hc h.keys hb1 hkd (by omega) (by omega) hbel hOk t.length X hi.sub _ rfl hcan (two_ok hi.ok) hn res hr2⟩⟩
     have := rowsR_len _ _ _ _ hr1 (Nat.zero_le _)
     rw [List.length_map] at this
     have h5 := outs_len mir X kind
     omega
   ·exact ⟨[], 1, by simp, fun A0 c0 w hr hc => ⟨rTouched_any K A0 c0 t a kind mir .nil false 1 false [] 1 w hr hc (ask_1 h hb2 ha) (fun _ => ⟨rfl, rfl⟩) (fun h0 => absurd h0 (by decide)), sTouched_err w hr hc (at_1 h (fun _ => hb1) ha)⟩⟩
section
attribute [local go_sem] max2_int min2_int max_two min_two max_three min_three max_four min_four
end
section
attribute [local go_sem] max2_int min2_int max_two min_two max_three min_three max_four min_four
end
end Go.Proofs.Ytgleaefhflamnaa.T
