/- A part of the proof: see YtaabbaemfnecgaaGreatLawSeqNexts. -/
import Derived.Test.YtaabbaemfnecgaaGreatC6
set_option linter.unusedVariables false
set_option linter.unusedSimpArgs false
set_option maxHeartbeats 32000000
set_option maxRecDepth 100000
namespace Go.Proofs.YtaabbaemfnecgaaGreat.T
open Go.RowKit Go.Proofs.YtaabbaemfnecgaaGreatW.PrintWords Go.Proofs.YtaabbaemfnecgaaGreatW.PrintLast Go.Proofs.YtaabbaemfnecgaaGreatW.PrintMore
attribute [local go_sem] Tryz.underlying148
section
open Go.Proofs.YtaabbaemfnecgaaGreat.V
theorem run_eq94 (g i j : Nat) (w : World) : (binOp .eql 94 (.pointer (some ⟨g, i * 6, none⟩)) (.pointer (some ⟨g, j * 6, none⟩))).run Tryz.prog w = .ok (.bool (decide (i = j))) w := by
 obtain ⟨i0, hi, hs⟩ := Option.map_eq_some_iff.1 size148
 have hsa : (sameAddr ⟨g, i * 6, none⟩ ⟨g, j * 6, none⟩).run Tryz.prog w = .ok (decide (i = j)) w := by
  have : ((⟨g, i * 6, none⟩ : Addr) == ⟨g, j * 6, none⟩) = decide (i = j) := by
   by_cases e : i = j
   ·subst e; simp
   ·rw [decide_eq_false e, beq_eq_false_iff_ne]
    intro h
    injection h with _ h _
    omega
  simp [sameAddr, this]
 have h : ∀ d : Nat, (Op.equalIn (d + 1) 94 (.pointer (some ⟨g, i * 6, none⟩)) (.pointer (some ⟨g, j * 6, none⟩))).run Tryz.prog w = .ok (decide (i = j)) w := fun d => by
  simp [Op.equalIn, run_underlying Tryz.underlying94, sizeOf, typeInfo, hi, show i0.size ≠ 0 by rw [hs]; decide, hsa]
 simp only [binOp]
 simp [Op.equal, Op.maxDepth, h 9999]
def stN (g : Nat) (st : List Nat) : List (Option Addr) := (st.map (pN g)).reverse
theorem stN_len (g : Nat) (st : List Nat) : (stN g st).length = st.length := by simp [stN]
theorem stN_cons (g : Nat) (x : Nat) (st : List Nat) : stN g (x :: st) = stN g st ++ [pN g x] := by simp [stN]
theorem stN_take (g : Nat) (x : Nat) (st : List Nat) : (stN g (x :: st)).take st.length = stN g st := by rw [stN_cons, List.take_left' (stN_len g st)]
theorem stN_at (g : Nat) (x : Nat) (st : List Nat) : (stN g (x :: st)).getD st.length none = pN g x := by
 rw [stN_cons, List.getD, List.getElem?_append_right (by rw [stN_len]; exact Nat.le_refl _), stN_len, Nat.sub_self]; rfl
def whereI (t : List S69) (x : Nat) : Nat → List Nat → Nat → Option Int
 | 0, _, _ => none
 | _ + 1, [], _ => some (-1)
 | k + 1, i :: st, n => if i < t.length ∧ st.length ≤ 1000000 ∧ n ≤ 1000000 ∧ ((t.getD i z69).f4 = -1 ∨ 0 ≤ (t.getD i z69).f4 ∧ 0 ≤ (t.getD i z69).f5) then
   (if i = x then some (n : Int) else if (t.getD i z69).f4 = -1 then whereI t x k st (n + 1) else whereI t x k ((t.getD i z69).f4.toNat :: (t.getD i z69).f5.toNat :: st) (n + 1)) else none
theorem where_calls (k : Nat) (t : List S69) (x : Nat) (r : Int) (g B : Nat) (w : World) (hb : Bt w B g t) (h : whereI t x k [0] 0 = some r) :
  Calls Tryz.prog 63 #[.pointer (some ⟨g, 0, none⟩), .pointer (some ⟨g, x * 6, none⟩)] w (RB w (.int .i64 r)) := by
 have HBT := Am hb
 have HH := Am h
 have HB := Br w
 clear hb h
 go_enter Tryz.func63, Tryz.ntmps63
 go_wp2
 have HS : Aside0 (Kd.R kPt 94 (w.alloc (.cells #[.pointer (some ⟨g, 0, none⟩)] 94)) w.heap.size (fun _ => True) (.slice (some ⟨w.heap.size, 0, none⟩) 1 1) (stN g [0])) := ⟨by have := R_lit94 w (some ⟨g, 0, none⟩); simpa [pN, stN] using this⟩
 have HB1 := Am (ba HB.out (.cells #[.pointer (some ⟨g, 0, none⟩)] 94))
 generalize w.alloc (.cells #[.pointer (some ⟨g, 0, none⟩)] 94) = w1 at HS HB1 ⊢
 go_loopg [5, 6] k (fun kq v5 v6 w' => ∃ (m : Nat) (st : List Nat), v5 = .int .i64 m ∧ Aside0 (Kd.R kPt 94 w' w.heap.size (fun _ => True) v6 (stN g st)) ∧ Aside0 (Below w.heap.size w w') ∧ Aside0 (whereI t x kq st m = some r))
 case atStart => exact ⟨0, [0], rfl, HS, HB1, HH⟩
 case round =>
  clear HS HB1 HH HB
  obtain ⟨m, st, rfl, HS, HB, HH⟩ := hrel
  obtain ⟨kq1, rfl⟩ : ∃ x, gk = x + 1 := by
   cases gk with
   | zero => exact absurd HH.out (by simp [whereI])
   | succ x => exact ⟨x, rfl⟩
  have hh := HH.out
  clear HH
  cases st with
  | nil =>
   rw [whereI] at hh
   obtain rfl := Option.some.inj hh
   obtain ⟨A4, c4, rfl⟩ := Kd.R_slice HS.out
   rw [show (stN g []).length = 0 from rfl]
   clear hh
   go_wp2
   go_ret
   exact ⟨rfl, HB.out⟩
  | cons j st =>
   rw [whereI] at hh
   by_cases q : j < t.length ∧ st.length ≤ 1000000 ∧ m ≤ 1000000 ∧ ((t.getD j z69).f4 = -1 ∨ 0 ≤ (t.getD j z69).f4 ∧ 0 ≤ (t.getD j z69).f5)
   rotate_left
   ·rw [if_neg q] at hh; cases hh
   rw [if_pos q] at hh
   have hlen : (stN g (j :: st)).length = st.length + 1 := by rw [stN_len]; rfl
   obtain ⟨g4, c4, rfl, -, -, -⟩ := Kd.R_form HS.out (by rw [hlen]; omega)
   have hx := el94 HS.out (i := st.length) (by rw [hlen]; omega)
   rw [stN_at] at hx
   rw [show pN g j = some ⟨g, j * 6, none⟩ from rfl] at hx
   obtain ⟨n, hn⟩ : ∃ n, t.getD j z69 = n := ⟨_, rfl⟩
   have hj : j < t.length := q.1
   obtain ⟨z0, z1, z2, z3, z4, z5⟩ := (HBT.out.below HB.out).at hj
   have hw : wrap64 (((stN g (j :: st)).length : Int) - 1) = ((st.length : Nat) : Int) := by rw [hlen, Go.IntWalk.wrap64_in _ (by omega)]; omega
   obtain ⟨i94, hi94, _, hsz, _⟩ := info_parts info94
   have hcut := cut_to (P := Tryz.prog) 151 94 .i64 Tryz.underlying151 hi94 (some ⟨g4, 0, none⟩) (stN g (j :: st)).length c4 (st.length : Int) (by omega) (by omega) (Kd.R_reads' HS.out).2.1
   have hS2 := Kd.R_take (m := st.length) HS.out (by omega)
   rw [stN_take] at hS2
   have HS2 := Am hS2
   have HN := Am hn
   have HJ := Am hj
   have HL := Am (And.intro q.2.1 q.2.2.1)
   have HQ4 := Am q.2.2.2
   rw [hn] at hh z0 z1 z2 z3 z4 z5
   have p1 : decide (((stN g (j :: st)).length : Int) > 0) = true := decide_eq_true (by omega)
   have p2 : decide (0 < ((stN g (j :: st)).length : Int)) = true := decide_eq_true (by omega)
   have p3 : decide (0 < (stN g (j :: st)).length) = true := decide_eq_true (by omega)
   have p4 : (0 ≤ (st.length : Int)) = True := eq_true (by omega)
   have p5 : ((st.length : Int) < ((stN g (j :: st)).length : Int)) = True := eq_true (by omega)
   have p6 : ((st.length : Int) ≤ ((stN g (j :: st)).length : Int)) = True := eq_true (by omega)
   have heq := run_eq94 g j x
   have hm1 : wrap64 ((m : Int) + 1) = ((m + 1 : Nat) : Int) := by rw [Go.IntWalk.wrap64_in _ (by omega)]; rfl
   clear hn hj q hS2 hlen HS
   generalize (stN g (j :: st)).length = L at hw hcut p1 p2 p3 p5 p6 ⊢
   by_cases qx : j = x
   ·rw [if_pos qx] at hh
    obtain rfl := Option.some.inj hh
    rw [decide_eq_true qx] at heq
    clear qx hh
    go_wp2
    go_ret
    exact ⟨rfl, HB.out⟩
   ·rw [if_neg qx] at hh
    rw [decide_eq_false qx] at heq
    clear qx
    by_cases qf : n.f4 = -1
    ·rw [if_pos qf] at hh
     rw [show (nodB g n).f4 = none from if_pos qf] at z4
     clear qf z5
     go_wp2
     go_roundg kq1
     case measure => omega
     case rel => exact ⟨m + 1, st, by first | rfl | (rw [hm1]), HS2, HB, ⟨hh⟩⟩
    ·rw [if_neg qf] at hh
     obtain ⟨a, b, ea, eb⟩ : ∃ a b : Nat, n.f4 = a ∧ n.f5 = b := ⟨n.f4.toNat, n.f5.toNat, by have := HQ4.out; rw [HN.out] at this; omega, by have := HQ4.out; rw [HN.out] at this; omega⟩
     have HP4 : Aside0 ((nodB g n).f4 = some ⟨g, a * 6, none⟩) := ⟨(if_neg qf).trans (by rw [ea]; rfl)⟩
     have HP5 : Aside0 ((nodB g n).f5 = some ⟨g, b * 6, none⟩) := ⟨(if_neg qf).trans (by rw [eb]; rfl)⟩
     rw [ea, eb, Int.toNat_natCast, Int.toNat_natCast] at hh
     rw [HP4.out] at z4
     rw [HP5.out] at z5
     clear qf ea eb
     have HH := Am hh
     clear hh
     go_wp2
     clear z0 z1 z2 z3 z4 z5 hx hcut hw p1 p2 p3 p4 p5 p6 heq
     refine sT 12 [10] (S := fun W' => Bt W' B g t) ((HBT.out.below HB.out).below ((Below.refl _ _).drew)) fun hHeld => ?_
     refine gen_any (fun W => Bt W B g t ∧ Kd.R kPt 94 W w.heap.size (fun _ => True) (.slice (some ⟨g4, 0, none⟩) st.length c4) (stN g st) ∧ Below w.heap.size w W) ⟨hHeld, Kd.R_below HS2.out ((Below.refl _ _).drew), bel_t HB.out ((Below.refl _ _).drew)⟩ (fun w7 hh => ?_)
     clear hHeld HS2 HB
     have hHeld := hh.1
     have HS := Am hh.2.1
     have HB := Am hh.2.2
     clear hh
     refine pu 0 35 ?_
     refine pu 1 36 ?_
     refine pu 2 37 ?_
     refine pu 3 38 ?_
     refine ta 4 39 hHeld (hy := by intro w' hs; obtain ⟨z0, z1, z2, z3, z4, z5⟩ := hs.at HJ.out; rw [HN.out] at z0 z1 z2 z3 z4 z5; rw [HP4.out] at z4; rw [HP5.out] at z5; exact gz) ?_
     refine pu 5 40 ?_
     refine pu 6 41 ?_
     refine pu 7 42 ?_
     refine ta 8 43 hHeld (hy := by intro w' hs; obtain ⟨z0, z1, z2, z3, z4, z5⟩ := hs.at HJ.out; rw [HN.out] at z0 z1 z2 z3 z4 z5; rw [HP4.out] at z4; rw [HP5.out] at z5; exact gz) ?_
     refine on 9 44 fun K hK => ?_
     refine Kd.R_lit_step kPt _ 94 ?hg (N := 44) ?hd (xs := ([some ⟨g, b * 6, none⟩, some ⟨g, a * 6, none⟩] : List (Option Addr))) (inner := [.pointer (some ⟨g, b * 6, none⟩), .pointer (some ⟨g, a * 6, none⟩)]) (ok := fun _ => True) (okp := fun _ => True) ?hr ?hp (fun _ hk => hk) trivial (Below.refl _ _) (Nat.le_refl _) (by simp) ?_
     case hd => rfl
     case hg => rfl
     case hr => first | (go_simp; done) | (go_simp; rfl)
     case hp => exact (Reps.one (show kPt.M _ _ _ (some ⟨g, b * 6, none⟩) [.pointer (some ⟨g, b * 6, none⟩)] from rfl) (Reps.one (show kPt.M _ _ _ (some ⟨g, a * 6, none⟩) [.pointer (some ⟨g, a * 6, none⟩)] from rfl) (Reps.none _ _)))
     intro v8 w8 ho hb hg_ hnew_
     clear hg_ hnew_
     obtain ⟨A8, c8, rfl⟩ := Kd.R_slice ho
     have HC8 := Am (Kd.R_reads' ho).2.2
     have HS8 := Am (Kd.R_below HS.out hb)
     have HB8 := Am (bel_t HB.out hb)
     refine hK.out _ _ (hHeld.below hb) (fun hHeld => ?_)
     clear hK K ho hb HS HB
     refine nm 44 ?_
     refine last_ (i := 10) (N := some 45) #[true, true, true, true, true, true, true, true, true, true, true, false] rfl rfl (by kernel_rfl) (by decide) (fun K hK => ?_)
     refine Kd.R_append_rows_step kPt (w0 := w) w.heap.size (by rfl) (.tmp 35) (.tmp 44) 151 94 (.pointer none) 8 rfl Tryz.underlying151 info94 rfl (by decide) (by omega) (.slice (some ⟨g4, 0, none⟩) st.length c4) (stN g st) [some ⟨g, b * 6, none⟩, some ⟨g, a * 6, none⟩] A8 2 c8 (fun _ => True) (fun _ => False) rfl rfl HS8.out HC8.out (fun _ _ h => h) (fun _ h => h.elim) (fun _ _ => trivial) HB8.out HB8.out.size (by have := HL.out; rw [stN_len]; omega) ?_
     intro v9 w9 ho9 hb9 hg9 hat9
     have HS9 : Aside0 (Kd.R kPt 94 w9 w.heap.size (fun _ => True) v9 (stN g (a :: b :: st))) := ⟨by rw [stN_cons, stN_cons, List.append_assoc]; exact ho9⟩
     have HB9 := Am hb9
     refine hK.out _ _ ?_
     clear hK K ho9 hb9 hg9 hat9 HS8 HB8 HC8 hHeld
     refine nm 45 ?_
     refine pu 11 6 ?_
     refine done_ (by kernel_rfl) ?_
     go_wp2
     go_roundg kq1
     case measure => omega
     case rel => exact ⟨m + 1, _, by first | rfl | (rw [hm1]), HS9, HB9, HH⟩
end
end Go.Proofs.YtaabbaemfnecgaaGreat.T
