/- A part of the proof: see YtaabbaemfnecgaaGreatLawSeqNexts. -/
import Derived.Test.YtaabbaemfnecgaaGreatC5
set_option linter.unusedVariables false
set_option linter.unusedSimpArgs false
set_option maxHeartbeats 32000000
set_option maxRecDepth 100000
namespace Go.Proofs.YtaabbaemfnecgaaGreat.T
open Go.RowKit Go.Proofs.YtaabbaemfnecgaaGreatW.PrintWords Go.Proofs.YtaabbaemfnecgaaGreatW.PrintLast Go.Proofs.YtaabbaemfnecgaaGreatW.PrintMore
attribute [local go_sem] Tryz.underlying69 Tryz.underlying148 Tryz.underlying168 Tryz.underlying175
section
attribute [local go_sem] max2_int min2_int max_two min_two max_three min_three max_four min_four
def seq_look_sibling.f (l0_0 : List (S69)) (l0_1 : List Int) (a0_2 : Bool) (a1 : Int) : Option (Int) := if 0 ≤ a1 then (if a1 < (l0_1.length : Int) then (if 0 ≤ (rd l0_1 a1) then (if (rd l0_1 a1) < (l0_0.length : Int) then (some (wrap64 ((wrap64 (((rd_T69 l0_0 (rd l0_1 a1)).f4) + ((rd_T69 l0_0 (rd l0_1 a1)).f5))) - a1))) else (none)) else (none)) else (none)) else (none)
def seq_look_sibling.T1 : Bool × List (List Nat × List Nat) := (true, [([], []), ([0], [0]), ([], []), ([2], [2]), ([], []), ([3, 4], [3, 4]), ([5], [5]), ([1, 6], [1, 6]), ([7], [7]), ([], []), ([9, 8, 0, 1, 2, 3, 4, 5, 6, 7, 8, 9], [8, 9])])
def seq_look_sibling.B1 : List Nat := [0, 1, 0, 4, 0, 28, 60, 127, 255, 0, 1023]
theorem seq_look_sibling.tab1 : rtab .any (opsOf Tryz.f115 1) = seq_look_sibling.T1 := by kernel_rfl
theorem seq_look_sibling.bits1 : waitsOk seq_look_sibling.T1.2 seq_look_sibling.B1 = true := by kernel_rfl
theorem sb3 {W : World} {g T : Nat} {a b c : Value} (h : W.heap[g]? = some (.cells #[a, b, c] T (0, 0))) : W.cell? ⟨g, 0, none⟩ = some a ∧ W.cell? ⟨g, 1, none⟩ = some b ∧ W.cell? ⟨g, 2, none⟩ = some c := ⟨blk_cell h 0, blk_cell h 1, blk_cell h 2⟩
open Go.Proofs.YtaabbaemfnecgaaGreat.V in
theorem seq_look_sibling.calls (A0_0 : Option Addr) (c0_0 : Nat) (l0_0 : List (S69)) (A0_1 : Option Addr) (c0_1 : Nat) (l0_1 : List Int) (a0_2 : Bool) (a1 : Int) (r : Int) (w : World) (hr0_0 : Kd.C k69 w A0_0 l0_0.length l0_0) (hc0_0 : l0_0.length ≤ c0_0) (hr0_1 : Kd.C (Kd.int .i64) w A0_1 l0_1.length l0_1) (hc0_1 : l0_1.length ≤ c0_1) (h : seq_look_sibling.f l0_0 l0_1 a0_2 a1 = some r) :
  Calls Tryz.prog 115 #[.agg #[.slice A0_0 l0_0.length c0_0, .slice A0_1 l0_1.length c0_1, .bool a0_2], .int .i64 a1] w (RB w (.int .i64 r)) := by
 unfold seq_look_sibling.f at h
 have q : 0 ≤ a1 ∧ a1 < (l0_1.length : Int) ∧ 0 ≤ rd l0_1 a1 ∧ rd l0_1 a1 < (l0_0.length : Int) := by
  refine ⟨?_, ?_, ?_, ?_⟩ <;> (repeat' split at h) <;> first | assumption | (cases h; done)
 obtain ⟨q0, q1, q2, q3⟩ := q
 rw [if_pos q0, if_pos q1, if_pos q2, if_pos q3] at h
 obtain rfl := Option.some.inj h
 obtain ⟨ad1, e1, hx⟩ := Kd.at_int hr0_1 a1 q0 q1
 obtain ⟨ad2, e2, z0, z1, z2, z3, z4, z5⟩ := at_T69 hr0_0 (rd l0_1 a1) q2 q3
 have HZ := Am (fun (W : World) (hb : Below w.heap.size w W) => And.intro ((hb.cell (blt _ _ hx)).trans hx) (And.intro ((hb.cell (blt _ _ z0)).trans z0) (And.intro ((hb.cell (blt _ _ z1)).trans z1) (And.intro ((hb.cell (blt _ _ z2)).trans z2) (And.intro ((hb.cell (blt _ _ z3)).trans z3) (And.intro ((hb.cell (blt _ _ z4)).trans z4) ((hb.cell (blt _ _ z5)).trans z5)))))))
 cases e1
 cases e2
 have HB := Br w
 replace q0 := eq_true q0
 replace q1 := eq_true q1
 replace q2 := eq_true q2
 replace q3 := eq_true q3
 clear h hr0_0 hr0_1 hx z0 z1 z2 z3 z4 z5
 go_enter Tryz.func115, Tryz.ntmps115
 go_wp2_with (first | ((with_reducible refine Gd 2 rfl ?_); refine bF 2 HB.out (cs := #[.slice (some ad2) l0_0.length c0_0, .slice (some ad1) l0_1.length c0_1, .bool a0_2]) (t := 175) ?_; clear HB; intro gb w_gb GX_gb GE_gb HK_gb HB BB_gb))
 refine sT 11 [] (S := fun W => Below w_gb.heap.size w_gb W) ((Below.refl _ _).drew) fun hHeld => ?_
 refine gen_any (fun W => Below w_gb.heap.size w_gb W) hHeld (fun w3 hHeld => ?_)
 refine pu 0 6 ?_
 refine ta 1 7 hHeld (hy := by intro w' hs; obtain ⟨x0, x1, -⟩ := sb3 (blkB hs HK_gb.out); exact gz) ?_
 refine pu 2 8 ?_
 refine ta 3 9 hHeld (hy := by intro w' hs; obtain ⟨x0, x1, -⟩ := sb3 (blkB hs HK_gb.out); exact gz) ?_
 refine pu 4 10 ?_
 refine pu 5 11 ?_
 refine ta 6 12 hHeld (hy := by intro w' hs; obtain ⟨v, u0, u1, u2, u3, u4, u5⟩ := HZ.out _ (bel_t HB.out hs); exact gz) ?_
 refine pu 7 13 ?_
 refine ta 8 14 hHeld (hy := by intro w' hs; obtain ⟨v, u0, u1, u2, u3, u4, u5⟩ := HZ.out _ (bel_t HB.out hs); exact gz) ?_
 refine on 9 5 fun K hK => ?_
 refine box_step (by rfl) (N := 5) rfl (cs := #[.int .i64 0, .int .i64 0, .int .i64 0, .int .i64 0, .int .i64 0, .int .i64 0]) (t := 69) ?hr ?_
 case hr => first | (go_simp; done) | (go_simp; rfl)
 intro ga hg w4 hk hb
 have GE := Am (show w.heap.size ≤ ga from hg ▸ (bel_t HB.out hHeld).size)
 have GX := Am (show w_gb.heap.size ≤ ga from hg ▸ hHeld.size)
 refine hK.out _ _ (bel_t hHeld hb) (fun hHeld => ?_)
 clear hK K hb hg
 refine nm 5 ?_
 obtain ⟨y0, y1, y2, y3, y4, y5, f0, f1, f2, f3, f4, f5⟩ := box69 hk
 refine on0 10 (fun K hK => ?_)
 refine sk ?_
 refine hK.out _ _ (by with_reducible repeat (first | exact hHeld | refine below_set ?_ GX.out)) (fun hHeld => ?_)
 clear hK K y0 y1 y2 y3 y4 y5 f0 f1 f2 f3 f4 f5
 refine done_ (by kernel_rfl) ?_
 refine gen_q (fun W => W.heap[ga]? = some (.cells #[.int .i64 ((rd_T69 l0_0 (rd l0_1 a1)).f0), .int .i64 ((rd_T69 l0_0 (rd l0_1 a1)).f1), .int .i64 ((rd_T69 l0_0 (rd l0_1 a1)).f2), .int .i64 ((rd_T69 l0_0 (rd l0_1 a1)).f3), .int .i64 ((rd_T69 l0_0 (rd l0_1 a1)).f4), .int .i64 ((rd_T69 l0_0 (rd l0_1 a1)).f5)] 69 (0, 0)) ∧ Below w_gb.heap.size w_gb W) ⟨(blk_set (blk_set (blk_set (blk_set (blk_set (blk_set hk 0 (.int .i64 ((rd_T69 l0_0 (rd l0_1 a1)).f0))) 1 (.int .i64 ((rd_T69 l0_0 (rd l0_1 a1)).f1))) 2 (.int .i64 ((rd_T69 l0_0 (rd l0_1 a1)).f2))) 3 (.int .i64 ((rd_T69 l0_0 (rd l0_1 a1)).f3))) 4 (.int .i64 ((rd_T69 l0_0 (rd l0_1 a1)).f4))) 5 (.int .i64 ((rd_T69 l0_0 (rd l0_1 a1)).f5))), hHeld⟩ (fun w5 hq => ?_)
 obtain ⟨y0, y1, y2, y3, y4, y5, -⟩ := box69 hq.1
 have HB2 := Am (bel_t HB.out hq.2)
 clear hq hk hHeld
 go_wp2
 go_ret
 exact ⟨rfl, HB2.out⟩
def seq_look_w.f (l0_0 : List (S69)) (l0_1 : List Int) (a0_2 : Bool) (a1 : Int) : Option (Int) := if 0 ≤ a1 then (if a1 < (l0_0.length : Int) then (some ((rd_T69 l0_0 a1).f2)) else (none)) else (none)
theorem seq_look_w.calls (A0_0 : Option Addr) (c0_0 : Nat) (l0_0 : List (S69)) (A0_1 : Option Addr) (c0_1 : Nat) (l0_1 : List Int) (a0_2 : Bool) (a1 : Int) (r : Int) (w : World) (hr0_0 : Kd.C k69 w A0_0 l0_0.length l0_0) (hc0_0 : l0_0.length ≤ c0_0) (hr0_1 : Kd.C (Kd.int .i64) w A0_1 l0_1.length l0_1) (hc0_1 : l0_1.length ≤ c0_1) (h : seq_look_w.f l0_0 l0_1 a0_2 a1 = some r) :
  Calls Tryz.prog 116 #[.agg #[.slice A0_0 l0_0.length c0_0, .slice A0_1 l0_1.length c0_1, .bool a0_2], .int .i64 a1] w (RB w (.int .i64 r)) := by
 have HR0_0 := Am hr0_0
 have HC0_0 := Am hc0_0
 clear hr0_0 hc0_0
 have HR0_1 := Am hr0_1
 have HC0_1 := Am hc0_1
 clear hr0_1 hc0_1
 have HB := Br w
 have H := h
 unfold seq_look_w.f at H
 clear h
 obtain ⟨c3b0, H⟩ := ge H
 obtain ⟨c4b0, H⟩ := ge H
 obtain rfl := Option.some.inj H
 go_enter Tryz.func116, Tryz.ntmps116
 go_wp2_with (first | ((with_reducible refine Gd 2 rfl ?_); refine bE 2 (cs := #[.slice A0_0 l0_0.length c0_0, .slice A0_1 l0_1.length c0_1, .bool a0_2]) (t := 175) ?_; intro gb328 hg w5 hbox hb; obtain ⟨n0_, BK328, GW328, GE328⟩ := bx hg hbox hb; clear HB; have HB := n0_; clear n0_ hb hbox hg; have z6_0 : w5.cell? ⟨gb328, 0, none⟩ = some (.slice A0_0 l0_0.length c0_0) := (blk_cell BK328.out 0).trans rfl; have z6_1 : w5.cell? ⟨gb328, 1, none⟩ = some (.slice A0_1 l0_1.length c0_1) := (blk_cell BK328.out 1).trans rfl; have z6_2 : w5.cell? ⟨gb328, 2, none⟩ = some (.bool a0_2) := (blk_cell BK328.out 2).trans rfl; have f6_0 := blk_frozen BK328.out 0; have f6_1 := blk_frozen BK328.out 1; have f6_2 := blk_frozen BK328.out 2; have p329 : 0 ≤ (a1 : Int) := da; have q329 : a1 < (l0_0.length : Int) := da; obtain ⟨ad329, e329, hx329_0, hx329_1, hx329_2, hx329_3, hx329_4, hx329_5⟩ := at_T69 HR0_0.out a1 p329 q329; cases e329; replace hx329_0 := hc hx329_0; replace hx329_1 := hc hx329_1; replace hx329_2 := hc hx329_2; replace hx329_3 := hc hx329_3; replace hx329_4 := hc hx329_4; replace hx329_5 := hc hx329_5; replace p329 := eq_true p329; replace q329 := eq_true q329))
 go_ret
 exact ⟨er, bs⟩
end
end Go.Proofs.YtaabbaemfnecgaaGreat.T
namespace Go.Proofs.YtaabbaemfnecgaaGreat.V
open Go.Proofs.YtaabbaemfnecgaaGreat.T
open Go.RowKit Go.Proofs.YtaabbaemfnecgaaGreatW.PrintWords Go.Proofs.YtaabbaemfnecgaaGreatW.PrintLast Go.Proofs.YtaabbaemfnecgaaGreatW.PrintMore
set_option linter.unusedVariables false
set_option linter.unusedSimpArgs false
def kPt : Kd (Option Addr) := Kd.scalar (fun p => .pointer p) (fun _ => rfl)
structure S148 where
 f0 : Int
 f1 : Int
 f2 : Int
 f3 : Int
 f4 : Option Addr
 f5 : Option Addr
def z148 : S148 := ⟨0, 0, 0, 0, none, none⟩
def k148 : Kd S148 := Kd.iso (Kd.pair (Kd.int .i64) (Kd.pair (Kd.int .i64) (Kd.pair (Kd.int .i64) (Kd.pair (Kd.int .i64) (Kd.pair kPt kPt))))) (fun x : S148 => (x.f0, x.f1, x.f2, x.f3, x.f4, x.f5))
theorem k148_openM {w : World} {base : Nat} {ok : Nat → Prop} {x : S148} {cs : List Value} (h : k148.M w base ok x cs) : cs = [.int .i64 x.f0, .int .i64 x.f1, .int .i64 x.f2, .int .i64 x.f3, .pointer x.f4, .pointer x.f5] := by
 obtain ⟨_, _, rfl, rfl, ⟨_, _, rfl, rfl, ⟨_, _, rfl, rfl, ⟨_, _, rfl, rfl, ⟨_, _, rfl, rfl, rfl⟩⟩⟩⟩⟩ := h
 exact rfl
theorem k148_mkM (w : World) (base : Nat) (ok : Nat → Prop) (x : S148) : k148.M w base ok x [.int .i64 x.f0, .int .i64 x.f1, .int .i64 x.f2, .int .i64 x.f3, .pointer x.f4, .pointer x.f5] :=
 ⟨[.int .i64 x.f0], [.int .i64 x.f1, .int .i64 x.f2, .int .i64 x.f3, .pointer x.f4, .pointer x.f5], rfl, rfl, ⟨[.int .i64 x.f1], [.int .i64 x.f2, .int .i64 x.f3, .pointer x.f4, .pointer x.f5], rfl, rfl, ⟨[.int .i64 x.f2], [.int .i64 x.f3, .pointer x.f4, .pointer x.f5], rfl, rfl, ⟨[.int .i64 x.f3], [.pointer x.f4, .pointer x.f5], rfl, rfl, ⟨[.pointer x.f4], [.pointer x.f5], rfl, rfl, rfl⟩⟩⟩⟩⟩
theorem info148 : (Tryz.prog.info? 148).map (fun i => (i.zero, i.size, i.bytes)) = some (some (.agg #[.int .i64 0, .int .i64 0, .int .i64 0, .int .i64 0, .pointer none, .pointer none]), 6, 48) := by kernel_rfl
theorem size148 : (Tryz.prog.info? 148).map (fun i => i.size) = some 6 := by kernel_rfl
def pB (g : Nat) (i : Int) : Option Addr := some ⟨g, i.toNat * 6, none⟩
def nodB (g : Nat) (n : S69) : S148 := ⟨n.f0, n.f1, n.f2, n.f3, if n.f4 = -1 then none else pB g n.f4, if n.f4 = -1 then none else pB g n.f5⟩
def rowsB (t : List S69) (g i : Nat) : List S148 := (t.take i).map (nodB g) ++ List.replicate (t.length - i) z148
theorem rowsB_len (t : List S69) (g i : Nat) (h : i ≤ t.length) : (rowsB t g i).length = t.length := by simp [rowsB]; omega
theorem rowsB_0 (t : List S69) (g : Nat) : rowsB t g 0 = List.replicate t.length z148 := by simp [rowsB]
theorem rowsB_succ (t : List S69) (g i : Nat) (h : i < t.length) : (rowsB t g i).set i (nodB g (t.getD i z69)) = rowsB t g (i + 1) := by
 apply List.ext_getElem?
 intro j
 rw [List.getElem?_set]
 have hl := rowsB_len t g i (by omega)
 by_cases e : i = j
 ·subst e
  rw [if_pos rfl, hl, if_pos h]
  simp only [rowsB]
  rw [List.getElem?_append_left (by simp; omega), List.getElem?_map, List.getElem?_take_of_lt (by omega), List.getElem?_eq_getElem h, List.getD, List.getElem?_eq_getElem h]
  rfl
 ·rw [if_neg e]
  simp only [rowsB]
  by_cases hj : j < i
  ·rw [List.getElem?_append_left (by simp; omega), List.getElem?_append_left (by simp; omega), List.getElem?_map, List.getElem?_map, List.getElem?_take_of_lt hj, List.getElem?_take_of_lt (by omega)]
  ·rw [List.getElem?_append_right (by simp; omega), List.getElem?_append_right (by simp; omega)]
   simp only [List.length_map, List.length_take, List.getElem?_replicate]
   by_cases hj2 : j < t.length
   ·rw [if_pos (by omega), if_pos (by omega)]
   ·rw [if_neg (by omega), if_neg (by omega)]
def Bt (W : World) (base g : Nat) (t : List S69) : Prop := ∃ c, Kd.R k148 148 W base (fun _ => True) (.slice (some ⟨g, 0, none⟩) t.length c) (t.map (nodB g))
theorem Bt.below {W W' : World} {base g : Nat} {t : List S69} (h : Bt W base g t) (hb : Below W.heap.size W W') : Bt W' base g t := by
 obtain ⟨c, h⟩ := h
 exact ⟨c, Kd.R_below h hb⟩
theorem Bt.at {W : World} {base g : Nat} {t : List S69} (h : Bt W base g t) {i : Nat} (hi : i < t.length) :
  W.cell? ⟨g, i * 6, none⟩ = some (.int .i64 (t.getD i z69).f0) ∧ W.cell? ⟨g, i * 6 + 1, none⟩ = some (.int .i64 (t.getD i z69).f1) ∧ W.cell? ⟨g, i * 6 + 2, none⟩ = some (.int .i64 (t.getD i z69).f2) ∧ W.cell? ⟨g, i * 6 + 3, none⟩ = some (.int .i64 (t.getD i z69).f3) ∧
  W.cell? ⟨g, i * 6 + 4, none⟩ = some (.pointer (nodB g (t.getD i z69)).f4) ∧ W.cell? ⟨g, i * 6 + 5, none⟩ = some (.pointer (nodB g (t.getD i z69)).f5) := by
 obtain ⟨c, h⟩ := h
 obtain ⟨ce, hcl, hM, hcc, hfr⟩ := Kd.R_elem h z148 (i : Int) (by omega) (by omega)
 rw [Int.toNat_natCast] at hM
 have e : (t.map (nodB g)).getD i z148 = nodB g (t.getD i z69) := by rw [List.getD, List.getElem?_map, List.getElem?_eq_getElem hi, List.getD, List.getElem?_eq_getElem hi]; rfl
 rw [e] at hM
 obtain rfl := k148_openM hM
 exact ⟨hcc 0 _ rfl, hcc 1 _ rfl, hcc 2 _ rfl, hcc 3 _ rfl, hcc 4 _ rfl, hcc 5 _ rfl⟩
theorem put148 {W : World} {base g n cap : Nat} {ok : Nat → Prop} {xs : List S148} (h : Kd.R k148 148 W base ok (.slice (some ⟨g, 0, none⟩) n cap) xs) {c : Nat} (hc : c < n) (x : S148) :
  (∃ u, W.cell? ⟨g, c * 6, none⟩ = some u) ∧ (∃ u, W.cell? ⟨g, c * 6 + 1, none⟩ = some u) ∧ (∃ u, W.cell? ⟨g, c * 6 + 2, none⟩ = some u) ∧ (∃ u, W.cell? ⟨g, c * 6 + 3, none⟩ = some u) ∧ (∃ u, W.cell? ⟨g, c * 6 + 4, none⟩ = some u) ∧ (∃ u, W.cell? ⟨g, c * 6 + 5, none⟩ = some u) ∧
  W.frozen? ⟨g, c * 6, none⟩ = false ∧ W.frozen? ⟨g, c * 6 + 1, none⟩ = false ∧ W.frozen? ⟨g, c * 6 + 2, none⟩ = false ∧ W.frozen? ⟨g, c * 6 + 3, none⟩ = false ∧ W.frozen? ⟨g, c * 6 + 4, none⟩ = false ∧ W.frozen? ⟨g, c * 6 + 5, none⟩ = false ∧
  Kd.R k148 148 ((((((W.setCell ⟨g, c * 6, none⟩ (.int .i64 x.f0)).setCell ⟨g, c * 6 + 1, none⟩ (.int .i64 x.f1)).setCell ⟨g, c * 6 + 2, none⟩ (.int .i64 x.f2)).setCell ⟨g, c * 6 + 3, none⟩ (.int .i64 x.f3)).setCell ⟨g, c * 6 + 4, none⟩ (.pointer x.f4)).setCell ⟨g, c * 6 + 5, none⟩ (.pointer x.f5)) base ok (.slice (some ⟨g, 0, none⟩) n cap) (xs.set c x) ∧
  W.grownBy ((((((W.setCell ⟨g, c * 6, none⟩ (.int .i64 x.f0)).setCell ⟨g, c * 6 + 1, none⟩ (.int .i64 x.f1)).setCell ⟨g, c * 6 + 2, none⟩ (.int .i64 x.f2)).setCell ⟨g, c * 6 + 3, none⟩ (.int .i64 x.f3)).setCell ⟨g, c * 6 + 4, none⟩ (.pointer x.f4)).setCell ⟨g, c * 6 + 5, none⟩ (.pointer x.f5)) (some g) := by
 obtain ⟨ce, hcl, hM, hcc, hfr⟩ := Kd.R_elem h z148 (c : Int) (by omega) (by omega)
 obtain rfl := k148_openM hM
 have hs := Kd.R_seg h (c : Int) (by omega) (by omega) (seg := [.int .i64 x.f0, .int .i64 x.f1, .int .i64 x.f2, .int .i64 x.f3, .pointer x.f4, .pointer x.f5]) (j := 0) hcl hcc (show 6 ≤ 6 from by decide) (x' := x) (k148_mkM _ _ _ x) (fun _ hk => hk)
 exact ⟨⟨_, hcc 0 _ rfl⟩, ⟨_, hcc 1 _ rfl⟩, ⟨_, hcc 2 _ rfl⟩, ⟨_, hcc 3 _ rfl⟩, ⟨_, hcc 4 _ rfl⟩, ⟨_, hcc 5 _ rfl⟩, hfr 0, hfr 1, hfr 2, hfr 3, hfr 4, hfr 5, hs.1, hs.2⟩
theorem put148_4 {W : World} {base g n cap : Nat} {ok : Nat → Prop} {xs : List S148} (h : Kd.R k148 148 W base ok (.slice (some ⟨g, 0, none⟩) n cap) xs) {c : Nat} (hc : c < n) (p : Option Addr) :
  (∃ u, W.cell? ⟨g, c * 6 + 4, none⟩ = some u) ∧ W.frozen? ⟨g, c * 6 + 4, none⟩ = false ∧
  Kd.R k148 148 (W.setCell ⟨g, c * 6 + 4, none⟩ (.pointer p)) base ok (.slice (some ⟨g, 0, none⟩) n cap) (xs.set c { xs.getD c z148 with f4 := p }) ∧ W.grownBy (W.setCell ⟨g, c * 6 + 4, none⟩ (.pointer p)) (some g) := by
 obtain ⟨ce, hcl, hM, hcc, hfr⟩ := Kd.R_elem h z148 (c : Int) (by omega) (by omega)
 rw [Int.toNat_natCast] at hM
 generalize xs.getD c z148 = x at hM ⊢
 obtain rfl := k148_openM hM
 have hs := Kd.R_seg h (c : Int) (by omega) (by omega) (seg := [.pointer p]) (j := 4) hcl hcc (by simp only [List.length_cons, List.length_nil]; decide) (x' := { x with f4 := p }) (k148_mkM _ _ _ { x with f4 := p }) (fun _ hk => hk)
 exact ⟨⟨_, hcc 4 _ rfl⟩, hfr 4, hs.1, hs.2⟩
theorem put148_5 {W : World} {base g n cap : Nat} {ok : Nat → Prop} {xs : List S148} (h : Kd.R k148 148 W base ok (.slice (some ⟨g, 0, none⟩) n cap) xs) {c : Nat} (hc : c < n) (p : Option Addr) :
  (∃ u, W.cell? ⟨g, c * 6 + 5, none⟩ = some u) ∧ W.frozen? ⟨g, c * 6 + 5, none⟩ = false ∧
  Kd.R k148 148 (W.setCell ⟨g, c * 6 + 5, none⟩ (.pointer p)) base ok (.slice (some ⟨g, 0, none⟩) n cap) (xs.set c { xs.getD c z148 with f5 := p }) ∧ W.grownBy (W.setCell ⟨g, c * 6 + 5, none⟩ (.pointer p)) (some g) := by
 obtain ⟨ce, hcl, hM, hcc, hfr⟩ := Kd.R_elem h z148 (c : Int) (by omega) (by omega)
 rw [Int.toNat_natCast] at hM
 generalize xs.getD c z148 = x at hM ⊢
 obtain rfl := k148_openM hM
 have hs := Kd.R_seg h (c : Int) (by omega) (by omega) (seg := [.pointer p]) (j := 5) hcl hcc (by simp only [List.length_cons, List.length_nil]; decide) (x' := { x with f5 := p }) (k148_mkM _ _ _ { x with f5 := p }) (fun _ hk => hk)
 exact ⟨⟨_, hcc 5 _ rfl⟩, hfr 5, hs.1, hs.2⟩
theorem row_ne {W : World} {base g n cap : Nat} {ok : Nat → Prop} {xs : List S148} (h : Kd.R k148 148 W base ok (.slice (some ⟨g, 0, none⟩) n cap) xs) (hp : 0 < n) {gb t : Nat} {c : Array Value} (hb : W.heap[gb]? = some (.cells c t (0, 0))) (ht : (t == 148) = false) : gb ≠ g := by
 have h1 := (Kd.R_reads' h).1
 obtain ⟨g', c', e, _, _, c2, h2⟩ := Kd.R_form h (by omega)
 injection e with e1 _ _
 injection e1 with e1
 injection e1 with e1 _ _
 subst e1
 exact blk_ne hb h2 (by simpa using ht)
theorem ne148 : ∀ q, q ∈ 148 :: k148.E → q ≠ 69 := fun q hq => by
 rcases List.mem_cons.1 hq with rfl | hq
 ·decide
 ·exact absurd hq (by simp [show k148.E = [] from rfl])
end Go.Proofs.YtaabbaemfnecgaaGreat.V
namespace Go.Proofs.YtaabbaemfnecgaaGreat.T
open Go.RowKit Go.Proofs.YtaabbaemfnecgaaGreatW.PrintWords Go.Proofs.YtaabbaemfnecgaaGreatW.PrintLast Go.Proofs.YtaabbaemfnecgaaGreatW.PrintMore
attribute [local go_sem] Tryz.underlying69 Tryz.underlying148 Tryz.underlying168 Tryz.underlying175
section
open Go.Proofs.YtaabbaemfnecgaaGreat.V
structure S168 where
 f0 : Option Addr
 f1 : Int
def z168 : S168 := ⟨none, 0⟩
def k168 : Kd S168 := Kd.iso (Kd.pair kPt (Kd.int .i64)) (fun x : S168 => (x.f0, x.f1))
theorem k168_openM {w : World} {base : Nat} {ok : Nat → Prop} {x : S168} {cs : List Value} (h : k168.M w base ok x cs) : cs = [.pointer x.f0, .int .i64 x.f1] := by
 obtain ⟨_, _, rfl, rfl, rfl⟩ := h
 exact rfl
theorem k168_mkM (w : World) (base : Nat) (ok : Nat → Prop) (x : S168) : k168.M w base ok x [.pointer x.f0, .int .i64 x.f1] := ⟨[.pointer x.f0], [.int .i64 x.f1], rfl, rfl, rfl⟩
theorem info168 : (Tryz.prog.info? 168).map (fun i => (i.zero, i.size, i.bytes)) = some (some (.agg #[.pointer none, .int .i64 0]), 2, 16) := by kernel_rfl
def itB (g : Nat) (x : Int × Int) : S168 := ⟨pB g x.1, x.2⟩
def stB (g : Nat) (st : List (Int × Int)) : List S168 := (st.map (itB g)).reverse
theorem stB_len (g : Nat) (st : List (Int × Int)) : (stB g st).length = st.length := by simp [stB]
theorem stB_cons (g : Nat) (x : Int × Int) (st : List (Int × Int)) : stB g (x :: st) = stB g st ++ [itB g x] := by simp [stB]
theorem stB_take (g : Nat) (x : Int × Int) (st : List (Int × Int)) : (stB g (x :: st)).take st.length = stB g st := by rw [stB_cons, List.take_left' (stB_len g st)]
theorem stB_at (g : Nat) (x : Int × Int) (st : List (Int × Int)) : (stB g (x :: st)).getD st.length z168 = itB g x := by
 rw [stB_cons, List.getD, List.getElem?_append_right (by rw [stB_len]; exact Nat.le_refl _), stB_len, Nat.sub_self]; rfl
def rsums (t : List S69) : Nat → List (Int × Int) → Int → Option Bool
 | 0, _, _ => none
 | _ + 1, [], _ => some true
 | k + 1, (p, s0) :: st, sum => if 0 ≤ p ∧ p < t.length ∧ st.length ≤ 1000000 ∧ ((t.getD p.toNat z69).f4 = -1 ∨ 0 ≤ (t.getD p.toNat z69).f4 ∧ 0 ≤ (t.getD p.toNat z69).f5) then
   if (t.getD p.toNat z69).f4 = -1 then (if (t.getD p.toNat z69).f2 = 0 ∨ (sum ≠ -1 ∧ wrap64 (s0 + (t.getD p.toNat z69).f2) ≠ sum) then some false else rsums t k st (wrap64 (s0 + (t.getD p.toNat z69).f2)))
   else rsums t k (((t.getD p.toNat z69).f5, wrap64 (s0 + (t.getD p.toNat z69).f2)) :: ((t.getD p.toNat z69).f4, wrap64 (s0 + (t.getD p.toNat z69).f2)) :: st) sum
  else none
theorem box168 {W : World} {g : Nat} {a b : Value} (h : W.heap[g]? = some (.cells #[a, b] 168 (0, 0))) : W.cell? ⟨g, 0, none⟩ = some a ∧ W.cell? ⟨g, 1, none⟩ = some b ∧ W.frozen? ⟨g, 0, none⟩ = false ∧ W.frozen? ⟨g, 1, none⟩ = false :=
 ⟨(blk_cell h 0).trans rfl, (blk_cell h 1).trans rfl, blk_frozen h 0, blk_frozen h 1⟩
theorem el168 {W : World} {base g n cap : Nat} {ok : Nat → Prop} {xs : List S168} (h : Kd.R k168 168 W base ok (.slice (some ⟨g, 0, none⟩) n cap) xs) {i : Nat} (hi : i < n) : W.cell? ⟨g, i * 2, none⟩ = some (.pointer (xs.getD i z168).f0) ∧ W.cell? ⟨g, i * 2 + 1, none⟩ = some (.int .i64 (xs.getD i z168).f1) := by
 obtain ⟨ce, hcl, hM, hcc, hfr⟩ := Kd.R_elem h z168 (i : Int) (by omega) (by omega)
 rw [Int.toNat_natCast] at hM
 obtain rfl := k168_openM hM
 exact ⟨hcc 0 _ rfl, hcc 1 _ rfl⟩
theorem R_lit168 (W : World) (x : S168) : Kd.R k168 168 (W.alloc (.cells #[.pointer x.f0, .int .i64 x.f1] 168)) W.heap.size (fun _ => True) (.slice (some ⟨W.heap.size, 0, none⟩) 1 1) [x] :=
 ⟨fun _ _ => trivial, [.pointer x.f0, .int .i64 x.f1], World.ownsRow_lit W _ 1 (Nat.le_refl _) (by simp [maxLen]) (by rfl), (Reps.none (k168.M _ _ _) 2).snoc (k168_mkM _ _ _ x) rfl⟩
theorem sums_calls (k : Nat) (t : List S69) (r : Bool) (g B : Nat) (w : World) (hb : Bt w B g t) (h : rsums t k [(0, 0)] (-1) = some r) (h0 : 0 < t.length) :
  Calls Tryz.prog 59 #[.pointer (some ⟨g, 0, none⟩)] w (RB w (.bool r)) := by
 have HBT := Am hb
 have HH := Am h
 have HB := Br w
 clear hb h
 go_enter Tryz.func59, Tryz.ntmps59
 go_wp2
 have HS : Aside0 (Kd.R k168 168 (w.alloc (.cells #[.pointer (some ⟨g, 0, none⟩), .int .i64 0] 168)) w.heap.size (fun _ => True) (.slice (some ⟨w.heap.size, 0, none⟩) 1 1) (stB g [(0, 0)])) := ⟨R_lit168 w ⟨some ⟨g, 0, none⟩, 0⟩⟩
 have HB1 := Am (ba HB.out (.cells #[.pointer (some ⟨g, 0, none⟩), .int .i64 0] 168))
 generalize w.alloc (.cells #[.pointer (some ⟨g, 0, none⟩), .int .i64 0] 168) = w1 at HS HB1 ⊢
 have HV : Aside0 (∃ v, v = (.slice (some ⟨w.heap.size, 0, none⟩) 1 1 : Value)) := ⟨_, rfl⟩
 go_loopg [3, 4] k (fun kq v3 v4 w' => ∃ (sum : Int) (st : List (Int × Int)), v3 = .int .i64 sum ∧ Aside0 (Kd.R k168 168 w' w.heap.size (fun _ => True) v4 (stB g st)) ∧ Aside0 (Below w.heap.size w w') ∧ Aside0 (rsums t kq st sum = some r))
 case atStart => exact ⟨-1, [(0, 0)], rfl, HS, HB1, HH⟩
 case round =>
  clear HS HB1 HH HB HV
  obtain ⟨sum, st, rfl, HS, HB, HH⟩ := hrel
  obtain ⟨kq1, rfl⟩ : ∃ x, gk = x + 1 := by
   cases gk with
   | zero => exact absurd HH.out (by simp [rsums])
   | succ x => exact ⟨x, rfl⟩
  have hh := HH.out
  clear HH
  cases st with
  | nil =>
   rw [rsums] at hh
   obtain rfl := Option.some.inj hh
   obtain ⟨A4, c4, rfl⟩ := Kd.R_slice HS.out
   rw [show (stB g []).length = 0 from rfl]
   clear hh
   go_wp2
   go_ret
   exact ⟨rfl, HB.out⟩
  | cons x st =>
   obtain ⟨p, s0⟩ := x
   rw [rsums] at hh
   by_cases q : 0 ≤ p ∧ p < t.length ∧ st.length ≤ 1000000 ∧ ((t.getD p.toNat z69).f4 = -1 ∨ 0 ≤ (t.getD p.toNat z69).f4 ∧ 0 ≤ (t.getD p.toNat z69).f5)
   rotate_left
   ·rw [if_neg q] at hh; cases hh
   rw [if_pos q] at hh
   obtain ⟨j, rfl⟩ : ∃ j : Nat, p = j := ⟨p.toNat, by omega⟩
   rw [Int.toNat_natCast] at hh q
   obtain ⟨g4, c4, rfl, -, -, -⟩ := Kd.R_form HS.out (by rw [stB_len]; simp)
   have hx := el168 HS.out (i := st.length) (by rw [stB_len]; simp)
   rw [stB_at] at hx
   simp only [itB] at hx
   rw [show pB g (j : Int) = some ⟨g, j * 6, none⟩ from rfl] at hx
   obtain ⟨hx0, hx1⟩ := hx
   have hlen : (stB g (((j : Int), s0) :: st)).length = st.length + 1 := by rw [stB_len]; rfl
   obtain ⟨n, hn⟩ : ∃ n, t.getD j z69 = n := ⟨_, rfl⟩
   have hj : j < t.length := by omega
   obtain ⟨z0, z1, z2, z3, z4, z5⟩ := (HBT.out.below HB.out).at hj
   have hw : wrap64 (((stB g (((j : Int), s0) :: st)).length : Int) - 1) = ((st.length : Nat) : Int) := by rw [hlen, Go.IntWalk.wrap64_in _ (by omega)]; omega
   obtain ⟨i168, hi168, _, hsz, _⟩ := info_parts info168
   have hcut := cut_to (P := Tryz.prog) 169 168 .i64 Tryz.underlying169 hi168 (some ⟨g4, 0, none⟩) (stB g (((j : Int), s0) :: st)).length c4 (st.length : Int) (by omega) (by omega) (Kd.R_reads' HS.out).2.1
   have hS2 := Kd.R_take (m := st.length) HS.out (by omega)
   rw [stB_take] at hS2
   have HS2 := Am hS2
   have HN := Am hn
   have HJ := Am hj
   have HL := Am q.2.2.1
   have HQ4 := Am q.2.2.2
   rw [hn] at hh z0 z1 z2 z3 z4 z5
   have HH := Am hh
   have p1 : decide (((stB g (((j : Int), s0) :: st)).length : Int) > 0) = true := decide_eq_true (by omega)
   have p2 : decide (0 < ((stB g (((j : Int), s0) :: st)).length : Int)) = true := decide_eq_true (by omega)
   have p3 : decide (0 < (stB g (((j : Int), s0) :: st)).length) = true := decide_eq_true (by omega)
   have p4 : (0 ≤ (st.length : Int)) = True := eq_true (by omega)
   have p5 : ((st.length : Int) < ((stB g (((j : Int), s0) :: st)).length : Int)) = True := eq_true (by omega)
   have p6 : ((st.length : Int) ≤ ((stB g (((j : Int), s0) :: st)).length : Int)) = True := eq_true (by omega)
   clear hh hn hj q hS2 hlen HS
   generalize (stB g (((j : Int), s0) :: st)).length = L at hw hcut p1 p2 p3 p5 p6 ⊢
   go_wp2_with (first | ((with_reducible refine Gd 5 rfl ?_); refine bF 5 HB.out (cs := #[.pointer none, .int .i64 0]) (t := 168) ?_; clear HB; intro gb w_gb GX_gb GE_gb HK_gb HB BB_gb; obtain ⟨y0, y1, f0, f1⟩ := box168 HK_gb.out))
   have hb2 := below_set (below_set BB_gb.out GX_gb.out (j := 0) (v := .pointer (some ⟨g, j * 6, none⟩))) GX_gb.out (j := 1) (v := .int .i64 s0)
   have hK2 := blk_set (blk_set HK_gb.out 0 (.pointer (some ⟨g, j * 6, none⟩))) 1 (.int .i64 s0)
   have hB2 := below_set (below_set HB.out GE_gb.out (j := 0) (v := .pointer (some ⟨g, j * 6, none⟩))) GE_gb.out (j := 1) (v := .int .i64 s0)
   refine sT 9 [] (S := fun W' => W'.heap[gb]? = some (.cells #[.pointer (some ⟨g, j * 6, none⟩), .int .i64 s0] 168 (0, 0)) ∧ Bt W' B g t) ⟨blk_below hK2 ((Below.refl _ _).drew), (HBT.out.below hB2).below ((Below.refl _ _).drew)⟩ fun hHeld => ?_
   refine gen_any (fun W => (W.heap[gb]? = some (.cells #[.pointer (some ⟨g, j * 6, none⟩), .int .i64 s0] 168 (0, 0)) ∧ Bt W B g t) ∧ Kd.R k168 168 W w.heap.size (fun _ => True) (.slice (some ⟨g4, 0, none⟩) st.length c4) (stB g st) ∧ Below w.heap.size w W) ⟨hHeld, Kd.R_below (Kd.R_below HS2.out hb2) ((Below.refl _ _).drew), bel_t hB2 ((Below.refl _ _).drew)⟩ (fun w6 hh => ?_)
   clear hHeld hb2 hK2 hB2 HS2 HB HK_gb BB_gb y0 y1 f0 f1 hx0 hx1 z0 z1 z2 z3 z4 z5 hcut hw p1 p2 p3 p4 p5 p6
   have hHeld := hh.1
   have HS := Am hh.2.1
   have HB := Am hh.2.2
   clear hh
   refine pu 0 24 ?_
   refine ta 1 25 hHeld (hy := by intro w' hs; obtain ⟨y0, y1, -⟩ := box168 hs.1; exact gz) ?_
   refine pu 2 26 ?_
   refine ta 3 27 hHeld (hy := by intro w' hs; obtain ⟨y0, y1, -⟩ := box168 hs.1; exact gz) ?_
   refine pu 4 28 ?_
   refine pu 5 29 ?_
   refine ta 6 30 hHeld (hy := by intro w' hs; obtain ⟨z0, z1, z2, z3, z4, z5⟩ := hs.2.at HJ.out; rw [HN.out] at z0 z1 z2 z3 z4 z5; exact gz) ?_
   refine pu 7 31 ?_
   refine pu 8 6 ?_
   have HHE := Am hHeld
   clear hHeld
   refine done_ (by kernel_rfl) ?_
   obtain ⟨sm, hsm⟩ : ∃ sm, wrap64 (s0 + n.f2) = sm := ⟨_, rfl⟩
   have hh := HH.out
   rw [hsm] at hh ⊢
   clear HH
   obtain ⟨y0, y1, -⟩ := box168 HHE.out.1
   obtain ⟨z0, z1, z2, z3, z4, z5⟩ := HHE.out.2.at HJ.out
   rw [HN.out] at z0 z1 z2 z3 z4 z5
   by_cases qf : n.f4 = -1
   ·rw [if_pos qf] at hh
    rw [show (nodB g n).f4 = none from if_pos qf] at z4
    have HSM := Am hsm
    clear qf z5 hsm
    cases c1 : (n.f2 == 0) with
    | true =>
     rw [if_pos (.inl (by simpa using c1))] at hh
     exact dd90
    | false =>
     cases c2 : (sum != -1) with
     | false =>
      rw [if_neg (by simp at c1 c2; omega)] at hh
      exact dd84
     | true =>
      cases c3 : (sm != sum) with
      | true =>
       rw [if_pos (.inr (by simp at c2 c3; omega))] at hh
       exact dd90
      | false =>
       rw [if_neg (by simp at c1 c3; omega)] at hh
       exact dd84
   ·rw [if_neg qf] at hh
    have HSM := Am hsm
    clear hsm
    obtain ⟨a, b, ea, eb⟩ : ∃ a b : Nat, n.f4 = a ∧ n.f5 = b := ⟨n.f4.toNat, n.f5.toNat, by have := HQ4.out; rw [HN.out] at this; omega, by have := HQ4.out; rw [HN.out] at this; omega⟩
    have HP4 : Aside0 ((nodB g n).f4 = some ⟨g, a * 6, none⟩) := ⟨(if_neg qf).trans (by rw [ea]; rfl)⟩
    have HP5 : Aside0 ((nodB g n).f5 = some ⟨g, b * 6, none⟩) := ⟨(if_neg qf).trans (by rw [eb]; rfl)⟩
    rw [ea, eb] at hh
    rw [HP4.out] at z4
    rw [HP5.out] at z5
    clear qf ea eb
    have HH := Am hh
    clear hh
    go_wp2
    clear y0 y1 z0 z1 z2 z3 z4 z5
    refine sT 18 [16] (S := fun W' => W'.heap[gb]? = some (.cells #[.pointer (some ⟨g, j * 6, none⟩), .int .i64 s0] 168 (0, 0)) ∧ Bt W' B g t) ⟨blk_below HHE.out.1 ((Below.refl _ _).drew), HHE.out.2.below ((Below.refl _ _).drew)⟩ fun hHeld => ?_
    refine gen_any (fun W => (W.heap[gb]? = some (.cells #[.pointer (some ⟨g, j * 6, none⟩), .int .i64 s0] 168 (0, 0)) ∧ Bt W B g t) ∧ Kd.R k168 168 W w.heap.size (fun _ => True) (.slice (some ⟨g4, 0, none⟩) st.length c4) (stB g st) ∧ Below w.heap.size w W) ⟨hHeld, Kd.R_below HS.out ((Below.refl _ _).drew), bel_t HB.out ((Below.refl _ _).drew)⟩ (fun w7 hh => ?_)
    clear hHeld HS HB HHE
    have hHeld := hh.1
    have HS := Am hh.2.1
    have HB := Am hh.2.2
    clear hh
    refine pu 0 38 ?_
    refine pu 1 39 ?_
    refine ta 2 40 hHeld (hy := by intro w' hs; obtain ⟨y0, y1, -⟩ := box168 hs.1; exact gz) ?_
    refine pu 3 41 ?_
    refine pu 4 42 ?_
    refine ta 5 43 hHeld (hy := by intro w' hs; obtain ⟨z0, z1, z2, z3, z4, z5⟩ := hs.2.at HJ.out; rw [HN.out] at z0 z1 z2 z3 z4 z5; rw [HP4.out] at z4; rw [HP5.out] at z5; exact gz) ?_
    refine pu 6 44 ?_
    refine pu 7 45 ?_
    refine pu 8 46 ?_
    refine ta 9 47 hHeld (hy := by intro w' hs; obtain ⟨y0, y1, -⟩ := box168 hs.1; exact gz) ?_
    refine pu 10 48 ?_
    refine pu 11 49 ?_
    refine ta 12 50 hHeld (hy := by intro w' hs; obtain ⟨z0, z1, z2, z3, z4, z5⟩ := hs.2.at HJ.out; rw [HN.out] at z0 z1 z2 z3 z4 z5; rw [HP4.out] at z4; rw [HP5.out] at z5; exact gz) ?_
    refine pu 13 51 ?_
    refine pu 14 52 ?_
    refine on 15 53 fun K hK => ?_
    refine Kd.R_lit_step k168 _ 168 ?hg (N := 53) ?hd (xs := ([itB g ((a : Int), sm), itB g ((b : Int), sm)] : List S168)) (inner := [.pointer (some ⟨g, a * 6, none⟩), .int .i64 sm, .pointer (some ⟨g, b * 6, none⟩), .int .i64 sm]) (ok := fun _ => True) (okp := fun _ => True) ?hr ?hp (fun _ hk => hk) trivial (Below.refl _ _) (Nat.le_refl _) (by simp) ?_
    case hd => rfl
    case hg => rfl
    case hr => first | (go_simp; done) | (go_simp; rfl)
    case hp => exact ((Reps.none (k168.M _ _ _) 2).snoc (k168_mkM _ _ _ (itB g ((a : Int), sm))) rfl).snoc (k168_mkM _ _ _ (itB g ((b : Int), sm))) rfl
    intro v8 w8 ho hb hg_ hnew_
    clear hg_ hnew_
    obtain ⟨A8, c8, rfl⟩ := Kd.R_slice ho
    have HC8 := Am (Kd.R_reads' ho).2.2
    have HS8 := Am (Kd.R_below HS.out hb)
    have HB8 := Am (bel_t HB.out hb)
    refine hK.out _ _ ⟨blkB hb hHeld.1, hHeld.2.below hb⟩ (fun hHeld => ?_)
    clear hK K ho hb HS HB
    refine nm 53 ?_
    refine last_ (i := 16) (N := some 54) #[true, true, true, true, true, true, true, true, true, true, true, true, true, true, true, true, true, false] rfl rfl (by kernel_rfl) (by decide) (fun K hK => ?_)
    refine Kd.R_append_rows_step k168 (w0 := w) w.heap.size (by rfl) (.tmp 38) (.tmp 53) 169 168 (.agg #[.pointer none, .int .i64 0]) 16 rfl Tryz.underlying169 info168 rfl (by decide) (by omega) (.slice (some ⟨g4, 0, none⟩) st.length c4) (stB g st) [itB g ((a : Int), sm), itB g ((b : Int), sm)] A8 2 c8 (fun _ => True) (fun _ => False) rfl rfl HS8.out HC8.out (fun _ _ h => h) (fun _ h => h.elim) (fun _ _ => trivial) HB8.out HB8.out.size (by have := HL.out; rw [stB_len]; omega) ?_
    intro v9 w9 ho9 hb9 hg9 hat9
    have HS9 : Aside0 (Kd.R k168 168 w9 w.heap.size (fun _ => True) v9 (stB g (((b : Int), sm) :: ((a : Int), sm) :: st))) := ⟨by rw [stB_cons, stB_cons, List.append_assoc]; exact ho9⟩
    have HB9 := Am hb9
    refine hK.out _ _ ?_
    clear hK K ho9 hb9 hg9 hat9 HS8 HB8 HC8 hHeld
    refine nm 54 ?_
    refine pu 17 4 ?_
    refine done_ (by kernel_rfl) ?_
    go_wp2
    go_roundg kq1
    case measure => omega
    case rel => exact ⟨sum, _, rfl, HS9, HB9, HH⟩
end
section
open Go.Proofs.YtaabbaemfnecgaaGreat.V
def leftB (n : S69) (key : Int) : Bool := n.f1 == 1 || decide (key < n.f0)
theorem left_calls {w : World} {B g : Nat} {t : List S69} (hb : Bt w B g t) {j : Nat} (hj : j < t.length) (key : Int) :
  Calls Tryz.prog 169 #[.pointer (some ⟨g, j * 6, none⟩), .int .i64 key] w (RB w (.bool (leftB (t.getD j z69) key))) := by
 obtain ⟨z0, z1, z2, z3, z4, z5⟩ := hb.at hj
 have HBT := Am hb
 clear hb
 generalize t.getD j z69 = n at z0 z1 z2 z3 z4 z5 ⊢
 unfold leftB
 cases q1 : (n.f1 == 1) with
 | true =>
  exact dd66
 | false =>
  rw [Bool.false_or]
  cases q2 : decide (key < n.f0) with
  | true =>
   exact dd66
  | false =>
   exact dd66
theorem child_calls {w : World} {B g : Nat} {t : List S69} (hb : Bt w B g t) {j : Nat} (hj : j < t.length) (key : Int) :
  Calls Tryz.prog 148 #[.pointer (some ⟨g, j * 6, none⟩), .int .i64 key] w fun e w' => e = .returned (.pointer (if leftB (t.getD j z69) key = true then (nodB g (t.getD j z69)).f4 else (nodB g (t.getD j z69)).f5)) ∧ Below w.heap.size w w' := by
 have HBT := Am hb
 clear hb
 obtain ⟨n, hn⟩ : ∃ n, t.getD j z69 = n := ⟨_, rfl⟩
 rw [hn]
 have HN := Am hn
 clear hn
 cases q1 : leftB n key with
 | true =>
  rw [if_pos rfl]
  exact dd41
 | false =>
  rw [if_neg (by decide)]
  exact dd41
theorem weight_none (w : World) : Calls Tryz.prog 113 #[.pointer none] w (RB w (.int .i64 (-1))) := by
 exact dd89
theorem weight_calls {w : World} {B g : Nat} {t : List S69} (hb : Bt w B g t) {j : Nat} (hj : j < t.length) :
  Calls Tryz.prog 113 #[.pointer (some ⟨g, j * 6, none⟩)] w (RB w (.int .i64 (t.getD j z69).f2)) := by
 obtain ⟨z0, z1, z2, z3, z4, z5⟩ := hb.at hj
 have HBT := Am hb
 clear hb
 generalize t.getD j z69 = n at z0 z1 z2 z3 z4 z5 ⊢
 exact dd89
def badB (v p : S69) : Bool := v.f1 == 0 && (decide (1 < v.f2) || (v.f2 == 0 && (p.f1 == 0 && p.f2 == 0)))
theorem bad_calls {w : World} {B g : Nat} {t : List S69} (hb : Bt w B g t) {j i : Nat} (hj : j < t.length) (hi : i < t.length) :
  Calls Tryz.prog 110 #[.pointer (some ⟨g, j * 6, none⟩), .pointer (some ⟨g, i * 6, none⟩)] w (RB w (.bool (badB (t.getD j z69) (t.getD i z69)))) := by
 obtain ⟨z0, z1, z2, z3, z4, z5⟩ := hb.at hj
 have HBT := Am hb
 clear hb
 obtain ⟨y0, y1, y2, y3, y4, y5⟩ := HBT.out.at hi
 generalize t.getD j z69 = n at z0 z1 z2 z3 z4 z5 ⊢
 generalize t.getD i z69 = m at y0 y1 y2 y3 y4 y5 ⊢
 unfold badB
 cases q1 : (n.f1 == 0) with
 | false =>
  rw [Bool.false_and]
  exact dd39
 | true =>
  rw [Bool.true_and]
  cases q2 : decide (1 < n.f2) with
  | true =>
   rw [Bool.true_or]
   exact dd39
  | false =>
   rw [Bool.false_or]
   cases q3 : (n.f2 == 0) with
   | false =>
    rw [Bool.false_and]
    exact dd39
   | true =>
    rw [Bool.true_and]
    cases q4 : (m.f1 == 0) with
    | false =>
     rw [Bool.false_and]
     exact dd39
    | true =>
     rw [Bool.true_and]
     cases q5 : (m.f2 == 0) with
     | false =>
      exact dd39
     | true =>
      exact dd39
theorem side_calls {w : World} {B g : Nat} {t : List S69} (hb : Bt w B g t) {j : Nat} (hj : j < t.length) (m : Bool) :
  Calls Tryz.prog 112 #[.pointer (some ⟨g, j * 6, none⟩), .bool m] w fun e w' => e = .returned (.tuple #[.pointer (if m then (nodB g (t.getD j z69)).f5 else (nodB g (t.getD j z69)).f4), .pointer (if m then (nodB g (t.getD j z69)).f4 else (nodB g (t.getD j z69)).f5)]) ∧ Below w.heap.size w w' := by
 have HBT := Am hb
 have HJ := Am hj
 obtain ⟨n, hn⟩ : ∃ n, t.getD j z69 = n := ⟨_, rfl⟩
 rw [hn]
 have HN := Am hn
 clear hb hj hn
 cases m with
 | true =>
  go_enter Tryz.func112, Tryz.ntmps112
  go_wp2
  refine sT 10 [] (S := fun W' => Bt W' B g t) (HBT.out.below ((Below.refl _ _).drew)) fun hHeld => ?_
  refine gen_any (fun W => Bt W B g t ∧ Below w.heap.size w W) ⟨hHeld, (Below.refl _ _).drew⟩ (fun w6 hh => ?_)
  clear hHeld
  have hHeld := hh.1
  have HB := Am hh.2
  clear hh
  refine pu 0 7 ?_
  refine pu 1 8 ?_
  refine pu 2 9 ?_
  refine ta 3 10 hHeld (hy := by intro w' hs; obtain ⟨z0, z1, z2, z3, z4, z5⟩ := hs.at HJ.out; rw [HN.out] at z0 z1 z2 z3 z4 z5; exact gz) ?_
  refine pu 4 11 ?_
  refine pu 5 12 ?_
  refine pu 6 13 ?_
  refine ta 7 14 hHeld (hy := by intro w' hs; obtain ⟨z0, z1, z2, z3, z4, z5⟩ := hs.at HJ.out; rw [HN.out] at z0 z1 z2 z3 z4 z5; exact gz) ?_
  exact dd78
 | false =>
  go_enter Tryz.func112, Tryz.ntmps112
  go_wp2
  refine sT 10 [] (S := fun W' => Bt W' B g t) (HBT.out.below ((Below.refl _ _).drew)) fun hHeld => ?_
  refine gen_any (fun W => Bt W B g t ∧ Below w.heap.size w W) ⟨hHeld, (Below.refl _ _).drew⟩ (fun w6 hh => ?_)
  clear hHeld
  have hHeld := hh.1
  have HB := Am hh.2
  clear hh
  refine pu 0 15 ?_
  refine pu 1 16 ?_
  refine pu 2 17 ?_
  refine ta 3 18 hHeld (hy := by intro w' hs; obtain ⟨z0, z1, z2, z3, z4, z5⟩ := hs.at HJ.out; rw [HN.out] at z0 z1 z2 z3 z4 z5; exact gz) ?_
  refine pu 4 19 ?_
  refine pu 5 20 ?_
  refine pu 6 21 ?_
  refine ta 7 22 hHeld (hy := by intro w' hs; obtain ⟨z0, z1, z2, z3, z4, z5⟩ := hs.at HJ.out; rw [HN.out] at z0 z1 z2 z3 z4 z5; exact gz) ?_
  exact dd78
end
section
open Go.Proofs.YtaabbaemfnecgaaGreat.V
def pN (g : Nat) (i : Nat) : Option Addr := some ⟨g, i * 6, none⟩
theorem info94 : (Tryz.prog.info? 94).map (fun i => (i.zero, i.size, i.bytes)) = some (some (.pointer none), 1, 8) := by kernel_rfl
theorem el94 {W : World} {base g n cap : Nat} {ok : Nat → Prop} {xs : List (Option Addr)} (h : Kd.R kPt 94 W base ok (.slice (some ⟨g, 0, none⟩) n cap) xs) {i : Nat} (hi : i < n) : W.cell? ⟨g, i, none⟩ = some (.pointer (xs.getD i none)) := by
 obtain ⟨ce, hcl, hM, hcc, hfr⟩ := Kd.R_elem h none (i : Int) (by omega) (by omega)
 rw [Int.toNat_natCast] at hM
 have hM' : ce = [.pointer (xs.getD i none)] := hM
 subst hM'
 have := hcc 0 _ rfl
 rw [Int.toNat_natCast] at this
 simpa [kPt, Kd.scalar] using this
theorem R_lit94 (W : World) (x : Option Addr) : Kd.R kPt 94 (W.alloc (.cells #[.pointer x] 94)) W.heap.size (fun _ => True) (.slice (some ⟨W.heap.size, 0, none⟩) 1 1) [x] :=
 ⟨fun _ _ => trivial, [.pointer x], World.ownsRow_lit W _ 1 (Nat.le_refl _) (by simp [maxLen]) (by rfl), Reps.one (show kPt.M _ _ _ x [.pointer x] from rfl) (Reps.none _ _)⟩
def pathI (t : List S69) (key : Int) : Nat → Nat → Option (List Nat)
 | 0, _ => none
 | k + 1, i => if i < t.length then (if (t.getD i z69).f4 = -1 then some [i] else
   if 0 ≤ (if leftB (t.getD i z69) key = true then (t.getD i z69).f4 else (t.getD i z69).f5) then (pathI t key k (if leftB (t.getD i z69) key = true then (t.getD i z69).f4 else (t.getD i z69).f5).toNat).bind fun l => some (i :: l) else none) else none
theorem pathI_len {t : List S69} {key : Int} : ∀ {k i : Nat} {l : List Nat}, pathI t key k i = some l → 0 < l.length
 | 0, _, _, h => by cases h
 | k + 1, i, l, h => by
  rw [pathI] at h
  by_cases q1 : i < t.length
  ·rw [if_pos q1] at h
   by_cases q2 : (t.getD i z69).f4 = -1
   ·rw [if_pos q2] at h; injection h with h; subst h; simp
   ·rw [if_neg q2] at h
    by_cases q3 : 0 ≤ (if leftB (t.getD i z69) key = true then (t.getD i z69).f4 else (t.getD i z69).f5)
    ·rw [if_pos q3] at h
     obtain ⟨l', _, h⟩ := Option.bind_eq_some_iff.mp h
     injection h with h; subst h; simp
    ·rw [if_neg q3] at h; cases h
  ·rw [if_neg q1] at h; cases h
theorem path_calls (k : Nat) (t : List S69) (key : Int) (res : List Nat) (g B : Nat) (w : World) (hb : Bt w B g t) (h : pathI t key k 0 = some res) (hlen : res.length ≤ 1000000) :
  Calls Tryz.prog 94 #[.pointer (some ⟨g, 0, none⟩), .int .i64 key] w fun e w' => ∃ v, e = .returned v ∧ Kd.R kPt 94 w' w.heap.size (fun _ => True) v (res.map (pN g)) ∧ Below w.heap.size w w' := by
 have HBT := Am hb
 have HH := Am (show ([] : List Nat) ++ res = res from rfl)
 have HP := Am h
 have HL := Am hlen
 have HB := Br w
 clear hb h hlen
 go_enter Tryz.func94, Tryz.ntmps94
 go_wp2
 have HS : Aside0 (Kd.R kPt 94 (w.alloc (.cells #[.pointer (some ⟨g, 0, none⟩)] 94)) w.heap.size (fun _ => True) (.slice (some ⟨w.heap.size, 0, none⟩) 1 1) (([] ++ [0] : List Nat).map (pN g))) := ⟨by have := R_lit94 w (some ⟨g, 0, none⟩); simpa [pN] using this⟩
 have HB1 := Am (ba HB.out (.cells #[.pointer (some ⟨g, 0, none⟩)] 94))
 generalize w.alloc (.cells #[.pointer (some ⟨g, 0, none⟩)] 94) = w1 at HS HB1 ⊢
 go_loopg [5] k (fun kq v5 w' => ∃ (pre : List Nat) (i : Nat) (rest : List Nat), Aside0 (Kd.R kPt 94 w' w.heap.size (fun _ => True) v5 ((pre ++ [i]).map (pN g))) ∧ Aside0 (Below w.heap.size w w') ∧ Aside0 (pathI t key kq i = some rest) ∧ Aside0 (pre ++ rest = res))
 case atStart => exact ⟨[], 0, res, HS, HB1, HP, HH⟩
 case round =>
  clear HS HB1 HH HP HB
  obtain ⟨pre, i, rest, HS, HB, HP, HE⟩ := hrel
  obtain ⟨kq1, rfl⟩ : ∃ x, gk = x + 1 := by
   cases gk with
   | zero => exact absurd HP.out (by simp [pathI])
   | succ x => exact ⟨x, rfl⟩
  have hh := HP.out
  have hlr := pathI_len hh
  rw [pathI] at hh
  by_cases q : i < t.length
  rotate_left
  ·rw [if_neg q] at hh; cases hh
  rw [if_pos q] at hh
  have hx : ((pre ++ [i]).map (pN g)).length = pre.length + 1 := by simp
  obtain ⟨g4, c4, rfl, -, -, -⟩ := Kd.R_form HS.out (by rw [hx]; omega)
  have hx0 := el94 HS.out (i := pre.length) (by rw [hx]; omega)
  rw [show ((pre ++ [i]).map (pN g)).getD pre.length none = some ⟨g, i * 6, none⟩ by simp [List.getD, pN]] at hx0
  have hpl : pre.length ≤ 1000000 := by have := HL.out; rw [← HE.out, List.length_append] at this; omega
  have hw : wrap64 ((((pre ++ [i]).map (pN g)).length : Int) - 1) = ((pre.length : Nat) : Int) := by rw [hx, Go.IntWalk.wrap64_in _ (by omega)]; omega
  have p4 : (0 ≤ (pre.length : Int)) = True := eq_true (by omega)
  have p5 : ((pre.length : Int) < (((pre ++ [i]).map (pN g)).length : Int)) = True := eq_true (by omega)
  obtain ⟨n, hn⟩ : ∃ n, t.getD i z69 = n := ⟨_, rfl⟩
  obtain ⟨z0, z1, z2, z3, z4, z5⟩ := (HBT.out.below HB.out).at q
  rw [hn] at hh z0 z1 z2 z3 z4 z5
  have HN := Am hn
  have HJ := Am q
  have HPL := Am hpl
  obtain ⟨L, hL⟩ : ∃ L, ((pre ++ [i]).map (pN g)).length = L := ⟨_, rfl⟩
  have HLL := Am hL
  rw [hL] at hw p5 ⊢
  clear HP hn q hx hlr hpl hL
  by_cases qf : n.f4 = -1
  ·rw [if_pos qf] at hh
   rw [show (nodB g n).f4 = none from if_pos qf] at z4
   obtain rfl := Option.some.inj hh
   clear qf hh
   go_wp2
   go_ret
   exact ⟨_, rfl, by have := HS.out; rw [HLL.out, HE.out] at this; exact this, HB.out⟩
  ·rw [if_neg qf] at hh
   by_cases qc : 0 ≤ (if leftB n key = true then n.f4 else n.f5)
   rotate_left
   ·rw [if_neg qc] at hh; cases hh
   rw [if_pos qc] at hh
   obtain ⟨l', hl', hh⟩ := Option.bind_eq_some_iff.mp hh
   obtain rfl := Option.some.inj hh
   have hq4 : (nodB g n).f4 = pB g n.f4 := if_neg qf
   have hq5 : (nodB g n).f5 = pB g n.f5 := if_neg qf
   have HQ4 := Am hq4
   have HQ5 := Am hq5
   rw [hq4] at z4
   rw [show pB g n.f4 = some ⟨g, n.f4.toNat * 6, none⟩ from rfl] at z4
   have HP := Am hl'
   clear hh hl' hq4 hq5 qf qc
   go_wp2_with (fail)
   refine (child_calls (HBT.out.below HB.out) HJ.out key).mono ?_
   rintro _ w5 ⟨he, hb5⟩
   have hc : (if leftB (t.getD i z69) key = true then (nodB g (t.getD i z69)).f4 else (nodB g (t.getD i z69)).f5) = some ⟨g, (if leftB n key = true then n.f4 else n.f5).toNat * 6, none⟩ := by
    rw [HN.out, HQ4.out, HQ5.out]
    split <;> rfl
   rw [hc] at he
   subst he
   have HS5 := Am (Kd.R_below HS.out hb5)
   have HB5 := Am (bel_t HB.out hb5)
   clear hc hb5 HS HB hx0 z0 z1 z2 z3 z4 z5 p4 p5 hw HQ4 HQ5
   obtain ⟨c, hcc⟩ : ∃ c, (if leftB n key = true then n.f4 else n.f5).toNat = c := ⟨_, rfl⟩
   rw [hcc] at HP ⊢
   rw [HLL.out] at HS5
   clear hcc
   go_wp2_with (first | ((with_reducible refine gate_builtin (b := .append) (xs := #[.tmp 18, .tmp 27]) rfl ?_); at_builtin; refine Kd.R_append kPt (w0 := w) w.heap.size rfl (.tmp 18) (.tmp 27) 151 94 (.pointer none) 8 rfl Tryz.underlying151 info94 rfl (by decide) (by omega) (.slice (some ⟨g4, 0, none⟩) L c4) ((pre ++ [i]).map (pN g)) (some ⟨g, c * 6, none⟩) [.pointer (some ⟨g, c * 6, none⟩)] (fun _ => True) (fun _ => False) rfl rfl ?aP (fun _ hk => hk.elim) ?aF ?aO ?aB ?aS ?aL ?_; (case aP => exact rfl); (case aB => exact HB5.out); (case aF => exact (fun _ _ => trivial)); (case aO => exact HS5.out); (case aS => exact HB5.out.size); (case aL => have := HPL.out; simp; omega); intro vN wN hoN hbN hgN hatN; have G8 := Am hoN; have GW := Am hbN; clear hoN hbN hgN hatN))
   go_roundg kq1
   case measure => omega
   case rel => exact ⟨pre ++ [i], c, l', ⟨by have := G8.out; rw [List.map_append]; exact this⟩, GW, HP, ⟨by rw [List.append_assoc]; exact HE.out⟩⟩
end
end Go.Proofs.YtaabbaemfnecgaaGreat.T
