/- A part of the proof: see YtaabbaemfnecgaaGreatLawSeqNexts. -/
import Derived.LaidEqlPtr
import Derived.WalkSpells
import Derived.Test.YtaabbaemfnecgaaGreatC8
set_option linter.unusedVariables false
set_option linter.unusedSimpArgs false
set_option maxHeartbeats 32000000
set_option maxRecDepth 100000
namespace Go.Proofs.YtaabbaemfnecgaaGreat.T
open Go.RowKit Go.Proofs.YtaabbaemfnecgaaGreatW.PrintWords Go.Proofs.YtaabbaemfnecgaaGreatW.PrintLast Go.Proofs.YtaabbaemfnecgaaGreatW.PrintMore
attribute [local go_sem] Tryz.underlying24 Tryz.underlying27 Tryz.underlying29 Tryz.underlying38 Tryz.underlying45 Tryz.underlying49 Tryz.underlying58 Tryz.underlying59 Tryz.underlying60 Tryz.underlying69 Tryz.underlying71 Tryz.underlying77 Tryz.underlying107 Tryz.underlying148
section
open Go.Proofs.YtaabbaemfnecgaaGreat.V
theorem find_calls (A0 : Option Addr) (c0 : Nat) (w : World) (hr0 : Kd.C k71 w A0 3 L3) :
  Calls Tryz.prog 152 #[.slice A0 3 c0, .int .i64 4] w (RB w (.tuple #[.int .i64 3, .bool false])) := by
 have HR := Am hr0
 clear hr0
 go_enter Tryz.func152, Tryz.ntmps152
 go_wp2_with (fail)
 refine (bsf_calls A0 c0 _ HR.out).mono ?_
 exact dd86
theorem Find_calls (A0 : Option Addr) (c0 : Nat) (w : World) (hr0 : Kd.C k71 w A0 3 L3) (hc0 : 3 ≤ c0) :
  Calls Tryz.prog 100 #[.slice A0 3 c0, .int .i64 4] w (RB w (.tuple #[.int .i64 3, .bool false, .int .i64 0])) := by
 have HR := Am hr0
 have HC := Am hc0
 clear hr0 hc0
 go_enter Tryz.func100, Tryz.ntmps100
 go_wp2_with (fail)
 refine (model_Check.calls 9 A0 c0 L3 0 _ HR.out HC.out (by decide +kernel)).mono ?_
 rintro _ w1 ⟨rfl, hd⟩
 have HB := Am hd.below
 clear hd
 go_wp2_with (fail)
 refine (find_calls A0 c0 _ (Kd.C_below HR.out HB.out)).mono ?_
 rintro _ w2 ⟨rfl, hb⟩
 have HB2 := Am (bel_t HB.out hb)
 clear hb HB
 go_wp2
 refine bodyPost_ret (results_tmp3 rfl _ _ _) rfl ?_
 exact ⟨rfl, HB2.out⟩
theorem kM71 {W : World} {base : Nat} {ok : Nat → Prop} (x : S71) (cs : List Value) (h : k71.K W x cs) : k71.M W base ok x cs := by
 obtain rfl := k71_open h
 exact k71_mkM _ _ _ x
theorem insert_calls (A0 : Option Addr) (c0 B : Nat) (A1 : Option Addr) (w : World) (hB : B ≤ w.heap.size) (hr0 : Kd.R k71 71 w B (fun _ => True) (.slice A0 3 c0) L3) (hr1 : Kd.C k71 w A1 1 [⟨4, 40⟩]) (ob : Option Nat) (hob : (Value.slice A0 3 c0).ownBlock = ob) :
  Calls Tryz.prog 164 #[.slice A0 3 c0, .int .i64 3, .slice A1 1 1] w fun e w' => ∃ v, e = .returned v ∧ Below B w w' ∧ w.grownBy w' ob := by
 have HR := Am hr0
 have HV := Am hr1
 have HOB := Am hob
 have HB := Am hB
 obtain ⟨i3, hi3, _, hsz3, _⟩ := info_parts info71
 have hcut := cut_from (P := Tryz.prog) 27 71 .i64 Tryz.underlying27 hi3 2 hsz3 A0 3 c0 3 (by decide) (by decide)
 clear hr0 hr1 hB hob
 go_enter Tryz.func164, Tryz.ntmps164
 go_wp2_with ((with_reducible refine gate_builtin (b := .append) (xs := #[.tmp 23, .tmp 24]) rfl ?_); at_builtin; refine Kd.R_append_rows k71 (w0 := w) B rfl (.tmp 23) (.tmp 24) 27 71 (.agg #[.int .i64 0, .int .i64 0]) 16 rfl Tryz.underlying27 info71 rfl (by decide) (by decide) (.slice A0 3 c0) L3 [⟨4, 40⟩] A1 1 1 (fun _ => True) (fun _ => False) rfl rfl HR.out HV.out kM71 (fun _ h => h.elim) (fun _ _ => trivial) (Below.refl _ _) HB.out (by decide) ?_; intro v1 w1 ho hb hg hat; have HBW := Am hb; have HGR := Am (show w.grownBy w1 ob by rw [← HOB.out]; exact hg); clear ho hb hg hat)
 all_goals (go_ret; exact ⟨⟨_, rfl⟩, HBW.out, HGR.out⟩)
theorem c1_new (w : World) : Kd.C k71 (w.alloc (.cells #[.int .i64 4, .int .i64 40] 71 (0, 0))) (some ⟨w.heap.size, 0, none⟩) 1 [⟨4, 40⟩] := by
 refine ⟨rfl, by decide, fun _ => ⟨_, rfl, fun j p hp => ?_⟩⟩
 cases j with
 | succ j => simp at hp
 | zero =>
  obtain rfl := Option.some.inj hp
  refine ⟨[.int .i64 4, .int .i64 40], rfl, k71_mk _ ⟨4, 40⟩, fun i u hu => ?_⟩
  rcases i with _ | _ | i
  ·exact dd94
  ·exact dd94
  ·simp at hu
theorem bx3 {w : World} {g : Nat} {t : TypeId} {a b c d : Value} (h : w.heap[g]? = some (.cells #[a, b, c, d] t (0, 0))) : w.cell? ⟨g, 0, none⟩ = some a ∧ w.cell? ⟨g, 1, none⟩ = some b ∧ w.cell? ⟨g, 2, none⟩ = some c ∧ w.cell? ⟨g, 3, none⟩ = some d := ⟨blk_cell h 0, blk_cell h 1, blk_cell h 2, blk_cell h 3⟩
theorem bx4 {w : World} {g : Nat} {t : TypeId} {a b c d : Value} (h : w.heap[g]? = some (.cells #[a, b, c, d] t (0, 0))) : w.cell? ⟨g, 0, none⟩ = some a ∧ w.cell? ⟨g, 1, none⟩ = some b ∧ w.cell? ⟨g, 2, none⟩ = some c ∧ w.cell? ⟨g, 3, none⟩ = some d ∧ w.frozen? ⟨g, 0, none⟩ = false ∧ w.frozen? ⟨g, 1, none⟩ = false ∧ w.frozen? ⟨g, 2, none⟩ = false ∧ w.frozen? ⟨g, 3, none⟩ = false := ⟨blk_cell h 0, blk_cell h 1, blk_cell h 2, blk_cell h 3, blk_frozen h 0, blk_frozen h 1, blk_frozen h 2, blk_frozen h 3⟩
theorem do_calls (A0 : Option Addr) (c0 B : Nat) (w : World) (hB : B ≤ w.heap.size) (hr0 : Kd.R k71 71 w B (fun _ => True) (.slice A0 3 c0) L3) :
  Calls Tryz.prog 141 #[.slice A0 3 c0, .agg #[.int .i64 2, .int .i64 4, .int .i64 40, .int .i64 0]] w fun e w' => ∃ v, e = .returned (.tuple #[v, .agg #[.bool false, .int .i64 0, .int .i64 0, .slice none 0 0]]) ∧ Below B w w' ∧ (∀ (k : Nat) (cs : Array Value) (t : TypeId), w.heap[k]? = some (.cells cs t (0, 0)) → some k ≠ (Value.slice A0 3 c0).ownBlock → w'.heap[k]? = some (.cells cs t (0, 0))) := by
 have HR := Am hr0
 have HBB := Am hB
 have HB := Br w
 clear hr0 hB
 go_enter Tryz.func141, Tryz.ntmps141
 go_wp2_with (first | ((with_reducible refine Gd 3 rfl ?_); refine bF 3 HB.out (cs := #[.int .i64 2, .int .i64 4, .int .i64 40, .int .i64 0]) (t := 24) ?_; clear HB; intro ga w_ga GX_ga GE_ga HK_ga HB BB_ga) | ((with_reducible refine Gd 5 rfl ?_); refine bF 5 HB.out (cs := #[.bool false, .int .i64 0, .int .i64 0, .slice none 0 0]) (t := 29) ?_; clear HB; intro gb w_gb GX_gb GE_gb HK_gb HB BB_gb; have HK1 := Am (blkB BB_gb.out HK_ga.out); obtain ⟨x0, x1, x2, x3⟩ := bx3 HK1.out))
 refine (model_Changes.calls 2 true _ (by decide +kernel)).mono ?_
 rintro _ w1 ⟨rfl, hd⟩
 have HA1 := Am (blkB hd.below HK1.out)
 have HG1 := Am (blkB hd.below HK_gb.out)
 have HB1 := Am (bel_t HB.out hd.below)
 clear hd x0 x1 x2 x3 HK1 HK_gb HK_ga HB BB_ga BB_gb
 obtain ⟨x0, x1, x2, x3⟩ := bx3 HA1.out
 go_wp2_with (fail)
 refine (find_calls A0 c0 _ (Kd.C_below (Kd.R_reads' HR.out).2.2 HB1.out)).mono ?_
 rintro _ w2 ⟨rfl, hb⟩
 have HA2 := Am (blkB hb HA1.out)
 have HG2 := Am (blkB hb HG1.out)
 have HB2 := Am (bel_t HB1.out hb)
 clear hb x0 x1 x2 x3 HA1 HG1 HB1
 obtain ⟨x0, x1, x2, x3⟩ := bx3 HA2.out
 have HB0 := HB2
 go_wp2_with (first | ((with_reducible refine Gd 8 rfl ?_); refine bF 8 HB2.out (cs := #[.bool false, .int .i64 0, .int .i64 0, .slice none 0 0]) (t := 29) ?_; clear HB2; intro gc w_gc GX_gc GE_gc HK_gc HB2 BB_gc; have HA3 := Am (blkB BB_gc.out HA2.out); clear x0 x1 x2 x3; obtain ⟨x0, x1, x2, x3⟩ := bx3 HA3.out; obtain ⟨y0, y1, y2, y3, f0, f1, f2, f3⟩ := bx4 HK_gc.out) | ((with_reducible refine Gd 40 rfl ?_); refine gen_l (fun W => W.heap[gc]? = some (.cells #[.bool false, .int .i64 0, .int .i64 0, .slice none 0 0] 29 (0, 0)) ∧ Below w2.heap.size w2 W) ⟨blk_put (cs := #[.bool false, .int .i64 0, .int .i64 0, .slice none 0 0]) HK_gc.out 0 _ rfl, below_set BB_gc.out GX_gc.out⟩ ?_; rintro w3 ⟨hk, hb⟩; have HNE := Am (show ¬ (gc = gb) by (intro e; have h1 := GX_gc.out; have h2 := blk_lt HG2.out; omega)); have HC3 := Am hk; have HA4 := Am (blkB hb HA2.out); have HG4 := Am (blkB hb HG2.out); have HB4 := Am (bel_t HB0.out hb); clear hk hb x0 x1 x2 x3 y0 y1 y2 y3 f0 f1 f2 f3 HK_gc HA3 HB2 HB0 BB_gc GX_gc; obtain ⟨x0, x1, x2, x3⟩ := bx3 HA4.out))
 have hal : Below w3.heap.size w3 (w3.alloc (.cells #[.int .i64 4, .int .i64 40] 71 (0, 0))) := (Below.refl _ _).alloc (Nat.le_refl _) _
 refine (insert_calls A0 c0 B _ _ (by have := HBB.out; have := HB4.out.size; have := hal.size; omega) (Kd.R_below HR.out (bel_t HB4.out hal)) (c1_new w3) _ rfl).mono ?_
 rintro _ w5 ⟨v5, rfl, hb5, hg5⟩
 have HB5 := Am (((bel_t HB4.out hal).mono HBB.out).trans hb5)
 have HC5 := Am (grown_blk hg5 (blkB hal HC3.out) (own_ne HR.out GE_gc.out))
 have HG5 := Am (grown_blk hg5 (blkB hal HG4.out) (own_ne HR.out GE_gb.out))
 have HKP := Am (show (∀ (k : Nat) (cs : Array Value) (t : TypeId), w.heap[k]? = some (.cells cs t (0, 0)) → some k ≠ (Value.slice A0 3 c0).ownBlock → w5.heap[k]? = some (.cells cs t (0, 0))) from fun k cs t h hne => grown_blk hg5 (blkB hal (blkB HB4.out h)) hne)
 have HGB := Am (show B ≤ gb by have := HBB.out; have := GE_gb.out; omega)
 clear hb5 hg5 hal HB4 HC3 HG4 HA4 x0 x1 x2 x3
 go_wp2
 refine sT 4 [] (S := fun W => W.heap[gc]? = some (.cells #[.bool false, .int .i64 0, .int .i64 0, .slice none 0 0] 29 (0, 0)) ∧ W.heap[gb]? = some (.cells #[.bool false, .int .i64 0, .int .i64 0, .slice none 0 0] 29 (0, 0)) ∧ Below B w W ∧ (∀ (k : Nat) (cs : Array Value) (t : TypeId), w.heap[k]? = some (.cells cs t (0, 0)) → some k ≠ (Value.slice A0 3 c0).ownBlock → W.heap[k]? = some (.cells cs t (0, 0)))) ⟨blkB ((Below.refl _ _).drew) HC5.out, blkB ((Below.refl _ _).drew) HG5.out, HB5.out.drew, fun k cs t h hne => blkB ((Below.refl _ _).drew) (HKP.out k cs t h hne)⟩ fun hHeld => ?_
 refine gen_any (fun W => W.heap[gc]? = some (.cells #[.bool false, .int .i64 0, .int .i64 0, .slice none 0 0] 29 (0, 0)) ∧ W.heap[gb]? = some (.cells #[.bool false, .int .i64 0, .int .i64 0, .slice none 0 0] 29 (0, 0)) ∧ Below B w W ∧ (∀ (k : Nat) (cs : Array Value) (t : TypeId), w.heap[k]? = some (.cells cs t (0, 0)) → some k ≠ (Value.slice A0 3 c0).ownBlock → W.heap[k]? = some (.cells cs t (0, 0)))) hHeld (fun w6 hHeld => ?_)
 refine pu 0 76 ?_
 refine ta 1 77 hHeld (hy := by intro w' hs; obtain ⟨y0, y1, y2, y3, -⟩ := bx4 hs.1; exact gz) ?_
 refine pu 2 4 ?_
 obtain ⟨y0, y1, y2, y3, f0, f1, f2, f3⟩ := bx4 hHeld.2.1
 refine on0 3 (fun K hK => ?_)
 refine sk ?_
 refine hK.out _ _ ⟨by with_reducible repeat (first | exact hHeld.1 | refine blk_far ?_ HNE.out _), bp4 hHeld.2.1, by with_reducible repeat (first | exact hHeld.2.2.1 | refine Below.setCell ?_ HGB.out _), fun k cs t h hne => by have hkb : ¬ (k = gb) := (by have h1 := blk_lt h; have h2 := GE_gb.out; omega); repeat (first | exact hHeld.2.2.2 k cs t h hne | refine blk_far ?_ hkb _)⟩ (fun hHeld => ?_)
 clear hK K y0 y1 y2 y3 f0 f1 f2 f3
 refine done_ (by kernel_rfl) ?_
 go_wp2
 refine bodyPost_ret (results_tc rfl _ _ gb 29 #[.bool false, .int .i64 0, .int .i64 0, .slice none 0 0] (0, 0) _ rfl hHeld.2.1 Tryz.underlying29 rfl (by kernel_rfl)) rfl ?_
 exact ⟨_, rfl, hHeld.2.2.1, hHeld.2.2.2⟩
end
section
open Go.Proofs.YtaabbaemfnecgaaGreat.V
theorem t1_check : seq_Check.f 40 T1 = some 0 := by kernel_rfl
theorem t1_norm : table_Norm.f 40 T1 = some (T1, 0) := by kernel_rfl
theorem asked_calls (A0 : Option Addr) (c0 g : Nat) (w : World) (hr0 : Kd.C k69 w A0 9 T1) (hc0 : 9 ≤ c0) (hg : w.heap[g]? = some (.cells #[.int .i64 2, .int .i64 4, .int .i64 40, .int .i64 0] 24 (0, 0))) :
  Calls Tryz.prog 50 #[.slice A0 9 c0, .slice (some ⟨g, 0, none⟩) 1 1] w fun e w' => ∃ v, e = .returned (.tuple #[v, .int .i64 0]) ∧ Kd.R k69 69 w' w.heap.size (fun _ => True) v T1 ∧ Below w.heap.size w w' := by
 have HR := Am hr0
 have HC := Am hc0
 have HG := Am hg
 clear hr0 hc0 hg
 go_enter Tryz.func50, Tryz.ntmps50
 go_wp2_with (fail)
 refine (seq_Check.calls 40 A0 c0 T1 0 _ HR.out HC.out t1_check).mono ?_
 rintro _ w1 ⟨rfl, hb⟩
 have HB := Am hb
 clear hb
 go_wp2
 go_loopg [20] 3 (fun kq v20 w' => ((kq = 3 ∧ v20 = .int .i64 0) ∨ (kq = 2 ∧ v20 = .int .i64 1)) ∧ Aside0 (Below w.heap.size w w'))
 case atStart => exact ⟨.inl ⟨rfl, rfl⟩, HB⟩
 case round =>
  clear HB
  obtain ⟨ho, HB⟩ := hrel
  rcases ho with ⟨rfl, rfl⟩ | ⟨rfl, rfl⟩
  ·obtain ⟨x0, x1, x2, x3⟩ := bx3 (blkB HB.out HG.out)
   go_wp2_with (first | ((with_reducible refine Gd 8 rfl ?_); refine bF 8 HB.out (cs := #[.int .i64 0, .int .i64 0, .int .i64 0, .int .i64 0]) (t := 24) ?_; clear HB; intro g9 w_g9 GX_g9 GE_g9 HK_g9 HB BB_g9; clear x0 x1 x2 x3; obtain ⟨x0, x1, x2, x3⟩ := bx3 (blkB HB.out HG.out); obtain ⟨y0, y1, y2, y3, f0, f1, f2, f3⟩ := bx4 HK_g9.out) | ((with_reducible refine Gd 25 rfl ?_); refine gen_l (fun W => W.heap[g9]? = some (.cells #[.int .i64 2, .int .i64 4, .int .i64 40, .int .i64 0] 24 (0, 0)) ∧ Below w.heap.size w W) ⟨bp4 HK_g9.out, by with_reducible repeat (first | exact HB.out | refine below_set ?_ GE_g9.out)⟩ ?_; rintro w3 ⟨hk, hb⟩; have HK2 := Am hk; have HB2 := Am hb; clear hk hb x0 x1 x2 x3 y0 y1 y2 y3 f0 f1 f2 f3 HK_g9 HB BB_g9 GX_g9; obtain ⟨y0, y1, y2, y3⟩ := bx3 HK2.out))
   exact dd47
  ·go_wp2_with (fail)
   refine (table_Norm.calls 40 A0 c0 T1 T1 0 _ (Kd.C_below HR.out HB.out) HC.out t1_norm).mono ?_
   rintro _ w5 ⟨v5, rfl, hR5, hb5⟩
   have HB5 := Am (bel_t HB.out hb5)
   have HR5 := Am (Kd.R_lower hR5 HB.out.size)
   clear hR5 hb5 HB
   go_wp2
   go_ret2
   exact ⟨_, rfl, HR5.out, HB5.out⟩
end
section
variable {S : Nat → Prop}
def ndL (n : S69) : List Value := [.int .i64 n.f0, .int .i64 n.f1, .int .i64 n.f2, .int .i64 n.f3, .int .i64 n.f4, .int .i64 n.f5]
def rowL (xs : List S69) : List Value := xs.flatMap ndL
def itL (L : List (Option Addr × Int)) : List Value := L.flatMap fun x => [.pointer x.1, .int .i64 x.2]
def sizeT : Tr → Nat
 | .nil => 0
 | .node _ _ l r => 1 + sizeT l + sizeT r
def Full : Tr → Prop
 | .nil => False
 | .node _ _ .nil .nil => True
 | .node _ _ .nil (.node ..) => False
 | .node _ _ (.node ..) .nil => False
 | .node _ _ (.node n p l r) (.node n' p' l' r') => Full (.node n p l r) ∧ Full (.node n' p' l' r')
def flatT : Tr → Nat → List S69
 | .nil, _ => []
 | .node n _ .nil _, _ => [n]
 | .node n _ (.node n' p' l' r') r, at_ => ⟨n.f0, n.f1, n.f2, n.f3, at_ + 1, at_ + 1 + sizeT (.node n' p' l' r')⟩ :: (flatT (.node n' p' l' r') (at_ + 1) ++ flatT r (at_ + 1 + sizeT (.node n' p' l' r')))
def setR (xs : List S69) (j : Int) (v : Int) : List S69 := if 0 ≤ j then xs.set j.toNat (let n := xs.getD j.toNat z69; ⟨n.f0, n.f1, n.f2, n.f3, n.f4, v⟩) else xs
def finT (xs : List S69) : List (Tr × Int) → List S69
 | [] => xs
 | (T, j) :: rs => finT (setR xs j xs.length ++ flatT T xs.length) rs
def Items (S : Nat → Prop) (w : World) : List (Option Addr × Int) → List (Tr × Int) → Prop
 | [], [] => True
 | (p, i) :: L, (T, j) :: rs => i = j ∧ Rep S w (.pointer p) T ∧ Full T ∧ Items S w L rs
 | _, _ => False
def sizeR : List (Tr × Int) → Nat
 | [] => 0
 | (T, _) :: rs => sizeT T + sizeR rs
structure FlatInv (S : Nat → Prop) (w W : World) (R : List S69) (N : Nat) (vs vo : Value) (k : Nat) (L : List (Option Addr × Int)) (rs : List (Tr × Int)) (xs : List S69) : Prop where
 fin : finT xs rs = R
 items : Items S w L rs
 size : xs.length + sizeR rs = N
 own : W.ownsRow w.heap.size 190 2 vs L.length (itL L.reverse)
 out : W.ownsRow w.heap.size 69 6 vo xs.length (rowL xs)
 bel : Below w.heap.size w W
 meas : sizeR rs < k
 par : ∀ x, x ∈ rs → -1 ≤ x.2 ∧ x.2 < (xs.length : Int)
theorem flat_start {w : World} {p : Option Addr} {T : Tr} (h : Rep S w (.pointer p) T) (hf : Full T) :
  FlatInv S w (w.alloc (.cells #[.pointer p, .int .i64 (-1)] 190)) (flatT T 0) (sizeT T) (.slice (some ⟨w.heap.size, 0, none⟩) 1 1) (.slice none 0 0) (sizeT T + 1) [(p, -1)] [(T, -1)] [] := by
 refine ⟨?_, ⟨rfl, h, hf, trivial⟩, by simp [sizeR], ?_, ⟨rfl, .inl ⟨rfl, rfl⟩⟩, (Below.refl _ _).alloc (Nat.le_refl _) _, by simp [sizeR], ?_⟩
 ·simp [finT, setR]
 ·refine ⟨rfl, .inr ⟨w.heap.size, 1, #[.pointer p, .int .i64 (-1)], rfl, Nat.le_refl _, heap_alloc_new w _, by simp, by simp [maxLen], rfl, rfl⟩⟩
 ·intro x hx
  simp at hx
  subst hx
  simp
theorem itL_len (L : List (Option Addr × Int)) : (itL L).length = L.length * 2 := by
 induction L with
 | nil => rfl
 | cons x L ih => simp [itL] at ih ⊢; omega
theorem rowL_len (L : List S69) : (rowL L).length = L.length * 6 := by
 induction L with
 | nil => rfl
 | cons x L ih => simp [rowL, ndL] at ih ⊢; omega
theorem itL_app (A B : List (Option Addr × Int)) : itL (A ++ B) = itL A ++ itL B := by simp [itL]
theorem rowL_app (A B : List S69) : rowL (A ++ B) = rowL A ++ rowL B := by simp [rowL]
theorem flat_top {w W : World} {R : List S69} {N : Nat} {vs vo : Value} {k : Nat} {p : Option Addr} {i : Int} {L : List (Option Addr × Int)} {rs : List (Tr × Int)} {xs : List S69} (h : FlatInv S w W R N vs vo k ((p, i) :: L) rs xs) :
  ∃ gs cs, vs = .slice (some ⟨gs, 0, none⟩) (L.length + 1) cs ∧ w.heap.size ≤ gs ∧ gs < W.heap.size ∧ L.length + 1 ≤ cs ∧ W.cell? ⟨gs, L.length * 2, none⟩ = some (.pointer p) ∧ W.cell? ⟨gs, L.length * 2 + 1, none⟩ = some (.int .i64 i) := by
 have ho := h.own
 simp only [List.length_cons, List.reverse_cons, itL_app] at ho
 rcases ho.2 with ⟨_, h0⟩ | ⟨g, cap, cur, hv, hb, hg, hnc, hcm, hcs, ht⟩
 ·omega
 ·subst hv
  refine ⟨g, cap, rfl, hb, (Array.getElem?_eq_some_iff.1 hg).1, hnc, ?_, ?_⟩
  ·rw [ho.cellAt _ (by omega), List.getElem?_append_right (by rw [itL_len, List.length_reverse]; omega), itL_len, List.length_reverse]; simp [itL]
  ·rw [ho.cellAt _ (by omega), List.getElem?_append_right (by rw [itL_len, List.length_reverse]; omega), itL_len, List.length_reverse, show L.length * 2 + 1 - L.length * 2 = 1 by omega]; simp [itL]
theorem full_pos : ∀ {T : Tr}, Full T → 0 < sizeT T
 | .nil, h => h.elim
 | .node .., _ => by simp [sizeT]; omega
theorem items_len {w : World} : ∀ {L : List (Option Addr × Int)} {rs : List (Tr × Int)}, Items S w L rs → L.length ≤ sizeR rs
 | [], [], _ => Nat.zero_le _
 | (_, _) :: _, (_, _) :: _, h => by
  have h1 := full_pos h.2.2.1
  have h2 := items_len h.2.2.2
  simp [sizeR]
  omega
 | [], _ :: _, h => h.elim
 | _ :: _, [], h => h.elim
theorem info190 : (Tryz.prog.info? 190).map (fun i => (i.zero, i.size, i.bytes)) = some (some (.agg #[.pointer none, .int .i64 0]), 2, 16) := by kernel_rfl
def FlatPost (w : World) (T : Tr) (e : Ending) (w' : World) : Prop := ∃ v0, e = .returned v0 ∧ Kd.R k69 69 w' w.heap.size (fun _ => True) v0 (flatT T 0) ∧ Below w.heap.size w w'
theorem flat_nil {w W : World} {R : List S69} {N : Nat} {vs vo : Value} {k : Nat} {rs : List (Tr × Int)} {xs : List S69} (h : FlatInv S w W R N vs vo k [] rs xs) : ∃ A c, vs = .slice A 0 c := by
 rcases h.own.2 with ⟨rfl, _⟩ | ⟨g, cap, cur, rfl, _⟩
 ·exact ⟨_, _, rfl⟩
 ·exact ⟨_, _, rfl⟩
theorem reps_rowL : ∀ (xs : List S69) (j : Nat) (p : S69), xs[j]? = some p → ((rowL xs).drop (j * 6)).take 6 = ndL p := by
 intro xs
 induction xs with
 | nil => intro j p h; simp at h
 | cons x xs ih =>
  intro j p h
  cases j with
  | zero => simp at h; subst h; simp [rowL, ndL]
  | succ j =>
   simp at h
   have := ih j p h
   rw [show (j + 1) * 6 = 6 + j * 6 by omega, show rowL (x :: xs) = ndL x ++ rowL xs from rfl, List.drop_append]
   simp only [show (ndL x).length = 6 from rfl, show 6 + j * 6 - 6 = j * 6 by omega, List.drop_eq_nil_of_le (show (ndL x).length ≤ 6 + j * 6 by simp [ndL]), List.nil_append]
   exact this
theorem row_R {W : World} {base : Nat} {v : Value} {xs : List S69} (h : W.ownsRow base 69 6 v xs.length (rowL xs)) : Kd.R k69 69 W base (fun _ => True) v xs :=
 ⟨fun _ _ => trivial, rowL xs, h, ⟨rowL_len xs, fun j p hj => by rw [show k69.sz = 6 from rfl, reps_rowL xs j p hj]; exact k69_mkM _ _ _ p⟩⟩
theorem flat_end {w W : World} {T : Tr} {N : Nat} {vs vo : Value} {k : Nat} {rs : List (Tr × Int)} {xs : List S69} (h : FlatInv S w W (flatT T 0) N vs vo k [] rs xs) : FlatPost w T (.returned vo) W := by
 have h1 := h.items
 cases rs with
 | cons r rs => exact h1.elim
 | nil =>
  have h2 := h.fin
  simp only [finT] at h2
  subst h2
  exact ⟨vo, rfl, row_R h.out, h.bel⟩
theorem flat_node {w W : World} {R : List S69} {N : Nat} {vs vo : Value} {k : Nat} {p : Option Addr} {i j : Int} {L : List (Option Addr × Int)} {T : Tr} {rs : List (Tr × Int)} {xs : List S69} (h : FlatInv S w W R N vs vo k ((p, i) :: L) ((T, j) :: rs) xs) :
  ∃ n pl l r b vl vr, T = .node n pl l r ∧ p = some ⟨b, 0, none⟩ ∧ W.heap[b]? = some (.cells (ndCells n pl vl vr) 126 (0, 0)) ∧ b < w.heap.size ∧ Rep S w vl l ∧ Rep S w vr r := by
 obtain ⟨_, hr, hf, _⟩ := h.items
 cases T with
 | nil => exact hf.elim
 | node n pl l r =>
  obtain ⟨b, vl, vr, e, hb, hl, hr, _⟩ := hr
  have hlt := (Array.getElem?_eq_some_iff.1 hb).1
  injection e with e
  exact ⟨n, pl, l, r, b, vl, vr, rfl, e, (h.bel.block b hlt).trans hb, hlt, hl, hr⟩
theorem flat_pop {w W : World} {R : List S69} {N : Nat} {gs cs : Nat} {vo : Value} {k : Nat} {p : Option Addr} {i : Int} {L : List (Option Addr × Int)} {rs : List (Tr × Int)} {xs : List S69} (h : FlatInv S w W R N (.slice (some ⟨gs, 0, none⟩) (L.length + 1) cs) vo k ((p, i) :: L) rs xs) :
  W.ownsRow w.heap.size 190 2 (.slice (some ⟨gs, 0, none⟩) L.length cs) L.length (itL L.reverse) := by
 have h1 := h.own
 simp only [List.length_cons] at h1
 have h2 := own_take (m := L.length) h1 (by omega)
 rw [List.reverse_cons, itL_app, List.take_append_of_le_length (by rw [itL_len, List.length_reverse]; exact Nat.le_refl _), List.take_of_length_le (by rw [itL_len, List.length_reverse]; exact Nat.le_refl _)] at h2
 exact h2
theorem rowL_set (xs : List S69) (j : Int) (v : Int) (h0 : 0 ≤ j) (h1 : j < xs.length) : (rowL xs).set (j.toNat * 6 + 5) (.int .i64 v) = rowL (setR xs j v) := by
 obtain ⟨m, rfl⟩ := Int.eq_ofNat_of_zero_le h0
 simp only [setR, if_pos h0, Int.toNat_natCast]
 have hm : m < xs.length := by omega
 clear h0 h1
 induction xs generalizing m with
 | nil => simp at hm
 | cons x xs ih =>
  cases m with
  | zero => simp [rowL, ndL]
  | succ m =>
   have h3 := ih m (by simpa using hm)
   have e1 : rowL (x :: xs) = ndL x ++ rowL xs := rfl
   have e2 : (ndL x).length = 6 := rfl
   rw [e1, List.set_append_right _ _ (by rw [e2]; omega), e2, show (m + 1) * 6 + 5 - 6 = m * 6 + 5 by omega, h3, sS]
   rfl
theorem setR_len (xs : List S69) (j v : Int) : (setR xs j v).length = xs.length := by unfold setR; split <;> simp
structure Mid (w W1 : World) (gs cs : Nat) (vo : Value) (L : List (Option Addr × Int)) (xs1 : List S69) : Prop where
 own : W1.ownsRow w.heap.size 190 2 (.slice (some ⟨gs, 0, none⟩) L.length cs) L.length (itL L.reverse)
 out : W1.ownsRow w.heap.size 69 6 vo xs1.length (rowL xs1)
 bel : Below w.heap.size w W1
theorem flat_mid0 {w W : World} {R : List S69} {N : Nat} {gs cs : Nat} {vo : Value} {k : Nat} {p : Option Addr} {i : Int} {L : List (Option Addr × Int)} {T : Tr} {rs : List (Tr × Int)} {xs : List S69} (h : FlatInv S w W R N (.slice (some ⟨gs, 0, none⟩) (L.length + 1) cs) vo k ((p, i) :: L) ((T, i) :: rs) xs) (hi : ¬ 0 ≤ i) :
  Mid w W gs cs vo L (setR xs i xs.length) := ⟨flat_pop h, by rw [setR, if_neg hi]; exact h.out, h.bel⟩
theorem flat_mid1 {w W : World} {R : List S69} {N : Nat} {gs cs : Nat} {vo : Value} {k : Nat} {p : Option Addr} {i : Int} {L : List (Option Addr × Int)} {T : Tr} {rs : List (Tr × Int)} {xs : List S69} (h : FlatInv S w W R N (.slice (some ⟨gs, 0, none⟩) (L.length + 1) cs) vo k ((p, i) :: L) ((T, i) :: rs) xs) (hi : 0 ≤ i) :
  i < (xs.length : Int) ∧ ∃ go co, vo = .slice (some ⟨go, 0, none⟩) xs.length co ∧ go < W.heap.size ∧ (∃ u, W.cell? ⟨go, i.toNat * 6 + 5, none⟩ = some u) ∧ W.frozen? ⟨go, i.toNat * 6 + 5, none⟩ = false ∧ go ≠ gs ∧ w.heap.size ≤ go ∧
   Mid w (W.setCell ⟨go, i.toNat * 6 + 5, none⟩ (.int .i64 xs.length)) gs cs (.slice (some ⟨go, 0, none⟩) xs.length co) L (setR xs i xs.length) := by
 have hlt := (h.par (T, i) (by simp)).2
 simp only at hlt
 obtain ⟨go, co, hv, hbo, hgl⟩ := h.out.form (by omega)
 subst hv
 have ho := h.out
 have hne : go ≠ gs := by
  rcases own_type_ne ho h.own (by decide) with e | e
  ·simp [Value.ownBlock] at e
  ·intro he; subst he; exact e rfl
 have hs := ho.stored (i.toNat * 6 + 5) (.int .i64 xs.length)
 rw [rowL_set xs i _ hi hlt] at hs
 refine ⟨hlt, go, co, rfl, hgl, ⟨_, (ho.cellAt _ (by omega)).trans (List.getElem?_eq_getElem (by rw [rowL_len]; omega))⟩, ho.frozenAt _, hne, hbo, ⟨?_, ?_, h.bel.setCell hbo _⟩⟩
 ·refine (flat_pop h).kept hs.2 (.inr ?_)
  intro e
  simp [Value.ownBlock] at e
  exact hne e.symm
 ·rw [setR_len]; exact hs.1
theorem flat_fin_leaf {R : List S69} {n : S69} {pl : Int} {r : Tr} {i : Int} {rs : List (Tr × Int)} {xs : List S69} (h : finT xs ((.node n pl .nil r, i) :: rs) = R) : finT (setR xs i xs.length ++ [n]) rs = R := h
theorem finT_app (xs : List S69) (T : Tr) (rs : List (Tr × Int)) : finT xs ((T, -1) :: rs) = finT (xs ++ flatT T xs.length) rs := by simp [finT, setR]
theorem setR_mid (A : List S69) (m : S69) (F : List S69) (j v : Int) (hj : j = A.length) : setR (A ++ m :: F) j v = A ++ ⟨m.f0, m.f1, m.f2, m.f3, m.f4, v⟩ :: F := by
 subst hj
 rw [setR, if_pos (by omega), Int.toNat_natCast, List.set_append_right _ _ (Nat.le_refl _)]
 simp [List.getD_eq_getElem?_getD]
theorem flat_fin_inner {R : List S69} {n n1 : S69} {pl p1 : Int} {l1 r1 r : Tr} {i : Int} {rs : List (Tr × Int)} {xs : List S69} (hs : (flatT (.node n1 p1 l1 r1) (xs.length + 1)).length = sizeT (.node n1 p1 l1 r1)) (h : finT xs ((.node n pl (.node n1 p1 l1 r1) r, i) :: rs) = R) :
  finT (setR xs i xs.length ++ [⟨n.f0, n.f1, n.f2, n.f3, (xs.length : Int) + 1, n.f5⟩]) ((.node n1 p1 l1 r1, -1) :: (r, (xs.length : Int)) :: rs) = R := by
 rw [← h, finT_app]
 generalize hT : Tr.node n1 p1 l1 r1 = T1 at hs
 simp only [finT]
 congr 1
 have hl : (setR xs i xs.length ++ [(⟨n.f0, n.f1, n.f2, n.f3, (xs.length : Int) + 1, n.f5⟩ : S69)]).length = xs.length + 1 := by simp [setR_len]
 rw [hl, List.append_assoc, List.singleton_append, setR_mid _ _ _ _ _ (by rw [setR_len])]
 subst hT
 simp only [flatT, List.length_append, setR_len, List.length_cons, hs, List.append_assoc, List.cons_append]
 congr 3
 ·congr 1
  push_cast
  omega
 ·congr 1
  omega
theorem flatT_len : ∀ (T : Tr) (a : Nat), Full T → (flatT T a).length = sizeT T
 | .nil, _, h => h.elim
 | .node _ _ .nil .nil, _, _ => rfl
 | .node _ _ .nil (.node ..), _, h => h.elim
 | .node _ _ (.node ..) .nil, _, h => h.elim
 | .node _ _ (.node n p l r) (.node n' p' l' r'), a, h => by
  have h1 := flatT_len (.node n p l r) (a + 1) h.1
  have h2 := flatT_len (.node n' p' l' r') (a + 1 + sizeT (.node n p l r)) h.2
  rw [flatT, List.length_cons, List.length_append, h1, h2]
  simp only [sizeT]
  omega
theorem flat_leaf {w wr W1 W2 W3 : World} {R : List S69} {N : Nat} {gs cs : Nat} {vo v' : Value} {k : Nat} {p : Option Addr} {i : Int} {n : S69} {pl : Int} {r : Tr} {L : List (Option Addr × Int)} {rs : List (Tr × Int)} {xs : List S69}
  (h : FlatInv S w wr R N (.slice (some ⟨gs, 0, none⟩) (L.length + 1) cs) vo k ((p, i) :: L) ((.node n pl .nil r, i) :: rs) xs)
  (hm : Mid w W1 gs cs vo L (setR xs i xs.length)) (hb2 : Below W1.heap.size W1 W2)
  (hown : W3.ownsRow w.heap.size 69 6 v' ((setR xs i xs.length).length + 1) (rowL (setR xs i xs.length) ++ ndL n)) (hg : W2.grownBy W3 vo.ownBlock) (k' : Nat) (hk : sizeR rs < k') :
  FlatInv S w W3 R N (.slice (some ⟨gs, 0, none⟩) L.length cs) v' k' L rs (setR xs i xs.length ++ [n]) := by
 obtain ⟨_, _, hf, hit⟩ := h.items
 have hr : r = .nil := by
  cases r with
  | nil => rfl
  | node _ _ _ _ => exact hf.elim
 subst hr
 have hne : (Value.slice (some ⟨gs, 0, none⟩) L.length cs).ownBlock ≠ vo.ownBlock := by
  exact dd83
 have hbl : Below w.heap.size w W2 := hm.bel.trans (hb2.mono hm.bel.size)
 refine ⟨flat_fin_leaf h.fin, hit, ?_, ?_, ?_, ?_, hk, ?_⟩
 ·exact dd76
 ·exact (pw_own_below hm.own hb2).kept hg (.inr hne)
 ·rw [List.length_append, rowL_app]; simpa [rowL] using hown
 ·exact hbl.grown hg hbl.size (fun k hk => own_base hm.out k hk)
 ·intro x hx
  have := h.par x (by simp [hx])
  rw [List.length_append, setR_len]
  simp only [List.length_singleton]
  omega
theorem own_append_step {P : Program} {ops : Array Oper} {o : Oper} {a : Act} {Q : Exit → Act → World → Prop} {Kc : Act → World → Prop} {w : World} (hw : Region.wanted o (yielded ops a.tmps) = true) (s x : Operand) (t : TypeId)
  (ho : o.op = .call { callee := .builtin .append, args := #[s, x], argTypes := #[t, t] })
  (base : Nat) (e : TypeId) (i : TypeInfo) (z : Value) (size bytes : Nat) (ht : P.underlying t = some (.slice e)) (hi : P.info? e = some i) (hz : i.zero = some z)
  (hsize : i.size = size) (hby : i.bytes = bytes) (hzs : z.cells.size = size) (hsz : 0 < size)
  (v : Value) (n : Nat) (xs : List Value) (hs : a.eval s = v) (hown : w.ownsRow base e size v n xs)
  (ad : Addr) (m c : Nat) (news : List Value) (hx : a.eval x = .slice (some ad) m c) (hl : news.length = m * size) (hnews : ∀ j u, news[j]? = some u → w.cell? (ad.add j) = some u) (h1 : ∀ u ∈ news, u.oneCell' = true)
  (h63 : n + m ≤ maxLen) (hbytes : (n + m) * bytes ≤ 140737488355328) (hbase : base ≤ w.heap.size)
  (h : ∀ v' w', w'.ownsRow base e size v' (n + m) (xs ++ news) → w.grownBy w' v.ownBlock → (v'.ownBlock = v.ownBlock ∨ v'.ownBlock = some w.heap.size) → Kc (a.put o.dst v') w') :
  if Region.wanted o (yielded ops a.tmps) = true then Oper.wp P o a w Kc Q else Kc (a.put o.dst undef) w := by
 rw [if_pos hw]
 obtain ⟨v', w', hr, h2, h3, h4, h5⟩ := run_append_own_at (P := P) w base t o.type e i z size bytes ht hi hz hsize hby hzs hsz v n xs hown ad m c news hl hnews h1 h63 hbytes hbase
 unfold Oper.wp execOp
 simp only [ho, resolve, invoke, builtin, Sem.run_bind, Sem.run_pure, Result.andThen_ok, List.map_toArray, List.map_cons, List.map_nil, hs, hx, hr]
 exact h v' w' h2 h3 h5
theorem flat_inner {w wr W1 W2 W3 W4 W5 : World} {R : List S69} {N : Nat} {gs cs : Nat} {vo v' vs' : Value} {k : Nat} {p pL pR : Option Addr} {i : Int} {n n1 : S69} {pl p1 : Int} {l1 r1 r : Tr} {L : List (Option Addr × Int)} {rs : List (Tr × Int)} {xs : List S69}
  (h : FlatInv S w wr R N (.slice (some ⟨gs, 0, none⟩) (L.length + 1) cs) vo k ((p, i) :: L) ((.node n pl (.node n1 p1 l1 r1) r, i) :: rs) xs)
  (hl : Rep S w (.pointer pL) (.node n1 p1 l1 r1)) (hr : Rep S w (.pointer pR) r)
  (hm : Mid w W1 gs cs vo L (setR xs i xs.length)) (hb2 : Below W1.heap.size W1 W2)
  (hown : W3.ownsRow w.heap.size 190 2 vs' (L.length + 2) (itL L.reverse ++ itL [(pR, (xs.length : Int)), (pL, -1)])) (hg : W2.grownBy W3 (some gs)) (hat : vs'.ownBlock = some gs ∨ vs'.ownBlock = some W2.heap.size)
  (hb4 : Below W3.heap.size W3 W4)
  (hown2 : W5.ownsRow w.heap.size 69 6 v' ((setR xs i xs.length).length + 1) (rowL (setR xs i xs.length) ++ ndL ⟨n.f0, n.f1, n.f2, n.f3, (xs.length : Int) + 1, n.f5⟩)) (hg2 : W4.grownBy W5 vo.ownBlock) (k' : Nat) (hk : sizeT (.node n1 p1 l1 r1) + (sizeT r + sizeR rs) < k') :
  FlatInv S w W5 R N vs' v' k' ((pL, -1) :: (pR, (xs.length : Int)) :: L) ((.node n1 p1 l1 r1, -1) :: (r, (xs.length : Int)) :: rs) (setR xs i xs.length ++ [⟨n.f0, n.f1, n.f2, n.f3, (xs.length : Int) + 1, n.f5⟩]) := by
 obtain ⟨_, _, hf, hit⟩ := h.items
 have hf2 : Full (.node n1 p1 l1 r1) ∧ Full r := by
  cases r with
  | nil => exact hf.elim
  | node _ _ _ _ => exact hf
 have hne : some gs ≠ vo.ownBlock := by
  exact dd83
 have hbl : Below w.heap.size w W2 := hm.bel.trans (hb2.mono hm.bel.size)
 have hgs : w.heap.size ≤ gs := own_base hm.own gs rfl
 have hbl3 : Below w.heap.size w W3 := hbl.grown hg hbl.size (fun k hk => by injection hk with hk; omega)
 have hbl4 : Below w.heap.size w W4 := hbl3.trans (hb4.mono hbl3.size)
 have hout4 := (pw_own_below ((pw_own_below hm.out hb2).kept hg (by cases e : vo.ownBlock with | none => exact .inl rfl | some _ => exact .inr (fun e2 => hne (by rw [e, e2])))) hb4)
 refine ⟨flat_fin_inner (flatT_len _ _ hf2.1) h.fin, ⟨rfl, hl, hf2.1, rfl, hr, hf2.2, hit⟩, ?_, ?_, ?_, ?_, ?_, ?_⟩
 ·exact dd76
 ·have h4 := pw_own_below hown hb4
  have h5 := h4.kept hg2 (own_type_ne h4 hout4 (by decide))
  simp only [List.length_cons, List.reverse_cons, List.append_assoc, itL_app] at h5 ⊢
  exact h5
 ·rw [List.length_append, rowL_app]; simpa [rowL] using hown2
 ·exact hbl4.grown hg2 hbl4.size (fun k hk => own_base hm.out k hk)
 ·simp only [sizeR]; exact hk
 ·intro x hx
  rw [List.length_append, setR_len]
  simp only [List.mem_cons] at hx
  rcases hx with rfl | rfl | hx
  ·simp only [List.length_singleton]; omega
  ·simp only [List.length_singleton]; omega
  ·have := h.par x (by simp [hx])
   simp only [List.length_singleton]
   omega
theorem flat_any (p : Option Addr) (T : Tr) (w : World) (h : Rep S w (.pointer p) T) (hf : Full T) (hn : sizeT T ≤ 1000000) :
  Calls Tryz.prog 74 #[.pointer p] w fun e w' => FlatPost w T e w' := by
 have hu141 := Tryz.underlying190
 have hu34 := Tryz.underlying69
 have hu116 := Tryz.underlying126
 have H := Am h
 clear h
 go_enter Tryz.func74, Tryz.ntmps74
 go_wp2
 go_loopg [3, 4] (sizeT T + 1) (fun gk vo vs wr => ∃ L rs xs, Aside0 (FlatInv S w wr (flatT T 0) (sizeT T) vs vo gk L rs xs))
 case atStart => exact ⟨[(p, -1)], [(T, -1)], [], ⟨flat_start H.out hf⟩⟩
 case round =>
  obtain ⟨L, rs, xs, HI⟩ := hrel
  cases L with
  | nil =>
   obtain ⟨A_, c_, rfl⟩ := flat_nil HI.out
   obtain ⟨Ao, co, rfl⟩ := own_slice HI.out.out
   have hfin := flat_end HI.out
   have HF := Am hfin
   clear hfin
   go_wp2
   go_ret
   exact HF.out
  | cons it L =>
   obtain ⟨p', i⟩ := it
   cases rs with
   | nil => exact absurd HI.out.items (by simp [Items])
   | cons r rs =>
    obtain ⟨T', j⟩ := r
    obtain ⟨gs, cs, hvs, hgs, hgl, hcap, hit0, hit1⟩ := flat_top HI.out
    subst hvs
    have hpos : decide (0 < L.length + 1) = true := decide_eq_true (by omega)
    have hlen : L.length + 1 ≤ 1000000 := by
     have := items_len HI.out.items
     have h2 := HI.out.size
     simp only [List.length_cons] at this
     omega
    have hxl : xs.length ≤ 1000000 := by have h2 := HI.out.size; omega
    obtain ⟨Ao, co, hvo⟩ := own_slice HI.out.out
    subst hvo
    have hgc : gs < wr.heap.size := hgl
    obtain ⟨i0, hi0, hz0, hsz0, hby0⟩ := info_parts info190
    have hcut := cut_to (P := Tryz.prog) 191 190 .i64 Tryz.underlying191 hi0 (some ⟨gs, 0, none⟩) (L.length + 1) cs (L.length : Int) (by omega) (by omega) hcap
    simp only [Int.toNat_natCast] at hcut
    obtain ⟨n, pl, l, r, b, vl, vr, hT', hp', hb, hbl, hl, hr⟩ := flat_node HI.out
    subst hT'
    subst hp'
    have hc0 : wr.cell? ⟨b, 0, none⟩ = some (.int .i64 n.f0) := (cell_of hb 0).trans rfl
    have hc1 : wr.cell? ⟨b, 1, none⟩ = some (.int .i64 n.f1) := (cell_of hb 1).trans rfl
    have hc2 : wr.cell? ⟨b, 2, none⟩ = some (.int .i64 n.f2) := (cell_of hb 2).trans rfl
    have hc3 : wr.cell? ⟨b, 3, none⟩ = some (.int .i64 n.f3) := (cell_of hb 3).trans rfl
    have hc4 : wr.cell? ⟨b, 4, none⟩ = some (.int .i64 n.f4) := (cell_of hb 4).trans rfl
    have hc5 : wr.cell? ⟨b, 5, none⟩ = some (.int .i64 n.f5) := (cell_of hb 5).trans rfl
    have hc7 : wr.cell? ⟨b, 7, none⟩ = some vl := (cell_of hb 7).trans rfl
    have hc8 : wr.cell? ⟨b, 8, none⟩ = some vr := (cell_of hb 8).trans rfl
    have hbw : b < wr.heap.size := Nat.lt_of_lt_of_le hbl HI.out.bel.size
    obtain rfl : i = j := HI.out.items.1
    obtain ⟨i34, hi34, hz340, hz341, hz342⟩ := info_parts info69
    by_cases hi : 0 ≤ i
    ·have di : decide (0 ≤ i) = true := decide_eq_true hi
     obtain ⟨hilt, go, co', hvo, hgo, ⟨u_, hco⟩, hfo, hne, hgb, hm⟩ := flat_mid1 HI.out hi
     have HM := Am hm
     injection hvo with hA _ hC
     subst hA
     subst hC
     clear hm
     cases l with
     | nil =>
      obtain rfl := hl
      go_wp2_with (at_builtin; refine wpList_append_own_at _ rfl (.tmp 66) (.tmp 68) 22 rfl w.heap.size 69 i34 _ 6 48 Tryz.underlying22 hi34 hz340 hz341 hz342 rfl (by decide) (.slice (some ⟨go, 0, none⟩) xs.length co) xs.length (rowL (setR xs i xs.length)) rfl ?c0 _ 1 1 (ndL n) rfl rfl ?c1 ?c2 ?c3 ?c4 ?c5 ?_)
      case c0 => have h_ := HM.out.out; rw [setR_len] at h_; exact ((h_.alloc _).alloc _).alloc _
      case c1 => exact fun _ _ h_ => h_
      case c2 => simp [ndL, Value.oneCell']
      case c3 => simp only [maxLen]; omega
      case c4 => omega
      case c5 => have h_ := HM.out.bel.size; simp at h_ ⊢; omega
      exact dd28
     | node n1 p1 l1 r1 =>
      obtain ⟨pR, epR⟩ := hr.ptr
      subst epR
      obtain ⟨bl, vl1, vr1, hvl, hbl1, hl1, hr1, hs1⟩ := hl
      subst hvl
      have HRL : Aside0 (Rep S w (.pointer (some ⟨bl, 0, none⟩)) (.node n1 p1 l1 r1)) := ⟨⟨bl, vl1, vr1, rfl, hbl1, hl1, hr1, hs1⟩⟩
      have HRR := Am hr
      clear hbl1 hl1 hr1 hs1 hr
      go_wp2_with (fail)
      have hbx0 : (((wr.setCell ⟨go, i.toNat * 6 + 5, none⟩ (.int .i64 xs.length)).alloc (.cells #[.pointer (some ⟨b, 0, none⟩), .int .i64 i] 190)).alloc (.cells #[.int .i64 n.f0, .int .i64 n.f1, .int .i64 n.f2, .int .i64 n.f3, .int .i64 ((xs.length : Int) + 1), .int .i64 n.f5] 69)).drew.cell? ⟨wr.heap.size, 0, none⟩ = some (.pointer (some ⟨b, 0, none⟩)) := cell_al _ (World.cell?_alloc_at _ _ _ _ (by simp))
      have hb7 : (((wr.setCell ⟨go, i.toNat * 6 + 5, none⟩ (.int .i64 xs.length)).alloc (.cells #[.pointer (some ⟨b, 0, none⟩), .int .i64 i] 190)).alloc (.cells #[.int .i64 n.f0, .int .i64 n.f1, .int .i64 n.f2, .int .i64 n.f3, .int .i64 ((xs.length : Int) + 1), .int .i64 n.f5] 69)).drew.cell? ⟨b, 7, none⟩ = some (.pointer (some ⟨bl, 0, none⟩)) := cell_al _ (cell_al _ ((World.cell?_setCell_other _ _ _ _ (by intro e_; injection e_ with e_; omega)).trans hc7))
      have hb8 : (((wr.setCell ⟨go, i.toNat * 6 + 5, none⟩ (.int .i64 xs.length)).alloc (.cells #[.pointer (some ⟨b, 0, none⟩), .int .i64 i] 190)).alloc (.cells #[.int .i64 n.f0, .int .i64 n.f1, .int .i64 n.f2, .int .i64 n.f3, .int .i64 ((xs.length : Int) + 1), .int .i64 n.f5] 69)).drew.cell? ⟨b, 8, none⟩ = some (.pointer pR) := cell_al _ (cell_al _ ((World.cell?_setCell_other _ _ _ _ (by intro e_; injection e_ with e_; omega)).trans hc8))
      have hsz : (((wr.setCell ⟨go, i.toNat * 6 + 5, none⟩ (.int .i64 xs.length)).alloc (.cells #[.pointer (some ⟨b, 0, none⟩), .int .i64 i] 190)).alloc (.cells #[.int .i64 n.f0, .int .i64 n.f1, .int .i64 n.f2, .int .i64 n.f3, .int .i64 ((xs.length : Int) + 1), .int .i64 n.f5] 69)).heap.size = wr.heap.size + 2 := by simp
      have hbl2 : Below w.heap.size w (((wr.setCell ⟨go, i.toNat * 6 + 5, none⟩ (.int .i64 xs.length)).alloc (.cells #[.pointer (some ⟨b, 0, none⟩), .int .i64 i] 190)).alloc (.cells #[.int .i64 n.f0, .int .i64 n.f1, .int .i64 n.f2, .int .i64 n.f3, .int .i64 ((xs.length : Int) + 1), .int .i64 n.f5] 69)) := (HM.out.bel.alloc HM.out.bel.size _).alloc (by have h_ := HM.out.bel.size; simp at h_ ⊢; omega) _
      have HB2 := Am hbl2
      have hnb : (((wr.setCell ⟨go, i.toNat * 6 + 5, none⟩ (.int .i64 xs.length)).alloc (.cells #[.pointer (some ⟨b, 0, none⟩), .int .i64 i] 190)).alloc (.cells #[.int .i64 n.f0, .int .i64 n.f1, .int .i64 n.f2, .int .i64 n.f3, .int .i64 ((xs.length : Int) + 1), .int .i64 n.f5] 69)).heap[wr.heap.size + 1]? = some (.cells #[.int .i64 n.f0, .int .i64 n.f1, .int .i64 n.f2, .int .i64 n.f3, .int .i64 ((xs.length : Int) + 1), .int .i64 n.f5] 69 (0, 0)) := by have h_ := heap_alloc_new ((wr.setCell ⟨go, i.toNat * 6 + 5, none⟩ (.int .i64 xs.length)).alloc (.cells #[.pointer (some ⟨b, 0, none⟩), .int .i64 i] 190)) (.cells #[.int .i64 n.f0, .int .i64 n.f1, .int .i64 n.f2, .int .i64 n.f3, .int .i64 ((xs.length : Int) + 1), .int .i64 n.f5] 69); simpa using h_
      have HNB := Am hnb
      have hb12 : Below (wr.setCell ⟨go, i.toNat * 6 + 5, none⟩ (.int .i64 xs.length)).heap.size (wr.setCell ⟨go, i.toNat * 6 + 5, none⟩ (.int .i64 xs.length)) (((wr.setCell ⟨go, i.toNat * 6 + 5, none⟩ (.int .i64 xs.length)).alloc (.cells #[.pointer (some ⟨b, 0, none⟩), .int .i64 i] 190)).alloc (.cells #[.int .i64 n.f0, .int .i64 n.f1, .int .i64 n.f2, .int .i64 n.f3, .int .i64 ((xs.length : Int) + 1), .int .i64 n.f5] 69)) := ((Below.refl _ _).alloc (Nat.le_refl _) _).alloc (by simp) _
      have HB12 := Am hb12
      have hos : (((wr.setCell ⟨go, i.toNat * 6 + 5, none⟩ (.int .i64 xs.length)).alloc (.cells #[.pointer (some ⟨b, 0, none⟩), .int .i64 i] 190)).alloc (.cells #[.int .i64 n.f0, .int .i64 n.f1, .int .i64 n.f2, .int .i64 n.f3, .int .i64 ((xs.length : Int) + 1), .int .i64 n.f5] 69)).ownsRow w.heap.size 190 2 (.slice (some ⟨gs, 0, none⟩) L.length cs) L.length (itL L.reverse) := (HM.out.own.alloc _).alloc _
      have HOS := Am hos
      clear hbl2 hnb hb12 hos
      generalize (((wr.setCell ⟨go, i.toNat * 6 + 5, none⟩ (.int .i64 xs.length)).alloc (.cells #[.pointer (some ⟨b, 0, none⟩), .int .i64 i] 190)).alloc (.cells #[.int .i64 n.f0, .int .i64 n.f1, .int .i64 n.f2, .int .i64 n.f3, .int .i64 ((xs.length : Int) + 1), .int .i64 n.f5] 69)) = w2 at hbx0 hb7 hb8 hsz HB2 HNB HB12 HOS ⊢
      refine sT 18 [16] (S := fun w' => w'.cell? ⟨wr.heap.size, 0, none⟩ = some (.pointer (some ⟨b, 0, none⟩)) ∧ w'.cell? ⟨b, 7, none⟩ = some (.pointer (some ⟨bl, 0, none⟩)) ∧ w'.cell? ⟨b, 8, none⟩ = some (.pointer pR)) ⟨hbx0, hb7, hb8⟩ fun hHeld => ?_
      refine pu 0 49 ?_
      refine pu 1 50 ?_
      refine pu 6 55 ?_
      refine pu 7 56 ?_
      refine pu 9 58 ?_
      refine ta 2 51 hHeld ?_
      refine pu 3 52 ?_
      refine pu 4 53 ?_
      refine ta 5 54 hHeld ?_
      refine pu 8 57 ?_
      refine ta 10 59 hHeld ?_
      refine pu 11 60 ?_
      refine pu 12 61 ?_
      refine ta 13 62 hHeld ?_
      refine pu 14 63 ?_
      refine on 15 64 fun K hK => ?_
      refine value_ (w1 := ?_) (v := ?_) (by rfl) rfl ?_ ?_
      rotate_left 2
      ·go_simp
       constructor
       ·rfl
       ·rfl
      refine hK.out _ _ ⟨cell_al _ hHeld.1, cell_al _ hHeld.2.1, cell_al _ hHeld.2.2⟩ (fun hHeld => ?_)
      clear hK K
      refine nm 64 ?_
      refine last_ (i := 16) (N := some 65) #[true, true, true, true, true, true, true, true, true, true, true, true, true, true, true, true, true, false] rfl rfl (by kernel_rfl) (by decide) (fun K hK => ?_)
      refine own_append_step (by rfl) (.tmp 49) (.tmp 64) 191 (by rfl) w.heap.size 190 i0 _ 2 16 Tryz.underlying191 hi0 hz0 hsz0 hby0 rfl (by decide) (.slice (some ⟨gs, 0, none⟩) L.length cs) L.length (itL L.reverse) rfl ?c0 _ 2 2 (itL [(pR, (xs.length : Int)), (some ⟨bl, 0, none⟩, -1)]) rfl rfl ?c1 ?c2 ?c3 ?c4 ?c5 ?_
      case c0 => exact (HOS.out.drew).alloc _
      case c1 => exact World.news_of_block (cs := #[.pointer pR, .int .i64 (xs.length : Int), .pointer (some ⟨bl, 0, none⟩), .int .i64 (-1)]) (t := 190) (fr := (0, 0)) (by have h_ := heap_alloc_new w2 (.cells #[.pointer pR, .int .i64 (xs.length : Int), .pointer (some ⟨bl, 0, none⟩), .int .i64 (-1)] 190); rw [hsz] at h_; exact h_)
      case c2 => simp [itL, Value.oneCell']
      case c3 => simp only [maxLen]; omega
      case c4 => omega
      case c5 => have h_ := HB2.out.size; first | omega | (show _ ≤ (w2.alloc _).heap.size; rw [World.size_alloc]; omega)
      intro vs' w3 hown hg hat
      refine hK.out _ _ ?_
      clear hK K
      refine nm 65 ?_
      refine pu 17 4 ?_
      refine done_ (by kernel_rfl) ?_
      have HOW := Am hown
      have HG := Am hg
      have HAT := Am hat
      have hnb3 : w3.heap[wr.heap.size + 1]? = some (.cells #[.int .i64 n.f0, .int .i64 n.f1, .int .i64 n.f2, .int .i64 n.f3, .int .i64 ((xs.length : Int) + 1), .int .i64 n.f5] 69 (0, 0)) := (hg.block (wr.heap.size + 1) (by show _ < (w2.alloc _).heap.size; rw [World.size_alloc]; omega) (by simp [Value.ownBlock]; omega)).trans ((Below.heap_alloc _ _ _ (by show _ < w2.heap.size; omega)).trans HNB.out)
      have hnc0 : w3.cell? ⟨wr.heap.size + 1, 0, none⟩ = some (.int .i64 n.f0) := (cell_of hnb3 0).trans rfl
      have hnc1 : w3.cell? ⟨wr.heap.size + 1, 1, none⟩ = some (.int .i64 n.f1) := (cell_of hnb3 1).trans rfl
      have hnc2 : w3.cell? ⟨wr.heap.size + 1, 2, none⟩ = some (.int .i64 n.f2) := (cell_of hnb3 2).trans rfl
      have hnc3 : w3.cell? ⟨wr.heap.size + 1, 3, none⟩ = some (.int .i64 n.f3) := (cell_of hnb3 3).trans rfl
      have hnc4 : w3.cell? ⟨wr.heap.size + 1, 4, none⟩ = some (.int .i64 ((xs.length : Int) + 1)) := (cell_of hnb3 4).trans rfl
      have hnc5 : w3.cell? ⟨wr.heap.size + 1, 5, none⟩ = some (.int .i64 n.f5) := (cell_of hnb3 5).trans rfl
      obtain ⟨A3, c3, hvs3⟩ := own_slice hown
      subst hvs3
      have hsz3 : w2.heap.size + 1 ≤ w3.heap.size := by have h_ := hg.size; simpa using h_
      clear hown hg hat hnb3
      have hb3 : Below w2.heap.size w2 (w2.alloc (.cells #[.pointer pR, .int .i64 (xs.length : Int), .pointer (some ⟨bl, 0, none⟩), .int .i64 (-1)] 190)).drew := ((Below.refl _ _).alloc (Nat.le_refl _) _).drew
      have HB3 := Am hb3
      clear hb3
      have hod : w3.ownsRow w.heap.size 69 6 (.slice (some ⟨go, 0, none⟩) xs.length co) xs.length (rowL (setR xs i xs.length)) := by
       exact dd55
      have HOD := Am hod
      clear hod
      go_wp2_with (at_builtin; refine wpList_append_own_at _ rfl (.tmp 66) (.tmp 68) 22 rfl w.heap.size 69 i34 _ 6 48 Tryz.underlying22 hi34 hz340 hz341 hz342 rfl (by decide) (.slice (some ⟨go, 0, none⟩) xs.length co) xs.length (rowL (setR xs i xs.length)) rfl ?d0 _ 1 1 (ndL ⟨n.f0, n.f1, n.f2, n.f3, (xs.length : Int) + 1, n.f5⟩) rfl rfl ?d1 ?d2 ?d3 ?d4 ?d5 ?_)
      case d0 => exact HOD.out.alloc _
      case d1 => first | exact fun _ _ h_ => h_ | exact World.news_of_block (heap_alloc_new _ _)
      case d2 => simp [ndL, Value.oneCell']
      case d3 => simp only [maxLen]; omega
      case d4 => omega
      case d5 => have h_ := HB2.out.size; first | (simp only [World.size_alloc]; omega) | omega
      exact dd26
    ·have di : decide (0 ≤ i) = false := decide_eq_false hi
     have HM := Am (flat_mid0 HI.out hi)
     cases l with
     | nil =>
      obtain rfl := hl
      go_wp2_with (at_builtin; refine wpList_append_own_at _ rfl (.tmp 66) (.tmp 68) 22 rfl w.heap.size 69 i34 _ 6 48 Tryz.underlying22 hi34 hz340 hz341 hz342 rfl (by decide) (.slice Ao xs.length co) xs.length (rowL (setR xs i xs.length)) rfl ?c0 _ 1 1 (ndL n) rfl rfl ?c1 ?c2 ?c3 ?c4 ?c5 ?_)
      case c0 => have h_ := HM.out.out; rw [setR_len] at h_; exact ((h_.alloc _).alloc _).alloc _
      case c1 => exact fun _ _ h_ => h_
      case c2 => simp [ndL, Value.oneCell']
      case c3 => simp only [maxLen]; omega
      case c4 => omega
      case c5 => have h_ := HM.out.bel.size; simp at h_ ⊢; omega
      exact dd28
     | node n1 p1 l1 r1 =>
      obtain ⟨pR, epR⟩ := hr.ptr
      subst epR
      obtain ⟨bl, vl1, vr1, hvl, hbl1, hl1, hr1, hs1⟩ := hl
      subst hvl
      have HRL : Aside0 (Rep S w (.pointer (some ⟨bl, 0, none⟩)) (.node n1 p1 l1 r1)) := ⟨⟨bl, vl1, vr1, rfl, hbl1, hl1, hr1, hs1⟩⟩
      have HRR := Am hr
      clear hbl1 hl1 hr1 hs1 hr
      go_wp2_with (fail)
      have hbx0 : ((wr.alloc (.cells #[.pointer (some ⟨b, 0, none⟩), .int .i64 i] 190)).alloc (.cells #[.int .i64 n.f0, .int .i64 n.f1, .int .i64 n.f2, .int .i64 n.f3, .int .i64 ((xs.length : Int) + 1), .int .i64 n.f5] 69)).drew.cell? ⟨wr.heap.size, 0, none⟩ = some (.pointer (some ⟨b, 0, none⟩)) := cell_al _ (World.cell?_alloc_at _ _ _ _ (by simp))
      have hb7 : ((wr.alloc (.cells #[.pointer (some ⟨b, 0, none⟩), .int .i64 i] 190)).alloc (.cells #[.int .i64 n.f0, .int .i64 n.f1, .int .i64 n.f2, .int .i64 n.f3, .int .i64 ((xs.length : Int) + 1), .int .i64 n.f5] 69)).drew.cell? ⟨b, 7, none⟩ = some (.pointer (some ⟨bl, 0, none⟩)) := cell_al _ (cell_al _ (hc7))
      have hb8 : ((wr.alloc (.cells #[.pointer (some ⟨b, 0, none⟩), .int .i64 i] 190)).alloc (.cells #[.int .i64 n.f0, .int .i64 n.f1, .int .i64 n.f2, .int .i64 n.f3, .int .i64 ((xs.length : Int) + 1), .int .i64 n.f5] 69)).drew.cell? ⟨b, 8, none⟩ = some (.pointer pR) := cell_al _ (cell_al _ (hc8))
      have hsz : ((wr.alloc (.cells #[.pointer (some ⟨b, 0, none⟩), .int .i64 i] 190)).alloc (.cells #[.int .i64 n.f0, .int .i64 n.f1, .int .i64 n.f2, .int .i64 n.f3, .int .i64 ((xs.length : Int) + 1), .int .i64 n.f5] 69)).heap.size = wr.heap.size + 2 := by simp
      have hbl2 : Below w.heap.size w ((wr.alloc (.cells #[.pointer (some ⟨b, 0, none⟩), .int .i64 i] 190)).alloc (.cells #[.int .i64 n.f0, .int .i64 n.f1, .int .i64 n.f2, .int .i64 n.f3, .int .i64 ((xs.length : Int) + 1), .int .i64 n.f5] 69)) := (HM.out.bel.alloc HM.out.bel.size _).alloc (by have h_ := HM.out.bel.size; simp at h_ ⊢; omega) _
      have HB2 := Am hbl2
      have hnb : ((wr.alloc (.cells #[.pointer (some ⟨b, 0, none⟩), .int .i64 i] 190)).alloc (.cells #[.int .i64 n.f0, .int .i64 n.f1, .int .i64 n.f2, .int .i64 n.f3, .int .i64 ((xs.length : Int) + 1), .int .i64 n.f5] 69)).heap[wr.heap.size + 1]? = some (.cells #[.int .i64 n.f0, .int .i64 n.f1, .int .i64 n.f2, .int .i64 n.f3, .int .i64 ((xs.length : Int) + 1), .int .i64 n.f5] 69 (0, 0)) := by have h_ := heap_alloc_new (wr.alloc (.cells #[.pointer (some ⟨b, 0, none⟩), .int .i64 i] 190)) (.cells #[.int .i64 n.f0, .int .i64 n.f1, .int .i64 n.f2, .int .i64 n.f3, .int .i64 ((xs.length : Int) + 1), .int .i64 n.f5] 69); simpa using h_
      have HNB := Am hnb
      have hb12 : Below wr.heap.size wr ((wr.alloc (.cells #[.pointer (some ⟨b, 0, none⟩), .int .i64 i] 190)).alloc (.cells #[.int .i64 n.f0, .int .i64 n.f1, .int .i64 n.f2, .int .i64 n.f3, .int .i64 ((xs.length : Int) + 1), .int .i64 n.f5] 69)) := ((Below.refl _ _).alloc (Nat.le_refl _) _).alloc (by simp) _
      have HB12 := Am hb12
      have hos : ((wr.alloc (.cells #[.pointer (some ⟨b, 0, none⟩), .int .i64 i] 190)).alloc (.cells #[.int .i64 n.f0, .int .i64 n.f1, .int .i64 n.f2, .int .i64 n.f3, .int .i64 ((xs.length : Int) + 1), .int .i64 n.f5] 69)).ownsRow w.heap.size 190 2 (.slice (some ⟨gs, 0, none⟩) L.length cs) L.length (itL L.reverse) := (HM.out.own.alloc _).alloc _
      have HOS := Am hos
      clear hbl2 hnb hb12 hos
      generalize ((wr.alloc (.cells #[.pointer (some ⟨b, 0, none⟩), .int .i64 i] 190)).alloc (.cells #[.int .i64 n.f0, .int .i64 n.f1, .int .i64 n.f2, .int .i64 n.f3, .int .i64 ((xs.length : Int) + 1), .int .i64 n.f5] 69)) = w2 at hbx0 hb7 hb8 hsz HB2 HNB HB12 HOS ⊢
      refine sT 18 [16] (S := fun w' => w'.cell? ⟨wr.heap.size, 0, none⟩ = some (.pointer (some ⟨b, 0, none⟩)) ∧ w'.cell? ⟨b, 7, none⟩ = some (.pointer (some ⟨bl, 0, none⟩)) ∧ w'.cell? ⟨b, 8, none⟩ = some (.pointer pR)) ⟨hbx0, hb7, hb8⟩ fun hHeld => ?_
      refine pu 0 49 ?_
      refine pu 1 50 ?_
      refine pu 6 55 ?_
      refine pu 7 56 ?_
      refine pu 9 58 ?_
      refine ta 2 51 hHeld ?_
      refine pu 3 52 ?_
      refine pu 4 53 ?_
      refine ta 5 54 hHeld ?_
      refine pu 8 57 ?_
      refine ta 10 59 hHeld ?_
      refine pu 11 60 ?_
      refine pu 12 61 ?_
      refine ta 13 62 hHeld ?_
      refine pu 14 63 ?_
      refine on 15 64 fun K hK => ?_
      refine value_ (w1 := ?_) (v := ?_) (by rfl) rfl ?_ ?_
      rotate_left 2
      ·go_simp
       constructor
       ·rfl
       ·rfl
      refine hK.out _ _ ⟨cell_al _ hHeld.1, cell_al _ hHeld.2.1, cell_al _ hHeld.2.2⟩ (fun hHeld => ?_)
      clear hK K
      refine nm 64 ?_
      refine last_ (i := 16) (N := some 65) #[true, true, true, true, true, true, true, true, true, true, true, true, true, true, true, true, true, false] rfl rfl (by kernel_rfl) (by decide) (fun K hK => ?_)
      refine own_append_step (by rfl) (.tmp 49) (.tmp 64) 191 (by rfl) w.heap.size 190 i0 _ 2 16 Tryz.underlying191 hi0 hz0 hsz0 hby0 rfl (by decide) (.slice (some ⟨gs, 0, none⟩) L.length cs) L.length (itL L.reverse) rfl ?c0 _ 2 2 (itL [(pR, (xs.length : Int)), (some ⟨bl, 0, none⟩, -1)]) rfl rfl ?c1 ?c2 ?c3 ?c4 ?c5 ?_
      case c0 => exact (HOS.out.drew).alloc _
      case c1 => exact World.news_of_block (cs := #[.pointer pR, .int .i64 (xs.length : Int), .pointer (some ⟨bl, 0, none⟩), .int .i64 (-1)]) (t := 190) (fr := (0, 0)) (by have h_ := heap_alloc_new w2 (.cells #[.pointer pR, .int .i64 (xs.length : Int), .pointer (some ⟨bl, 0, none⟩), .int .i64 (-1)] 190); rw [hsz] at h_; exact h_)
      case c2 => simp [itL, Value.oneCell']
      case c3 => simp only [maxLen]; omega
      case c4 => omega
      case c5 => have h_ := HB2.out.size; first | omega | (show _ ≤ (w2.alloc _).heap.size; rw [World.size_alloc]; omega)
      intro vs' w3 hown hg hat
      refine hK.out _ _ ?_
      clear hK K
      refine nm 65 ?_
      refine pu 17 4 ?_
      refine done_ (by kernel_rfl) ?_
      have HOW := Am hown
      have HG := Am hg
      have HAT := Am hat
      have hnb3 : w3.heap[wr.heap.size + 1]? = some (.cells #[.int .i64 n.f0, .int .i64 n.f1, .int .i64 n.f2, .int .i64 n.f3, .int .i64 ((xs.length : Int) + 1), .int .i64 n.f5] 69 (0, 0)) := (hg.block (wr.heap.size + 1) (by show _ < (w2.alloc _).heap.size; rw [World.size_alloc]; omega) (by simp [Value.ownBlock]; omega)).trans ((Below.heap_alloc _ _ _ (by show _ < w2.heap.size; omega)).trans HNB.out)
      have hnc0 : w3.cell? ⟨wr.heap.size + 1, 0, none⟩ = some (.int .i64 n.f0) := (cell_of hnb3 0).trans rfl
      have hnc1 : w3.cell? ⟨wr.heap.size + 1, 1, none⟩ = some (.int .i64 n.f1) := (cell_of hnb3 1).trans rfl
      have hnc2 : w3.cell? ⟨wr.heap.size + 1, 2, none⟩ = some (.int .i64 n.f2) := (cell_of hnb3 2).trans rfl
      have hnc3 : w3.cell? ⟨wr.heap.size + 1, 3, none⟩ = some (.int .i64 n.f3) := (cell_of hnb3 3).trans rfl
      have hnc4 : w3.cell? ⟨wr.heap.size + 1, 4, none⟩ = some (.int .i64 ((xs.length : Int) + 1)) := (cell_of hnb3 4).trans rfl
      have hnc5 : w3.cell? ⟨wr.heap.size + 1, 5, none⟩ = some (.int .i64 n.f5) := (cell_of hnb3 5).trans rfl
      obtain ⟨A3, c3, hvs3⟩ := own_slice hown
      subst hvs3
      have hsz3 : w2.heap.size + 1 ≤ w3.heap.size := by have h_ := hg.size; simpa using h_
      clear hown hg hat hnb3
      have hb3 : Below w2.heap.size w2 (w2.alloc (.cells #[.pointer pR, .int .i64 (xs.length : Int), .pointer (some ⟨bl, 0, none⟩), .int .i64 (-1)] 190)).drew := ((Below.refl _ _).alloc (Nat.le_refl _) _).drew
      have HB3 := Am hb3
      clear hb3
      have hod : w3.ownsRow w.heap.size 69 6 (.slice Ao xs.length co) xs.length (rowL (setR xs i xs.length)) := by
       exact dd55
      have HOD := Am hod
      clear hod
      go_wp2_with (at_builtin; refine wpList_append_own_at _ rfl (.tmp 66) (.tmp 68) 22 rfl w.heap.size 69 i34 _ 6 48 Tryz.underlying22 hi34 hz340 hz341 hz342 rfl (by decide) (.slice Ao xs.length co) xs.length (rowL (setR xs i xs.length)) rfl ?d0 _ 1 1 (ndL ⟨n.f0, n.f1, n.f2, n.f3, (xs.length : Int) + 1, n.f5⟩) rfl rfl ?d1 ?d2 ?d3 ?d4 ?d5 ?_)
      case d0 => exact HOD.out.alloc _
      case d1 => first | exact fun _ _ h_ => h_ | exact World.news_of_block (heap_alloc_new _ _)
      case d2 => simp [ndL, Value.oneCell']
      case d3 => simp only [maxLen]; omega
      case d4 => omega
      case d5 => have h_ := HB2.out.size; first | (simp only [World.size_alloc]; omega) | omega
      exact dd26
end
def AtPost (w : World) (t : List S69) (root : Int) (e : Ending) (w' : World) : Prop :=
 ∃ wg : World, e = .returned (.tuple #[.slice (some ⟨wg.heap.size, 0, none⟩) t.length t.length, .int .i64 root, .int .i64 0]) ∧ Below w.heap.size w wg ∧ Forest wg w' t t.length t.length
theorem at_fin (w : World) (t : List S69) (root : Int) : ∀ wg w', Below w.heap.size w wg → Forest wg w' t t.length t.length → AtPost w t root (.returned (.tuple #[.slice (some ⟨wg.heap.size, 0, none⟩) t.length t.length, .int .i64 root, .int .i64 0])) w' := fun wg _ h1 h2 => ⟨wg, rfl, h1, h2⟩
theorem at_okt (k : Nat) (A0 : Option Addr) (c0 : Nat) (l0 : List S69) (a1 kind : Int) (mir : Bool) (r1 : Int) (r2 : List Bool) (w : World) (hr0 : Kd.C k69 w A0 l0.length l0) (hc0 : l0.length ≤ c0)
  (h : steps_keys.f k l0 = some (r1, r2, 0)) (hm : true = true → steps_Move_is.f kind mir = some true) (hp0 : 0 ≤ a1) (hp1 : a1 < l0.length) (hp2 : a1 < r2.length) (hbel : rdOf false r2 a1 = true) (hn : l0.length ≤ 1000000)
  (hc : ∀ i, i < l0.length → 0 ≤ (l0.getD i z69).f4 → (l0.getD i z69).f4 < l0.length ∧ 0 ≤ (l0.getD i z69).f5 ∧ (l0.getD i z69).f5 < l0.length) :
  Calls Tryz.prog 70 #[.slice A0 l0.length c0, .int .i64 a1, .agg #[.int .i64 kind, .bool mir], .bool true] w fun e w' => AtPost w l0 r1 e w' := by
 have hu62 := Tryz.underlying49
 have HR := Am hr0
 have HC := Am hc0
 have H := Am h
 have HM := Am hm
 clear hr0 hc0 h hm
 have HG := Am hc
 clear hc
 have d0 : decide (a1 < 0) = false := decide_eq_false (by omega)
 have d1 : decide ((l0.length : Int) ≤ a1) = false := decide_eq_false (by omega)
 have hfin := at_fin w l0 r1
 have HF := Am hfin
 clear hfin
 go_enter Tryz.func70, Tryz.ntmps70
 go_wp2_with (fail)
 refine (steps_keys.calls k A0 c0 l0 r1 r2 0 _ (Kd.C_below HR.out ((Below.refl _ _).alloc (Nat.le_refl _) _)) HC.out H.out).mono ?_
 rintro e w1 ⟨v1, rfl, h1, h2⟩
 obtain ⟨Av, cv, rfl⟩ := Kd.R_slice h1
 have hb : Below w.heap.size w w1 := ((Below.refl _ _).alloc (Nat.le_refl _) _).trans (h2.mono (by simp))
 have HB := Am hb
 have HV := Am h1
 have hc6 : w1.cell? ⟨w.heap.size, 0, none⟩ = some (.int .i64 kind) := (h2.cell (p := ⟨w.heap.size, 0, none⟩) (by simp)).trans (World.cell?_alloc_at _ _ _ _ rfl)
 have hc7 : w1.cell? ⟨w.heap.size, 1, none⟩ = some (.bool mir) := (h2.cell (p := ⟨w.heap.size, 1, none⟩) (by simp)).trans (World.cell?_alloc_at _ _ _ _ rfl)
 clear h1 h2 hb
 go_wp2_with (fail)
 refine (steps_Move_is.calls kind mir true _ (HM.out (by first | trivial | rfl))).mono ?_
 rintro e w2 ⟨rfl, h2⟩
 have HV2 := Am (Kd.R_below HV.out h2)
 have HB2 := Am (HB.out.trans (h2.mono HB.out.size))
 clear h2 HV HB
 obtain ⟨adB, eB, hxB⟩ := Kd.at_bool (Kd.R_reads' HV2.out).2.2 a1 hp0 hp2
 cases eB
 rw [hbel] at hxB
 go_wp2_with (fail)
 refine (grow_any A0 c0 l0 _ (Kd.C_below (Kd.C_below HR.out (Below.refl _ _)) HB2.out) hn HG.out).mono ?_
 rintro e w3 ⟨rfl, hfo⟩
 have HFO := Am hfo
 clear hfo
 go_wp2
 go_ret3
 exact HF.out _ _ HB2.out HFO.out
section
variable {S : Nat → Prop}
def can1 (m : Bool) (T : Tr) : Bool := (wt (lT m T) == 0) && (wt (rT m T) == 0) && (decide (0 < wt T)) && ((wt (lT m (lT m T)) == 0) || (wt (rT m (lT m T)) == 0) || (wt (lT m (rT m T)) == 0) || (wt (rT m (rT m T)) == 0))
def can2 (m : Bool) (T : Tr) : Bool := (decide (0 < wt T)) && (wt (lT m T) == 0) && (wt (lT m (lT m T)) == 0) && (decide (0 < wt (rT m T)))
theorem can2_0 (m rt : Bool) (p pl pr pll plr prl prr pa pb : Option Addr) (T : Tr) (w : World) (Hl : Aside0 (Rep S w (.pointer pl) (lT m T))) (Hll : Aside0 (Rep S w (.pointer pll) (lT m (lT m T)))) (Hr : Aside0 (Rep S w (.pointer pr) (rT m T))) (Hx : Aside0 (Rep S w (.pointer p) T)) (h0 : (decide (0 < wt T)) = false) :
  Calls Tryz.prog 72 #[.agg #[.bool m, .pointer p, .pointer pl, .pointer pr, .pointer pll, .pointer plr, .pointer prl, .pointer prr, .pointer pa, .pointer pb, .bool rt], .int .i64 2] w (RB w (.bool false)) := by
 have hu111 := Tryz.underlying121
 have A0 := Am h0
 clear h0
 go_enter Tryz.func72, Tryz.ntmps72
 go_wp2_with (fail)
 refine (black_any _ _ _ (Hx.out.below ((Below.refl _ _).alloc (Nat.le_refl _) _))).mono ?_
 rw [A0.out]
 exact dd40
theorem can2_1 (m rt : Bool) (p pl pr pll plr prl prr pa pb : Option Addr) (T : Tr) (w : World) (Hl : Aside0 (Rep S w (.pointer pl) (lT m T))) (Hll : Aside0 (Rep S w (.pointer pll) (lT m (lT m T)))) (Hr : Aside0 (Rep S w (.pointer pr) (rT m T))) (Hx : Aside0 (Rep S w (.pointer p) T)) (h0 : (decide (0 < wt T)) = true) (h1 : (wt (lT m T) == 0) = false) :
  Calls Tryz.prog 72 #[.agg #[.bool m, .pointer p, .pointer pl, .pointer pr, .pointer pll, .pointer plr, .pointer prl, .pointer prr, .pointer pa, .pointer pb, .bool rt], .int .i64 2] w (RB w (.bool false)) := by
 have hu111 := Tryz.underlying121
 have A0 := Am h0
 have A1 := Am h1
 clear h0 h1
 go_enter Tryz.func72, Tryz.ntmps72
 go_wp2_with (fail)
 refine (black_any _ _ _ (Hx.out.below ((Below.refl _ _).alloc (Nat.le_refl _) _))).mono ?_
 rw [A0.out]
 rintro e w' ⟨rfl, rfl⟩
 go_wp2_with (fail)
 refine (red_any _ _ _ (Hl.out.below ((Below.refl _ _).alloc (Nat.le_refl _) _))).mono ?_
 rw [A1.out]
 exact dd40
theorem can2_2 (m rt : Bool) (p pl pr pll plr prl prr pa pb : Option Addr) (T : Tr) (w : World) (Hl : Aside0 (Rep S w (.pointer pl) (lT m T))) (Hll : Aside0 (Rep S w (.pointer pll) (lT m (lT m T)))) (Hr : Aside0 (Rep S w (.pointer pr) (rT m T))) (Hx : Aside0 (Rep S w (.pointer p) T)) (h0 : (decide (0 < wt T)) = true) (h1 : (wt (lT m T) == 0) = true) (h2 : (wt (lT m (lT m T)) == 0) = false) :
  Calls Tryz.prog 72 #[.agg #[.bool m, .pointer p, .pointer pl, .pointer pr, .pointer pll, .pointer plr, .pointer prl, .pointer prr, .pointer pa, .pointer pb, .bool rt], .int .i64 2] w (RB w (.bool false)) := by
 have hu111 := Tryz.underlying121
 have A0 := Am h0
 have A1 := Am h1
 have A2 := Am h2
 clear h0 h1 h2
 go_enter Tryz.func72, Tryz.ntmps72
 go_wp2_with (fail)
 refine (black_any _ _ _ (Hx.out.below ((Below.refl _ _).alloc (Nat.le_refl _) _))).mono ?_
 rw [A0.out]
 rintro e w' ⟨rfl, rfl⟩
 go_wp2_with (fail)
 refine (red_any _ _ _ (Hl.out.below ((Below.refl _ _).alloc (Nat.le_refl _) _))).mono ?_
 rw [A1.out]
 rintro e w' ⟨rfl, rfl⟩
 go_wp2_with (fail)
 refine (red_any _ _ _ (Hll.out.below ((Below.refl _ _).alloc (Nat.le_refl _) _))).mono ?_
 rw [A2.out]
 exact dd40
theorem can2_3 (m rt : Bool) (p pl pr pll plr prl prr pa pb : Option Addr) (T : Tr) (w : World) (Hl : Aside0 (Rep S w (.pointer pl) (lT m T))) (Hll : Aside0 (Rep S w (.pointer pll) (lT m (lT m T)))) (Hr : Aside0 (Rep S w (.pointer pr) (rT m T))) (Hx : Aside0 (Rep S w (.pointer p) T)) (h0 : (decide (0 < wt T)) = true) (h1 : (wt (lT m T) == 0) = true) (h2 : (wt (lT m (lT m T)) == 0) = true) (h3 : (decide (0 < wt (rT m T))) = false) :
  Calls Tryz.prog 72 #[.agg #[.bool m, .pointer p, .pointer pl, .pointer pr, .pointer pll, .pointer plr, .pointer prl, .pointer prr, .pointer pa, .pointer pb, .bool rt], .int .i64 2] w (RB w (.bool false)) := by
 exact dd16
theorem can2_4 (m rt : Bool) (p pl pr pll plr prl prr pa pb : Option Addr) (T : Tr) (w : World) (Hl : Aside0 (Rep S w (.pointer pl) (lT m T))) (Hll : Aside0 (Rep S w (.pointer pll) (lT m (lT m T)))) (Hr : Aside0 (Rep S w (.pointer pr) (rT m T))) (Hx : Aside0 (Rep S w (.pointer p) T)) (h0 : (decide (0 < wt T)) = true) (h1 : (wt (lT m T) == 0) = true) (h2 : (wt (lT m (lT m T)) == 0) = true) (h3 : (decide (0 < wt (rT m T))) = true) :
  Calls Tryz.prog 72 #[.agg #[.bool m, .pointer p, .pointer pl, .pointer pr, .pointer pll, .pointer plr, .pointer prl, .pointer prr, .pointer pa, .pointer pb, .bool rt], .int .i64 2] w (RB w (.bool true)) := by
 exact dd16
theorem can2_any (m rt : Bool) (p pl pr pll plr prl prr pa pb : Option Addr) (T : Tr) (w : World) (Hl : Aside0 (Rep S w (.pointer pl) (lT m T))) (Hll : Aside0 (Rep S w (.pointer pll) (lT m (lT m T)))) (Hr : Aside0 (Rep S w (.pointer pr) (rT m T))) (Hx : Aside0 (Rep S w (.pointer p) T)) :
  Calls Tryz.prog 72 #[.agg #[.bool m, .pointer p, .pointer pl, .pointer pr, .pointer pll, .pointer plr, .pointer prl, .pointer prr, .pointer pa, .pointer pb, .bool rt], .int .i64 2] w (RB w (.bool (can2 m T))) := by
 cases h0 : (decide (0 < wt T)) with
 | false =>
  rw [show can2 m T = false from by simp only [can2, h0, Bool.and_true, Bool.true_and, Bool.and_false, Bool.false_and, Bool.or_true, Bool.true_or, Bool.or_false, Bool.false_or]]
  exact can2_0 m rt p pl pr pll plr prl prr pa pb T w Hl Hll Hr Hx h0
 | true =>
  cases h1 : (wt (lT m T) == 0) with
  | false =>
   rw [show can2 m T = false from by simp only [can2, h0, h1, Bool.and_true, Bool.true_and, Bool.and_false, Bool.false_and, Bool.or_true, Bool.true_or, Bool.or_false, Bool.false_or]]
   exact can2_1 m rt p pl pr pll plr prl prr pa pb T w Hl Hll Hr Hx h0 h1
  | true =>
   cases h2 : (wt (lT m (lT m T)) == 0) with
   | false =>
    rw [show can2 m T = false from by simp only [can2, h0, h1, h2, Bool.and_true, Bool.true_and, Bool.and_false, Bool.false_and, Bool.or_true, Bool.true_or, Bool.or_false, Bool.false_or]]
    exact can2_2 m rt p pl pr pll plr prl prr pa pb T w Hl Hll Hr Hx h0 h1 h2
   | true =>
    cases h3 : (decide (0 < wt (rT m T))) with
    | false =>
     rw [show can2 m T = false from by simp only [can2, h0, h1, h2, h3, Bool.and_true, Bool.true_and, Bool.and_false, Bool.false_and, Bool.or_true, Bool.true_or, Bool.or_false, Bool.false_or]]
     exact can2_3 m rt p pl pr pll plr prl prr pa pb T w Hl Hll Hr Hx h0 h1 h2 h3
    | true =>
     rw [show can2 m T = true from by simp only [can2, h0, h1, h2, h3, Bool.and_true, Bool.true_and, Bool.and_false, Bool.false_and, Bool.or_true, Bool.true_or, Bool.or_false, Bool.false_or]]
     exact can2_4 m rt p pl pr pll plr prl prr pa pb T w Hl Hll Hr Hx h0 h1 h2 h3
end
section
variable {S : Nat → Prop}
def can3 (m : Bool) (T : Tr) : Bool := (decide (0 < wt T)) && (wt (lT m T) == 0) && (wt (rT m (lT m T)) == 0) && (innerB (rT m (lT m T))) && (decide (0 < wt (lT m (lT m T)))) && (decide (0 < wt (rT m T)))
def can4 (m : Bool) (T : Tr) : Bool := (decide (1 < wt (lT m T))) && (wt (rT m T) == 1) && (decide (0 < wt (lT m (rT m T)))) && (decide (0 < wt (rT m (rT m T))))
def can11 (m : Bool) (T : Tr) : Bool := (decide (1 < wt (lT m T))) && (decide (1 < wt (rT m T)))
end
section
variable {S : Nat → Prop}
def can9 (m : Bool) (T : Tr) : Bool := (decide (1 < wt (lT m T))) && (wt (rT m T) == 1) && (wt (rT m (rT m T)) == 0)
def can10 (m : Bool) (T : Tr) : Bool := (decide (1 < wt (lT m T))) && (wt (rT m T) == 1) && (wt (lT m (rT m T)) == 0) && (innerB (lT m (rT m T))) && (decide (0 < wt (rT m (rT m T))))
def can5 (m : Bool) (T : Tr) : Bool := (decide (1 < wt (lT m T))) && (wt (rT m T) == 0) && (decide (1 < wt (lT m (rT m T))))
end
section
variable {S : Nat → Prop}
def can6 (m : Bool) (T : Tr) : Bool := (decide (1 < wt (lT m T))) && (wt (rT m T) == 0) && (wt (lT m (rT m T)) == 1) && (decide (0 < wt (lT m (lT m (rT m T))))) && (decide (0 < wt (rT m (lT m (rT m T)))))
def can7 (m : Bool) (T : Tr) : Bool := (decide (1 < wt (lT m T))) && (wt (rT m T) == 0) && (wt (lT m (rT m T)) == 1) && (wt (lT m (lT m (rT m T))) == 0) && (innerB (lT m (lT m (rT m T)))) && (decide (0 < wt (rT m (lT m (rT m T)))))
def can8 (m : Bool) (T : Tr) : Bool := (decide (1 < wt (lT m T))) && (wt (rT m T) == 0) && (wt (lT m (rT m T)) == 1) && (wt (rT m (lT m (rT m T))) == 0)
end
section
variable {S : Nat → Prop}
def keyT : Tr → Int
 | .nil => 0
 | .node n _ _ _ => n.f0
def DoPost (S : Nat → Prop) (w : World) (R : Tr) (e : Ending) (w' : World) : Prop := ∃ q W, e = .returned (.pointer q) ∧ Below w.heap.size w W ∧ Below W.heap.size W w' ∧ TopRep S W w' (.pointer q) R
theorem do_fin (w : World) (R : Tr) : ∀ (q : Option Addr) (W w' : World), Below w.heap.size w W → Below W.heap.size W w' → TopRep S W w' (.pointer q) R → DoPost S w R (.returned (.pointer q)) w' := fun q W _ h1 h2 h3 => ⟨q, W, rfl, h1, h2, h3⟩
end
section
variable {S : Nat → Prop}
theorem do2_any (m rt : Bool) (p pl pr pll plr prl prr pa pb : Option Addr) {nx : S69} {qx : Int} {lx rx : Tr} {nl : S69} {ql : Int} {ll rl : Tr} {X : Tr} {L : Tr} {R : Tr} {LL : Tr} {LR : Tr} (w : World) (hS : ∀ k, w.heap.size ≤ k → S k) (ex : X = .node nx qx lx rx) (el : L = .node nl ql ll rl) (Hx : Aside0 (Rep S w (.pointer p) X)) (Hl : Aside0 (Rep S w (.pointer pl) L)) (Hr : Aside0 (Rep S w (.pointer pr) R)) (Hll : Aside0 (Rep S w (.pointer pll) LL)) (Hlr : Aside0 (Rep S w (.pointer plr) LR)) :
  Calls Tryz.prog 73 #[.agg #[.bool m, .pointer p, .pointer pl, .pointer pr, .pointer pll, .pointer plr, .pointer prl, .pointer prr, .pointer pa, .pointer pb, .bool rt], .int .i64 2] w fun e w' => DoPost S w (putT m (keyT L) (wt X) LL (putT m (keyT X) 0 LR R)) e w' := by
 have hu111 := Tryz.underlying121
 have Ex := Am ex
 clear ex
 have El := Am el
 clear el
 have HSS := Am hS
 clear hS
 have hfin := do_fin (S := S) w (putT m (keyT L) (wt X) LL (putT m (keyT X) 0 LR R))
 have HF := Am hfin
 clear hfin
 go_enter Tryz.func73, Tryz.ntmps73
 go_wp2_with (fail)
 refine (weight_any _ _ _ (Hx.out.below ((Below.refl _ _).alloc (Nat.le_refl _) _))).mono ?_
 rintro e w' ⟨rfl, rfl⟩
 go_wp2
 have HB0 : Aside0 (Below w.heap.size w (w.alloc (.cells #[.bool m, .pointer p, .pointer pl, .pointer pr, .pointer pll, .pointer plr, .pointer prl, .pointer prr, .pointer pa, .pointer pb, .bool rt] 121))) := ⟨(Below.refl _ _).alloc (Nat.le_refl _) _⟩
 have HV0 : Aside0 ((w.alloc (.cells #[.bool m, .pointer p, .pointer pl, .pointer pr, .pointer pll, .pointer plr, .pointer prl, .pointer prr, .pointer pa, .pointer pb, .bool rt] 121)).heap[w.heap.size]? = some (.cells #[.bool m, .pointer p, .pointer pl, .pointer pr, .pointer pll, .pointer plr, .pointer prl, .pointer prr, .pointer pa, .pointer pb, .bool rt] 121 (0, 0))) := ⟨heap_alloc_new w _⟩
 generalize w.alloc (.cells #[.bool m, .pointer p, .pointer pl, .pointer pr, .pointer pll, .pointer plr, .pointer prl, .pointer prr, .pointer pa, .pointer pb, .bool rt] 121) = w1 at HB0 HV0 ⊢
 obtain ⟨g, hg⟩ : ∃ g, g = w.heap.size := ⟨_, rfl⟩
 rw [← hg] at HV0 ⊢
 clear hg
 have HB0_ := Am (bd HB0.out)
 have HV0_ : Aside0 (w1.drew.heap[g]? = some (.cells #[.bool m, .pointer p, .pointer pl, .pointer pr, .pointer pll, .pointer plr, .pointer prl, .pointer prr, .pointer pa, .pointer pb, .bool rt] 121 (0, 0))) := ⟨HV0.out⟩
 clear HB0 HV0 
 have HB0 := HB0_
 have HV0 := HV0_
 clear HB0_ HV0_
 refine sT 16 [] (S := fun w' => w'.cell? ⟨g, 0, none⟩ = some (.bool m) ∧ w'.cell? ⟨g, 1, none⟩ = some (.pointer p) ∧ w'.cell? ⟨g, 2, none⟩ = some (.pointer pl) ∧ w'.cell? ⟨g, 3, none⟩ = some (.pointer pr) ∧ w'.cell? ⟨g, 4, none⟩ = some (.pointer pll) ∧ w'.cell? ⟨g, 5, none⟩ = some (.pointer plr) ∧ w'.cell? ⟨g, 6, none⟩ = some (.pointer prl) ∧ w'.cell? ⟨g, 7, none⟩ = some (.pointer prr) ∧ w'.cell? ⟨g, 8, none⟩ = some (.pointer pa) ∧ w'.cell? ⟨g, 9, none⟩ = some (.pointer pb) ∧ w'.cell? ⟨g, 10, none⟩ = some (.bool rt)) (vc11 HV0.out) fun hHeld => ?_
 refine pu 1 29 ?_
 refine pu 3 31 ?_
 refine pu 4 32 ?_
 refine pu 7 35 ?_
 refine pu 9 37 ?_
 refine pu 11 39 ?_
 refine ta 0 28 hHeld ?_
 refine ta 2 30 hHeld ?_
 refine ta 5 33 hHeld ?_
 refine ta 6 34 hHeld ?_
 refine ta 8 36 hHeld ?_
 refine ta 10 38 hHeld ?_
 refine ta 12 40 hHeld ?_
 refine on 13 41 fun K hK => ?_
 refine gO Tryz.func133 #[.agg #[.bool m, .pointer p, .pointer pl, .pointer pr, .pointer pll, .pointer plr, .pointer prl, .pointer prr, .pointer pa, .pointer pb, .bool rt], .pointer p, .int .i64 0, .pointer plr, .pointer pr] ?_
 with_reducible refine (put_any _ _ _ _ _ _ _ _ _ _ _ _ _ _ _ _ _ _ _ _ _ _ (fun k hk => HSS.out k (Nat.le_trans HB0.out.size hk)) (by rw [← Ex.out]; exact (Hx.out.below HB0.out)) (Hlr.out.below HB0.out) (Hr.out.below HB0.out)).mono ?_
 rw [show nx.f0 = keyT X from by rw [Ex.out]; rfl]
 rintro e w1_ ⟨v', rfl, h1, h2⟩
 obtain ⟨q1, rfl⟩ := h1.ptr
 have HB1 := Am (HB0.out.trans (h2.mono HB0.out.size))
 have HNq1 := Am (TopRep.rep h1 h2)
 have HV1 := Am ((h2.block _ (Array.getElem?_eq_some_iff.1 HV0.out).1).trans HV0.out)
 clear h1 h2 HB0 HV0
 refine ⟨_, rfl, ?_⟩
 refine hK.out _ _ (vc11 HV1.out) (fun hHeld => ?_)
 clear hK K
 refine nm 41 ?_
 refine on 14 42 fun K hK => ?_
 refine gO Tryz.func133 #[.agg #[.bool m, .pointer p, .pointer pl, .pointer pr, .pointer pll, .pointer plr, .pointer prl, .pointer prr, .pointer pa, .pointer pb, .bool rt], .pointer pl, .int .i64 (wt X), .pointer pll, .pointer q1] ?_
 with_reducible refine (put_any _ _ _ _ _ _ _ _ _ _ _ _ _ _ _ _ _ _ _ _ _ _ (fun k hk => HSS.out k (Nat.le_trans HB1.out.size hk)) (by rw [← El.out]; exact (Hl.out.below HB1.out)) (Hll.out.below HB1.out) HNq1.out).mono ?_
 rw [show nl.f0 = keyT L from by rw [El.out]; rfl]
 rintro e w2_ ⟨v', rfl, h1, h2⟩
 obtain ⟨q2, rfl⟩ := h1.ptr
 have HB2 := Am (HB1.out.trans (h2.mono HB1.out.size))
 have HNq2 := Am (TopRep.rep h1 h2)
 have HTOP := Am h1
 have HTB := Am h2
 have HTW := HB1
 have HV2 := Am ((h2.block _ (Array.getElem?_eq_some_iff.1 HV1.out).1).trans HV1.out)
 replace HNq1 := Am (Rep.below HNq1.out h2)
 clear h1 h2 HB1 HV1
 refine ⟨_, rfl, ?_⟩
 refine hK.out _ _ (vc11 HV2.out) (fun hHeld => ?_)
 clear hK K
 refine nm 42 ?_
 refine pu 15 4 ?_
 refine done_ (by kernel_rfl) ?_
 go_wp2
 go_ret
 exact HF.out _ _ _ HTW.out HTB.out HTOP.out
end
section
variable {S : Nat → Prop}
def canT (m rt : Bool) (T : Tr) (kind : Int) : Bool :=
 if kind = 1 then can1 m T else if kind = 2 then can2 m T else if kind = 3 then can3 m T else if kind = 4 then can4 m T else if kind = 5 then can5 m T else if kind = 6 then can6 m T else if kind = 7 then can7 m T else if kind = 8 then can8 m T else if kind = 9 then can9 m T else if kind = 10 then can10 m T else if kind = 11 then can11 m T else (rt && wt T != 1)
def do1 (m : Bool) (X : Tr) : Tr := (putT m (keyT X) (wrap64 (wt X - 1)) (asT 1 (lT m X)) (asT 1 (rT m X)))
def do2 (m : Bool) (X : Tr) : Tr := (putT m (keyT (lT m X)) (wt X) (lT m (lT m X)) (putT m (keyT X) 0 (rT m (lT m X)) (rT m X)))
def do3 (m : Bool) (X : Tr) : Tr := (putT m (keyT (rT m (lT m X))) (wt X) (putT m (keyT (lT m X)) 0 (lT m (lT m X)) (lT m (rT m (lT m X)))) (putT m (keyT X) 0 (rT m (rT m (lT m X))) (rT m X)))
def do4 (m : Bool) (X : Tr) : Tr := (putT m (keyT X) (wrap64 (wt X + 1)) (lessT (lT m X)) (asT 0 (rT m X)))
def do11 (m : Bool) (X : Tr) : Tr := (putT m (keyT X) (wrap64 (wt X + 1)) (lessT (lT m X)) (lessT (rT m X)))
def do9 (m : Bool) (X : Tr) : Tr := (putT m (keyT (rT m X)) (wt X) (putT m (keyT X) 1 (lessT (lT m X)) (lT m (rT m X))) (asT 1 (rT m (rT m X))))
def do10 (m : Bool) (X : Tr) : Tr := (putT m (keyT (lT m (rT m X))) (wt X) (putT m (keyT X) 1 (lessT (lT m X)) (lT m (lT m (rT m X)))) (putT m (keyT (rT m X)) 1 (rT m (lT m (rT m X))) (rT m (rT m X))))
def do5 (m : Bool) (X : Tr) : Tr := (putT m (keyT (rT m X)) (wt X) (putT m (keyT X) 1 (lessT (lT m X)) (lessT (lT m (rT m X)))) (rT m (rT m X)))
def do6 (m : Bool) (X : Tr) : Tr := (putT m (keyT (rT m X)) (wt X) (putT m (keyT X) 1 (lessT (lT m X)) (asT 0 (lT m (rT m X)))) (rT m (rT m X)))
def do7 (m : Bool) (X : Tr) : Tr := (putT m (keyT (rT m X)) (wt X) (putT m (keyT (lT m (lT m (rT m X)))) 0 (putT m (keyT X) 1 (lessT (lT m X)) (lT m (lT m (lT m (rT m X))))) (putT m (keyT (lT m (rT m X))) 1 (rT m (lT m (lT m (rT m X)))) (rT m (lT m (rT m X))))) (rT m (rT m X)))
def do8 (m : Bool) (X : Tr) : Tr := (putT m (keyT (rT m X)) (wt X) (putT m (keyT (lT m (rT m X))) 0 (putT m (keyT X) 1 (lessT (lT m X)) (lT m (lT m (rT m X)))) (asT 1 (rT m (lT m (rT m X))))) (rT m (rT m X)))
def do12 (X : Tr) : Tr := asT 1 X
def doT (m : Bool) (X : Tr) (kind : Int) : Tr :=
 if kind = 1 then do1 m X else if kind = 2 then do2 m X else if kind = 3 then do3 m X else if kind = 4 then do4 m X else if kind = 5 then do5 m X else if kind = 6 then do6 m X else if kind = 7 then do7 m X else if kind = 8 then do8 m X else if kind = 9 then do9 m X else if kind = 10 then do10 m X else if kind = 11 then do11 m X else do12 X
theorem node_of {T : Tr} (h : T ≠ .nil) : ∃ n q l r, T = .node n q l r := by
 cases T with
 | nil => exact absurd rfl h
 | node n q l r => exact ⟨n, q, l, r, rfl⟩
theorem wt_ne {T : Tr} (h : wt T ≠ -1) : T ≠ .nil := fun e => h (by rw [e]; rfl)
end
structure OkT (t : List S69) : Prop where
 len : t.length ≤ 100000
 kids : ∀ i, i < t.length → 0 ≤ (t.getD i z69).f4 → (t.getD i z69).f4 < t.length ∧ 0 ≤ (t.getD i z69).f5 ∧ (t.getD i z69).f5 < t.length ∧ (t.getD i z69).f4 ≠ (t.getD i z69).f5
def DoOK (w : World) (xs : List S69) (e : Ending) (w' : World) : Prop := ∃ v0, e = .returned (.tuple #[v0, .int .i64 0]) ∧ Kd.R k69 69 w' w.heap.size (fun _ => True) v0 xs ∧ Below w.heap.size w w'
theorem do_ok_fin (w : World) (T : Tr) : ∀ wg wr v0 w', Below w.heap.size w wg → Below wg.heap.size wg wr → FlatPost wr T (.returned v0) w' → DoOK w (flatT T 0) (.returned (.tuple #[v0, .int .i64 0])) w' := by
 rintro wg wr v0 w' h1 h2 ⟨v1, hv, h3, h4⟩
 injection hv with hv
 subst hv
 have h5 : Below w.heap.size w wr := h1.trans (h2.mono h1.size)
 exact ⟨_, rfl, Kd.R_lower h3 h5.size, h5.trans (h4.mono h5.size)⟩
theorem setc11 {w : World} {g k : Nat} (h : k ≠ g) (v0 v1 v2 v3 v4 v5 v6 v7 v8 v9 v10 : Value) : ((((((((((((w.setCell ⟨g, 0, none⟩ v0).setCell ⟨g, 1, none⟩ v1).setCell ⟨g, 2, none⟩ v2).setCell ⟨g, 3, none⟩ v3).setCell ⟨g, 4, none⟩ v4).setCell ⟨g, 5, none⟩ v5).setCell ⟨g, 6, none⟩ v6).setCell ⟨g, 7, none⟩ v7).setCell ⟨g, 8, none⟩ v8).setCell ⟨g, 9, none⟩ v9).setCell ⟨g, 10, none⟩ v10)).heap[k]? = w.heap[k]? := by
 rw [put_blk_ne h, put_blk_ne h, put_blk_ne h, put_blk_ne h, put_blk_ne h, put_blk_ne h, put_blk_ne h, put_blk_ne h, put_blk_ne h, put_blk_ne h, put_blk_ne h]
theorem size126 : (Tryz.prog.info? 126).map (fun i => i.size) = some 9 := by kernel_rfl
theorem eqp_same (w : World) (a : Addr) : (binOp .eql 119 (.pointer (some a)) (.pointer (some a))).run Tryz.prog w = .ok (.bool true) w := by
 obtain ⟨i, hi, _⟩ := Option.map_eq_some_iff.1 size126
 exact run_eql_ptr_same w a Tryz.underlying119 hi
theorem eqp_other (w : World) {a b : Addr} {ca cb : Array Value} {ta tb : TypeId} (hne : a ≠ b) (ha : w.heap[a.block]? = some (.cells ca ta (0, 0))) (hb : w.heap[b.block]? = some (.cells cb tb (0, 0))) : (binOp .eql 119 (.pointer (some a)) (.pointer (some b))).run Tryz.prog w = .ok (.bool false) w := by
 obtain ⟨i, hi, hs⟩ := Option.map_eq_some_iff.1 size126
 exact run_eql_ptr_other w Tryz.underlying119 hi (by rw [hs]; decide) hne ha hb
theorem mkT_nil {t : List S69} {k i : Nat} (h : mkT t k i = some .nil) : False := by
 cases k with
 | zero => simp [mkT] at h
 | succ k =>
  rw [mkT] at h
  split at h
  ·split at h
   ·obtain ⟨l, hl, h⟩ := Option.bind_eq_some_iff.1 h
    obtain ⟨r, hr, h⟩ := Option.bind_eq_some_iff.1 h
    injection h with h
    injection h
   ·injection h with h
    injection h
  ·exact absurd h (by simp)
section
variable {S : Nat → Prop}
theorem can_two (m rt : Bool) (p pl pr pll plr prl prr pa pb : Option Addr) (T : Tr) (w : World) (Hx : Aside0 (Rep S w (.pointer p) T)) (Hl : Aside0 (Rep S w (.pointer pl) (lT m T))) (Hr : Aside0 (Rep S w (.pointer pr) (rT m T))) (Hll : Aside0 (Rep S w (.pointer pll) (lT m (lT m T)))) (Hlr : Aside0 (Rep S w (.pointer plr) (rT m (lT m T)))) (Hrl : Aside0 (Rep S w (.pointer prl) (lT m (rT m T)))) (Hrr : Aside0 (Rep S w (.pointer prr) (rT m (rT m T)))) (Ha : Aside0 (Rep S w (.pointer pa) (lT m (lT m (rT m T))))) (Hb : Aside0 (Rep S w (.pointer pb) (rT m (lT m (rT m T))))) (kind : Int) (hk : kind = 2) :
  Calls Tryz.prog 72 #[.agg #[.bool m, .pointer p, .pointer pl, .pointer pr, .pointer pll, .pointer plr, .pointer prl, .pointer prr, .pointer pa, .pointer pb, .bool rt], .int .i64 kind] w (RB w (.bool (canT m rt T kind))) := by
 subst hk
 exact can2_any m rt p pl pr pll plr prl prr pa pb T w Hl Hll Hr Hx
theorem do_two (m rt : Bool) (p pl pr pll plr prl prr pa pb : Option Addr) (T : Tr) (w : World) (hS : ∀ k, w.heap.size ≤ k → S k) (Hx : Aside0 (Rep S w (.pointer p) T)) (Hl : Aside0 (Rep S w (.pointer pl) (lT m T))) (Hr : Aside0 (Rep S w (.pointer pr) (rT m T))) (Hll : Aside0 (Rep S w (.pointer pll) (lT m (lT m T)))) (Hlr : Aside0 (Rep S w (.pointer plr) (rT m (lT m T)))) (Hrl : Aside0 (Rep S w (.pointer prl) (lT m (rT m T)))) (Hrr : Aside0 (Rep S w (.pointer prr) (rT m (rT m T)))) (Ha : Aside0 (Rep S w (.pointer pa) (lT m (lT m (rT m T))))) (Hb : Aside0 (Rep S w (.pointer pb) (rT m (lT m (rT m T))))) (kind : Int) (hk : kind = 2) (hT : T ≠ .nil) (hc : canT m rt T kind = true) :
  Calls Tryz.prog 73 #[.agg #[.bool m, .pointer p, .pointer pl, .pointer pr, .pointer pll, .pointer plr, .pointer prl, .pointer prr, .pointer pa, .pointer pb, .bool rt], .int .i64 kind] w fun e w' => DoPost S w (doT m T kind) e w' := by
 subst hk
 obtain ⟨nx, qx, lx, rx, ex⟩ := node_of hT
 replace hc : can2 m T = true := hc
 simp only [can2, Bool.and_eq_true, beq_iff_eq, decide_eq_true_eq] at hc
 obtain ⟨nl, ql, ll, rl, el⟩ := node_of (T := (lT m T)) (wt_ne (by omega))
 exact do2_any m rt p pl pr pll plr prl prr pa pb w hS ex el Hx Hl Hr Hll Hlr
end
theorem do_ok2 (k : Nat) (A0 : Option Addr) (c0 : Nat) (l0 : List S69) (c : Nat) (kind : Int) (mir : Bool) (r1 : Int) (r2 : List Bool) (w : World) (hr0 : Kd.C k69 w A0 l0.length l0) (hc0 : l0.length ≤ c0)
  (h : steps_keys.f k l0 = some (r1, r2, 0)) (hm : steps_Move_is.f kind mir = some true) (hkd : kind = 2) (hp1 : (c : Int) < l0.length) (hp2 : (c : Int) < r2.length) (hbel : rdOf false r2 c = true) (ht : OkT l0) (K : Nat) (X : Tr) (hX : mkT l0 K c = some X) (rt : Bool) (hrt : ((c : Int) == r1) = rt) (hrf : rt = true) (hcan : canT mir rt X kind = true) (K1 : Nat) (T1 : Tr) (hT1 : mkR l0 c (setW (doT mir X kind) 1) K1 0 = some T1) (hfull : Full T1) (hsz : sizeT T1 ≤ 1000000) :
  Calls Tryz.prog 34 #[.slice A0 l0.length c0, .int .i64 c, .agg #[.int .i64 kind, .bool mir]] w fun e w' => DoOK w (flatT T1 0) e w' := by
 have HCAN := Am hcan
 clear hcan
 have HT1 := Am hT1
 have HFULL := Am hfull
 have HSZ := Am hsz
 clear hT1 hfull hsz
 have hxn : X ≠ .nil := by rintro rfl; exact mkT_nil hX
 have HXN := Am hxn
 clear hxn
 have HRF := Am hrf
 clear hrf
 have hu62 := Tryz.underlying49
 have hu111 := Tryz.underlying121
 have hu116 := Tryz.underlying126
 have hu34 := Tryz.underlying69
 have HR := Am hr0
 have HC := Am hc0
 have H := Am h
 have HM := Am hm
 have HT := Am ht
 have HX := Am hX
 have HKD := Am hkd
 have HBEL := Am hbel
 have hlen : l0.length ≤ 100000 := ht.len
 have hcl : c < l0.length := by omega
 clear hr0 hc0 h hm ht hX hkd hbel
 go_enter Tryz.func34, Tryz.ntmps34
 go_wp2_with (fail)
 refine (at_okt k A0 c0 l0 c kind mir r1 r2 _ (Kd.C_below HR.out ((Below.refl _ _).alloc (Nat.le_refl _) _)) HC.out H.out (fun _ => HM.out) (by omega) hp1 hp2 HBEL.out (by omega) (fun i hi h4 => ⟨(HT.out.kids i hi h4).1, (HT.out.kids i hi h4).2.1, (HT.out.kids i hi h4).2.2.1⟩)).mono ?_
 rintro e w2 ⟨wg, rfl, hbg, hfo⟩
 have hbw : Below w.heap.size w wg := ((Below.refl _ _).alloc (Nat.le_refl _) _).trans (hbg.mono (by simp))
 have hg0 : w.heap.size < wg.heap.size := by have h_ := hbg.size; simp at h_; omega
 have hbx0 : wg.cell? ⟨w.heap.size, 0, none⟩ = some (.int .i64 kind) := (hbg.cell (p := ⟨w.heap.size, 0, none⟩) (by simp)).trans (World.cell?_alloc_at _ _ _ _ rfl)
 have hbx1 : wg.cell? ⟨w.heap.size, 1, none⟩ = some (.bool mir) := (hbg.cell (p := ⟨w.heap.size, 1, none⟩) (by simp)).trans (World.cell?_alloc_at _ _ _ _ rfl)
 have HBW := Am hbw
 have HFO := Am hfo
 have HX0 := Am hbx0
 have HX1 := Am hbx1
 have HRX : Aside0 (Rep (fun k_ => SetC wg.heap.size l0 c k_ ∧ k_ < w2.heap.size) w2 (.pointer (some ⟨wg.heap.size + 2 + 2 * c, 0, none⟩)) X) := ⟨(forest_rep hfo HX.out K c X HX.out (Nat.le_refl _)).bound⟩
 have hg2 : wg.heap.size < w2.heap.size := rowIs_lt hfo.ptrs
 have hpc : w2.drew.cell? ⟨wg.heap.size, c, none⟩ = some (.pointer (some ⟨wg.heap.size + 2 + 2 * c, 0, none⟩)) := (rowIs_cell hfo.ptrs c hcl).trans (by rw [if_pos hcl]; rfl)
 have hb0 : w2.drew.cell? ⟨w.heap.size, 0, none⟩ = some (.int .i64 kind) := (hfo.bel.cell (p := ⟨w.heap.size, 0, none⟩) hg0).trans hbx0
 have hb1 : w2.drew.cell? ⟨w.heap.size, 1, none⟩ = some (.bool mir) := (hfo.bel.cell (p := ⟨w.heap.size, 1, none⟩) hg0).trans hbx1
 clear hbg hbw hfo hbx0 hbx1
 go_wp2
 have HPC := Am hpc
 have HB0 := Am hb0
 have HB1 := Am hb1
 refine sT 11 [10] (S := fun w' => w'.cell? ⟨wg.heap.size, c, none⟩ = some (.pointer (some ⟨wg.heap.size + 2 + 2 * c, 0, none⟩)) ∧ w'.cell? ⟨w.heap.size, 0, none⟩ = some (.int .i64 kind) ∧ w'.cell? ⟨w.heap.size, 1, none⟩ = some (.bool mir)) ⟨hpc, hb0, hb1⟩ fun hHeld => ?_
 refine pu 0 26 ?_
 refine pu 1 27 ?_
 refine pu 2 28 ?_
 refine pu 5 31 ?_
 refine pu 6 32 ?_
 refine pu 7 33 ?_
 refine ta 3 29 hHeld ?_
 refine ta 4 30 hHeld ?_
 refine join_ (σ := Nat × Option Addr × Option Addr × Option Addr × Option Addr × Option Addr × Option Addr × Option Addr × Option Addr) 1 #[true, true, true, true, true, true, true, true, true, true, false] (fun s => [(34, .agg #[.bool mir, .pointer (some ⟨wg.heap.size + 2 + 2 * c, 0, none⟩), .pointer s.2.1, .pointer s.2.2.1, .pointer s.2.2.2.1, .pointer s.2.2.2.2.1, .pointer s.2.2.2.2.2.1, .pointer s.2.2.2.2.2.2.1, .pointer s.2.2.2.2.2.2.2.1, .pointer s.2.2.2.2.2.2.2.2, .bool rt]), (11, .pointer (some ⟨s.1, 0, none⟩))]) (fun s w' => Below w2.heap.size w2 w' ∧ w2.heap.size ≤ s.1 ∧ w'.heap[s.1]? = some (.cells #[.bool false, .pointer none, .pointer none, .pointer none, .pointer none, .pointer none, .pointer none, .pointer none, .pointer none, .pointer none, .bool false] 121 (0, 0)) ∧ Rep (fun k_ => SetC wg.heap.size l0 c k_ ∧ k_ < w2.heap.size) w' (.pointer s.2.1) (lT mir X) ∧ Rep (fun k_ => SetC wg.heap.size l0 c k_ ∧ k_ < w2.heap.size) w' (.pointer s.2.2.1) (rT mir X) ∧ Rep (fun k_ => SetC wg.heap.size l0 c k_ ∧ k_ < w2.heap.size) w' (.pointer s.2.2.2.1) (lT mir (lT mir X)) ∧ Rep (fun k_ => SetC wg.heap.size l0 c k_ ∧ k_ < w2.heap.size) w' (.pointer s.2.2.2.2.1) (rT mir (lT mir X)) ∧ Rep (fun k_ => SetC wg.heap.size l0 c k_ ∧ k_ < w2.heap.size) w' (.pointer s.2.2.2.2.2.1) (lT mir (rT mir X)) ∧ Rep (fun k_ => SetC wg.heap.size l0 c k_ ∧ k_ < w2.heap.size) w' (.pointer s.2.2.2.2.2.2.1) (rT mir (rT mir X)) ∧ Rep (fun k_ => SetC wg.heap.size l0 c k_ ∧ k_ < w2.heap.size) w' (.pointer s.2.2.2.2.2.2.2.1) (lT mir (lT mir (rT mir X))) ∧ Rep (fun k_ => SetC wg.heap.size l0 c k_ ∧ k_ < w2.heap.size) w' (.pointer s.2.2.2.2.2.2.2.2) (rT mir (lT mir (rT mir X)))) ?_ ?_
 rotate_left
 ·intro hCont
  refine two_ (i := 8) (j := 9) (Ni := some 34) (Nj := some 11) #[true, true, true, true, true, true, true, true, true, false, false] #[true, true, true, true, true, true, true, true, false, true, false] rfl rfl rfl rfl (by kernel_rfl) (by decide) (by decide) (fun K hK => ?_) (fun K hK => ?_)
  ·skip
   refine gO Tryz.func71 #[.pointer (some ⟨wg.heap.size + 2 + 2 * c, 0, none⟩), .agg #[.int .i64 kind, .bool mir], .bool rt] ?_
   with_reducible refine (look_any (S := (fun k_ => SetC wg.heap.size l0 c k_ ∧ k_ < w2.heap.size)) _ X _ _ _ _ (by first | exact HRX.out.below ((Below.refl _ _).drew) | exact HRX.out.below HBA.out)).mono ?_
   rintro e wL ⟨pl, pr, pll, plr, prl, prr, pa, pb, rfl, hLb, r1, r2, r3, r4, r5, r6, r7, r8⟩
   refine ⟨_, rfl, ?_⟩
   refine hK.out _ _ ⟨(hLb.cell (blt _ _ hHeld.1)).trans hHeld.1, (hLb.cell (blt _ _ hHeld.2.1)).trans hHeld.2.1, (hLb.cell (blt _ _ hHeld.2.2)).trans hHeld.2.2⟩ (fun hHeld => ?_)
   clear hK K
   refine nm 34 ?_
   refine on 9 11 fun K hK => ?_
   refine box_step (by rfl) (N := 11) rfl (cs := #[.bool false, .pointer none, .pointer none, .pointer none, .pointer none, .pointer none, .pointer none, .pointer none, .pointer none, .pointer none, .bool false]) (t := 121) ?hr ?_
   case hr => first | (go_simp; done) | (go_simp; rfl)
   intro g hg wA hbox hbA
   have hgs : w2.heap.size ≤ g := by rw [hg]; exact hLb.size
   refine hK.out _ _ ⟨(hbA.cell (blt _ _ hHeld.1)).trans hHeld.1, (hbA.cell (blt _ _ hHeld.2.1)).trans hHeld.2.1, (hbA.cell (blt _ _ hHeld.2.2)).trans hHeld.2.2⟩ (fun hHeld => ?_)
   clear hK K
   refine nm 11 ?_
   exact norm_ (by simp only [putAll, Act.put, sI, sZ, sS]) (hCont (g, pl, pr, pll, plr, prl, prr, pa, pb) _ ⟨((Below.refl w2.heap.size w2).drew.trans (hLb.mono (Nat.le_refl _))).trans (hbA.mono hLb.size), hgs, hbox, (r1.below hLb).below hbA, (r2.below hLb).below hbA, (r3.below hLb).below hbA, (r4.below hLb).below hbA, (r5.below hLb).below hbA, (r6.below hLb).below hbA, (r7.below hLb).below hbA, (r8.below hLb).below hbA⟩)
  ·skip
   refine box_step (by rfl) (N := 11) rfl (cs := #[.bool false, .pointer none, .pointer none, .pointer none, .pointer none, .pointer none, .pointer none, .pointer none, .pointer none, .pointer none, .bool false]) (t := 121) ?hr ?_
   case hr => first | (go_simp; done) | (go_simp; rfl)
   intro g hg wA hbox hbA
   have HBA := Am (((Below.refl w2.heap.size w2).drew).trans (hbA.mono (Nat.le_refl _)))
   have hgs : w2.heap.size ≤ g := by rw [hg]; exact Nat.le_refl _
   refine hK.out _ _ ⟨(hbA.cell (blt _ _ hHeld.1)).trans hHeld.1, (hbA.cell (blt _ _ hHeld.2.1)).trans hHeld.2.1, (hbA.cell (blt _ _ hHeld.2.2)).trans hHeld.2.2⟩ (fun hHeld => ?_)
   clear hK K
   refine nm 11 ?_
   refine on 8 34 fun K hK => ?_
   refine gO Tryz.func71 #[.pointer (some ⟨wg.heap.size + 2 + 2 * c, 0, none⟩), .agg #[.int .i64 kind, .bool mir], .bool rt] ?_
   with_reducible refine (look_any (S := (fun k_ => SetC wg.heap.size l0 c k_ ∧ k_ < w2.heap.size)) _ X _ _ _ _ (by first | exact HRX.out.below ((Below.refl _ _).drew) | exact HRX.out.below HBA.out)).mono ?_
   rintro e wL ⟨pl, pr, pll, plr, prl, prr, pa, pb, rfl, hLb, r1, r2, r3, r4, r5, r6, r7, r8⟩
   refine ⟨_, rfl, ?_⟩
   refine hK.out _ _ ⟨(hLb.cell (blt _ _ hHeld.1)).trans hHeld.1, (hLb.cell (blt _ _ hHeld.2.1)).trans hHeld.2.1, (hLb.cell (blt _ _ hHeld.2.2)).trans hHeld.2.2⟩ (fun hHeld => ?_)
   clear hK K
   refine nm 34 ?_
   exact norm_ (by simp only [putAll, Act.put, sI, sZ, sS]) (hCont (g, pl, pr, pll, plr, prl, prr, pa, pb) _ ⟨HBA.out.trans (hLb.mono hbA.size), hgs, (hLb.block _ (Array.getElem?_eq_some_iff.1 hbox).1).trans hbox, r1.below hLb, r2.below hLb, r3.below hLb, r4.below hLb, r5.below hLb, r6.below hLb, r7.below hLb, r8.below hLb⟩)
 rintro ⟨g, pl, pr, pll, plr, prl, prr, pa, pb⟩ w3 ⟨hF1, hF2, hF3, y1, y2, y3, y4, y5, y6, y7, y8⟩
 replace hF2 : w2.heap.size ≤ g := hF2
 replace hF3 : w3.heap[g]? = some (.cells #[.bool false, .pointer none, .pointer none, .pointer none, .pointer none, .pointer none, .pointer none, .pointer none, .pointer none, .pointer none, .bool false] 121 (0, 0)) := hF3
 have HY1 : Aside0 (Rep (fun k_ => SetC wg.heap.size l0 c k_ ∧ k_ < w2.heap.size) w3 (.pointer pl) (lT mir X)) := ⟨y1⟩
 have HY2 : Aside0 (Rep (fun k_ => SetC wg.heap.size l0 c k_ ∧ k_ < w2.heap.size) w3 (.pointer pr) (rT mir X)) := ⟨y2⟩
 have HY3 : Aside0 (Rep (fun k_ => SetC wg.heap.size l0 c k_ ∧ k_ < w2.heap.size) w3 (.pointer pll) (lT mir (lT mir X))) := ⟨y3⟩
 have HY4 : Aside0 (Rep (fun k_ => SetC wg.heap.size l0 c k_ ∧ k_ < w2.heap.size) w3 (.pointer plr) (rT mir (lT mir X))) := ⟨y4⟩
 have HY5 : Aside0 (Rep (fun k_ => SetC wg.heap.size l0 c k_ ∧ k_ < w2.heap.size) w3 (.pointer prl) (lT mir (rT mir X))) := ⟨y5⟩
 have HY6 : Aside0 (Rep (fun k_ => SetC wg.heap.size l0 c k_ ∧ k_ < w2.heap.size) w3 (.pointer prr) (rT mir (rT mir X))) := ⟨y6⟩
 have HY7 : Aside0 (Rep (fun k_ => SetC wg.heap.size l0 c k_ ∧ k_ < w2.heap.size) w3 (.pointer pa) (lT mir (lT mir (rT mir X)))) := ⟨y7⟩
 have HY8 : Aside0 (Rep (fun k_ => SetC wg.heap.size l0 c k_ ∧ k_ < w2.heap.size) w3 (.pointer pb) (rT mir (lT mir (rT mir X)))) := ⟨y8⟩
 have hHeld : w3.cell? ⟨wg.heap.size, c, none⟩ = some (.pointer (some ⟨wg.heap.size + 2 + 2 * c, 0, none⟩)) ∧ w3.cell? ⟨w.heap.size, 0, none⟩ = some (.int .i64 kind) ∧ w3.cell? ⟨w.heap.size, 1, none⟩ = some (.bool mir) := ⟨(hF1.cell (p := ⟨wg.heap.size, c, none⟩) hg2).trans HPC.out, (hF1.cell (p := ⟨w.heap.size, 0, none⟩) (Nat.lt_trans hg0 hg2)).trans HB0.out, (hF1.cell (p := ⟨w.heap.size, 1, none⟩) (Nat.lt_trans hg0 hg2)).trans HB1.out⟩
 obtain ⟨hz0, hz1, hz2, hz3, hz4, hz5, hz6, hz7, hz8, hz9, hz10⟩ := vc11 hF3
 have hfz0 := frz_of hF3 0
 have hfz1 := frz_of hF3 1
 have hfz2 := frz_of hF3 2
 have hfz3 := frz_of hF3 3
 have hfz4 := frz_of hF3 4
 have hfz5 := frz_of hF3 5
 have hfz6 := frz_of hF3 6
 have hfz7 := frz_of hF3 7
 have hfz8 := frz_of hF3 8
 have hfz9 := frz_of hF3 9
 have hfz10 := frz_of hF3 10
 have HF1 := Am hF1
 have HF3 := Am hF3
 clear hF1 hF3 y1 y2 y3 y4 y5 y6 y7 y8
 refine norm_ (a' := ?_) ?_ ?_
 rotate_left
 ·simp only [putAll, Act.put, sI, sZ, sS]
  rfl
 refine la0 10 (fun K hK => ?_)
 refine sk ?_
 refine hK.out _ _ ?_
 clear hK K
 refine done_ (by kernel_rfl) ?_
 have hV := put11 HF3.out (.bool mir) (.pointer (some ⟨wg.heap.size + 2 + 2 * c, 0, none⟩)) (.pointer pl) (.pointer pr) (.pointer pll) (.pointer plr) (.pointer prl) (.pointer prr) (.pointer pa) (.pointer pb) (.bool rt)
 have hB := below11 HF1.out hF2 (.bool mir) (.pointer (some ⟨wg.heap.size + 2 + 2 * c, 0, none⟩)) (.pointer pl) (.pointer pr) (.pointer pll) (.pointer plr) (.pointer prl) (.pointer prr) (.pointer pa) (.pointer pb) (.bool rt)
 have hK : ∀ k_, k_ < w2.heap.size → (((((((((((w3.setCell ⟨g, 0, none⟩ (.bool mir)).setCell ⟨g, 1, none⟩ (.pointer (some ⟨wg.heap.size + 2 + 2 * c, 0, none⟩))).setCell ⟨g, 2, none⟩ (.pointer pl)).setCell ⟨g, 3, none⟩ (.pointer pr)).setCell ⟨g, 4, none⟩ (.pointer pll)).setCell ⟨g, 5, none⟩ (.pointer plr)).setCell ⟨g, 6, none⟩ (.pointer prl)).setCell ⟨g, 7, none⟩ (.pointer prr)).setCell ⟨g, 8, none⟩ (.pointer pa)).setCell ⟨g, 9, none⟩ (.pointer pb)).setCell ⟨g, 10, none⟩ (.bool rt)).heap[k_]? = w3.heap[k_]? := fun k_ hk_ => setc11 (by omega) (.bool mir) (.pointer (some ⟨wg.heap.size + 2 + 2 * c, 0, none⟩)) (.pointer pl) (.pointer pr) (.pointer pll) (.pointer plr) (.pointer prl) (.pointer prr) (.pointer pa) (.pointer pb) (.bool rt)
 clear hz0 hfz0 hz1 hfz1 hz2 hfz2 hz3 hfz3 hz4 hfz4 hz5 hfz5 hz6 hfz6 hz7 hfz7 hz8 hfz8 hz9 hfz9 hz10 hfz10 HF3 HF1
 generalize (((((((((((w3.setCell ⟨g, 0, none⟩ (.bool mir)).setCell ⟨g, 1, none⟩ (.pointer (some ⟨wg.heap.size + 2 + 2 * c, 0, none⟩))).setCell ⟨g, 2, none⟩ (.pointer pl)).setCell ⟨g, 3, none⟩ (.pointer pr)).setCell ⟨g, 4, none⟩ (.pointer pll)).setCell ⟨g, 5, none⟩ (.pointer plr)).setCell ⟨g, 6, none⟩ (.pointer prl)).setCell ⟨g, 7, none⟩ (.pointer prr)).setCell ⟨g, 8, none⟩ (.pointer pa)).setCell ⟨g, 9, none⟩ (.pointer pb)).setCell ⟨g, 10, none⟩ (.bool rt)) = w4 at hV hB hK ⊢
 have HRpl := Am (HY1.out.keptS (w' := w4) (fun k_ hk_ _ => hK k_ hk_.2))
 have HRpr := Am (HY2.out.keptS (w' := w4) (fun k_ hk_ _ => hK k_ hk_.2))
 have HRpll := Am (HY3.out.keptS (w' := w4) (fun k_ hk_ _ => hK k_ hk_.2))
 have HRplr := Am (HY4.out.keptS (w' := w4) (fun k_ hk_ _ => hK k_ hk_.2))
 have HRprl := Am (HY5.out.keptS (w' := w4) (fun k_ hk_ _ => hK k_ hk_.2))
 have HRprr := Am (HY6.out.keptS (w' := w4) (fun k_ hk_ _ => hK k_ hk_.2))
 have HRpa := Am (HY7.out.keptS (w' := w4) (fun k_ hk_ _ => hK k_ hk_.2))
 have HRpb := Am (HY8.out.keptS (w' := w4) (fun k_ hk_ _ => hK k_ hk_.2))
 have HRp := Am (HRX.out.below hB)
 have HV := Am hV
 have HB := Am hB
 clear HY1 HY2 HY3 HY4 HY5 HY6 HY7 HY8 hK
 have hk0 : w4.cell? ⟨w.heap.size, 0, none⟩ = some (.int .i64 kind) := (hB.cell (p := ⟨w.heap.size, 0, none⟩) (Nat.lt_trans hg0 hg2)).trans HB0.out
 have HK0 := Am hk0
 obtain ⟨hv0, hv1, hv2, hv3, hv4, hv5, hv6, hv7, hv8, hv9, hv10⟩ := vc11 hV
 clear hV hB HPC HB0 HB1
 go_wp2_with (fail)
 refine (can_two mir rt (some ⟨wg.heap.size + 2 + 2 * c, 0, none⟩) pl pr pll plr prl prr pa pb X _ HRp HRpl HRpr HRpll HRplr HRprl HRprr HRpa HRpb kind HKD.out).mono ?_
 rw [HCAN.out]
 rintro e w5 ⟨rfl, h5⟩
 have HB5 := Am (HB.out.trans (h5.mono HB.out.size))
 have H5 := Am h5
 have HV5 := Am ((h5.block _ (Array.getElem?_eq_some_iff.1 HV.out).1).trans HV.out)
 have hk5 := (h5.cell (blt _ _ HK0.out)).trans HK0.out
 clear h5 hv0 hv1 hv2 hv3 hv4 hv5 hv6 hv7 hv8 hv9 hv10 hk0 HV
 obtain ⟨hw0, hw1, hw2, hw3, hw4, hw5, hw6, hw7, hw8, hw9, hw10⟩ := vc11 HV5.out
 go_wp2_with (fail)
 refine (do_two (S := (fun k_ => (fun k_ => SetC wg.heap.size l0 c k_ ∧ k_ < w2.heap.size) k_ ∨ w5.heap.size ≤ k_)) mir rt (some ⟨wg.heap.size + 2 + 2 * c, 0, none⟩) pl pr pll plr prl prr pa pb X _ (fun _ hk_ => .inr hk_) ⟨(HRp.out.below H5.out).mono (fun _ hk_ => .inl hk_)⟩ ⟨(HRpl.out.below H5.out).mono (fun _ hk_ => .inl hk_)⟩ ⟨(HRpr.out.below H5.out).mono (fun _ hk_ => .inl hk_)⟩ ⟨(HRpll.out.below H5.out).mono (fun _ hk_ => .inl hk_)⟩ ⟨(HRplr.out.below H5.out).mono (fun _ hk_ => .inl hk_)⟩ ⟨(HRprl.out.below H5.out).mono (fun _ hk_ => .inl hk_)⟩ ⟨(HRprr.out.below H5.out).mono (fun _ hk_ => .inl hk_)⟩ ⟨(HRpa.out.below H5.out).mono (fun _ hk_ => .inl hk_)⟩ ⟨(HRpb.out.below H5.out).mono (fun _ hk_ => .inl hk_)⟩ kind HKD.out HXN.out HCAN.out).mono ?_
 rintro e w6 ⟨q, W6, rfl, h6a, h6b, h6c⟩
 have HB6 := Am ((HB5.out.trans (h6a.mono HB5.out.size)).trans (h6b.mono (Nat.le_trans HB5.out.size h6a.size)))
 have hge6 : w5.heap.size ≤ W6.heap.size := h6a.size
 have HTOP := Am h6c
 have HTB := Am h6b
 clear h6a h6b h6c hw0 hw1 hw2 hw3 hw4 hw5 hw6 hw7 hw8 hw9 hw10
 have hrf := HRF.out
 subst hrf
 obtain ⟨b6, hq6, hb6, ⟨u6, hcu6⟩, hfu6, hrep6⟩ := top_set HTOP.out HTB.out 1
 injection hq6 with hq6
 subst hq6
 have HREP := Am hrep6
 clear hrep6
 have hge : w2.heap.size ≤ b6 := Nat.le_trans (Nat.le_trans HB5.out.size hge6) hb6
 have HB7 := Am (HB6.out.setCell (p := ⟨b6, 2, none⟩) hge (.int .i64 1))
 go_wp2
 have hf2 := forest2_start (forest_kept HFO.out HB7.out) c (some ⟨b6, 0, none⟩)
 have HF2 := Am hf2
 clear hf2
 have hfin := do_ok_fin w T1
 have HFIN := Am hfin
 clear hfin
 generalize (w6.setCell ⟨b6, 2, none⟩ (.int .i64 1)) = w7 at HB7 HF2 HREP ⊢
 go_loopg [59] l0.length (fun gk vi wr => ∃ i : Nat, vi = .int .i64 (i : Int) ∧ i ≤ l0.length ∧ Aside0 (gk + i = l0.length) ∧ Aside0 (Forest2 wg wr l0 c (some ⟨b6, 0, none⟩) i) ∧ Aside0 (Rep (fun k_ => (fun k_ => SetC wg.heap.size l0 c k_ ∧ k_ < w2.heap.size) k_ ∨ w5.heap.size ≤ k_) wr (.pointer (some ⟨b6, 0, none⟩)) (setW (doT mir X kind) 1)))
 case atStart => exact ⟨0, rfl, Nat.zero_le _, ⟨by omega⟩, HF2, HREP⟩
 case round =>
  clear HF2 HREP
  obtain ⟨i, rfl, hil, HK, HF2, HREP⟩ := hrel
  have hpc : wr.cell? ⟨wg.heap.size, c, none⟩ = some (.pointer (some ⟨wg.heap.size + 2 + 2 * c, 0, none⟩)) := rowIs_cell HF2.out.ptrs c hcl
  by_cases hlt : i < l0.length
  ·have dlt : decide (i < l0.length) = true := decide_eq_true hlt
   have hpi : wr.cell? ⟨wg.heap.size, i, none⟩ = some (.pointer (some ⟨wg.heap.size + 2 + 2 * i, 0, none⟩)) := rowIs_cell HF2.out.ptrs i hlt
   have hni := HF2.out.nodes i hlt
   simp only [Nat.lt_irrefl, false_and, if_false] at hni
   have hf7 := frz_of hni 7
   have hf8 := frz_of hni 8
   have hc7 : wr.cell? ⟨wg.heap.size + 2 + 2 * i, 7, none⟩ = some (.pointer (lpV wg.heap.size l0 i)) := (cell_of hni 7).trans rfl
   have hc8 : wr.cell? ⟨wg.heap.size + 2 + 2 * i, 8, none⟩ = some (.pointer (rpV wg.heap.size l0 i)) := (cell_of hni 8).trans rfl
   clear hni
   by_cases h4 : 0 ≤ (l0.getD i z69).f4
   ·rw [lpV, if_pos h4, nb] at hc7
    rw [rpV, if_pos h4, nb] at hc8
    have hk := HT.out.kids i hlt h4
    have hnc := HF2.out.nodes c hcl
    have hnl := HF2.out.nodes (l0.getD i z69).f4.toNat (by omega)
    have hnr := HF2.out.nodes (l0.getD i z69).f5.toNat (by omega)
    have hes := eqp_same wr ⟨wg.heap.size + 2 + 2 * c, 0, none⟩
    by_cases el : (l0.getD i z69).f4.toNat = c
    ·have er : (l0.getD i z69).f5.toNat ≠ c := fun e_ => hk.2.2.2 (by omega)
     have hst := forest2_left HF2.out h4 el er
     have hrp := HREP.out.keptS (w' := wr.setCell ⟨wg.heap.size + 2 + 2 * i, 7, none⟩ (.pointer (some ⟨b6, 0, none⟩))) (fun k_ hk_ _ => Below.heap_setCell _ _ _ _ (by show k_ ≠ wg.heap.size + 2 + 2 * i; rcases hk_ with ⟨⟨j_, hj1, _, hj3⟩, _⟩ | hk_; rintro rfl; exact hj3 (by rw [show j_ = i by omega]; exact ⟨h4, .inl el⟩); have hz_ := (Array.getElem?_eq_some_iff.1 (HFO.out.nodes i hlt)).1; have hz2 := HB5.out.size; omega))
     have HST := Am hst
     have HRP := Am hrp
     rw [el] at hc7
     clear hst hrp hk er el h4 hc8 hnc hnl hnr
     exact dd65
    ·have hel := eqp_other wr (a := ⟨wg.heap.size + 2 + 2 * c, 0, none⟩) (b := ⟨wg.heap.size + 2 + 2 * (l0.getD i z69).f4.toNat, 0, none⟩) (fun e_ => by injection e_ with e_; omega) hnc hnl
     by_cases er : (l0.getD i z69).f5.toNat = c
     ·have hst := forest2_right HF2.out h4 el er
      have hrp := HREP.out.keptS (w' := wr.setCell ⟨wg.heap.size + 2 + 2 * i, 8, none⟩ (.pointer (some ⟨b6, 0, none⟩))) (fun k_ hk_ _ => Below.heap_setCell _ _ _ _ (by show k_ ≠ wg.heap.size + 2 + 2 * i; rcases hk_ with ⟨⟨j_, hj1, _, hj3⟩, _⟩ | hk_; rintro rfl; exact hj3 (by rw [show j_ = i by omega]; exact ⟨h4, .inr er⟩); have hz_ := (Array.getElem?_eq_some_iff.1 (HFO.out.nodes i hlt)).1; have hz2 := HB5.out.size; omega))
      have HST := Am hst
      have HRP := Am hrp
      rw [er] at hc8
      clear hst hrp hk h4 hnc hnl hnr er el
      generalize (l0.getD i z69).f4.toNat = cl at hc7 hel
      exact dd65
     ·have her := eqp_other wr (a := ⟨wg.heap.size + 2 + 2 * c, 0, none⟩) (b := ⟨wg.heap.size + 2 + 2 * (l0.getD i z69).f5.toNat, 0, none⟩) (fun e_ => by injection e_ with e_; omega) hnc hnr
      have hst := forest2_skip HF2.out (fun hc_ => by rcases hc_.2 with e_ | e_; exact el e_; exact er e_)
      have HST := Am hst
      clear hst hk h4 el er hnc hnl hnr
      generalize (l0.getD i z69).f4.toNat = cl at hc7 hel
      generalize (l0.getD i z69).f5.toNat = cr at hc8 her
      exact dd64
   ·rw [lpV, if_neg h4] at hc7
    rw [rpV, if_neg h4] at hc8
    have hst := forest2_skip HF2.out (fun hc_ => h4 hc_.1)
    have HST := Am hst
    clear hst h4
    exact dd64
  ·obtain rfl : i = l0.length := by omega
   have dlt : decide (l0.length < l0.length) = false := decide_eq_false (Nat.lt_irrefl _)
   have hp0 : wr.cell? ⟨wg.heap.size, 0, none⟩ = some (.pointer (some ⟨wg.heap.size + 2 + 2 * 0, 0, none⟩)) := rowIs_cell HF2.out.ptrs 0 (by omega)
   have h0l : 0 < l0.length := by omega
   clear hlt hpc
   go_wp2_with (fail)
   refine (flat_any _ T1 _ (rep_repl HF2.out HREP.out K1 0 T1 HT1.out) HFULL.out HSZ.out).mono ?_
   rintro e w8 ⟨v8, rfl, h8a, h8b⟩
   have HFP := Am (HFIN.out wg wr v8 w8 HBW.out HF2.out.bel ⟨v8, rfl, h8a, h8b⟩)
   obtain ⟨A8, c8, rfl⟩ := Kd.R_slice h8a
   clear h8a h8b
   go_wp2
   go_ret2
   exact HFP.out
section
open Go.Proofs.YtaabbaemfnecgaaGreat.V
def T2 : List S69 := [⟨0, 1, 1, 0, 1, 10⟩, ⟨0, 1, 1, 0, 2, 9⟩, ⟨2, 0, 1, 0, 3, 4⟩, ⟨1, 0, 1, 10, -1, -1⟩, ⟨3, 0, 0, 0, 5, 6⟩, ⟨2, 0, 1, 20, -1, -1⟩, ⟨4, 0, 0, 0, 7, 8⟩, ⟨3, 0, 1, 30, -1, -1⟩, ⟨4, 0, 1, 40, -1, -1⟩, ⟨0, 1, 1, 0, -1, -1⟩, ⟨0, 1, 1, 0, -1, -1⟩]
theorem t1_root : table_Root.f 40 T1 = some (2, 0) := by kernel_rfl
def W3 : List S69 := [⟨4, 0, 0, 0, 1, 2⟩, ⟨3, 0, 1, 30, -1, -1⟩, ⟨4, 0, 1, 40, -1, -1⟩]
def GA : List S69 := T1.map (fun n => ⟨n.f0, n.f1, n.f2, n.f3, if n.f4 = 6 then 9 else n.f4, if n.f5 = 6 then 9 else n.f5⟩) ++ W3.map (fun n => ⟨n.f0, n.f1, n.f2, n.f3, if n.f4 = -1 then -1 else n.f4 + 9, if n.f4 = -1 then -1 else n.f5 + 9⟩)
theorem t1_tcheck : table_Check.f 40 T1 = some 0 := by kernel_rfl
theorem w3_tcheck : table_Check.f 40 W3 = some 0 := by kernel_rfl
theorem t1_ord : table_order.f 40 T1 6 = some [6] := by kernel_rfl
theorem ga_sub : table_sub.f 40 GA 0 = some T2 := by kernel_rfl
theorem ga_0 (i : Nat) (hi : i < 9) : ∀ n, T1.getD i z69 = n → (decide (n.f4 = -1 ∧ n.f5 = -1) = true ∧ GA.take (i + 1) = GA.take i ++ [⟨n.f0, n.f1, n.f2, n.f3, n.f4, n.f5⟩]) ∨ (decide (n.f4 = -1 ∧ n.f5 = -1) = false ∧ (n.f4 == 6) = false ∧ (n.f5 == 6) = true ∧ GA.take (i + 1) = GA.take i ++ [⟨n.f0, n.f1, n.f2, n.f3, n.f4, 9⟩]) ∨ (decide (n.f4 = -1 ∧ n.f5 = -1) = false ∧ (n.f4 == 6) = false ∧ (n.f5 == 6) = false ∧ GA.take (i + 1) = GA.take i ++ [⟨n.f0, n.f1, n.f2, n.f3, n.f4, n.f5⟩]) := by
 rintro n rfl
 have h : i = 0 ∨ i = 1 ∨ i = 2 ∨ i = 3 ∨ i = 4 ∨ i = 5 ∨ i = 6 ∨ i = 7 ∨ i = 8 := by omega
 rcases h with rfl | rfl | rfl | rfl | rfl | rfl | rfl | rfl | rfl <;> first | exact .inl ⟨rfl, rfl⟩ | exact .inr (.inl ⟨rfl, rfl, rfl, rfl⟩) | exact .inr (.inr ⟨rfl, rfl, rfl, rfl⟩)
theorem ga_1 (i : Nat) (hi : i < 3) : ∀ n, W3.getD i z69 = n → (decide (n.f4 = -1 ∧ n.f5 = -1) = true ∧ GA.take (9 + i + 1) = GA.take (9 + i) ++ [⟨n.f0, n.f1, n.f2, n.f3, n.f4, n.f5⟩]) ∨ (decide (n.f4 = -1 ∧ n.f5 = -1) = false ∧ GA.take (9 + i + 1) = GA.take (9 + i) ++ [⟨n.f0, n.f1, n.f2, n.f3, wrap64 (n.f4 + 9), wrap64 (n.f5 + 9)⟩]) := by
 rintro n rfl
 have h : i = 0 ∨ i = 1 ∨ i = 2 := by omega
 rcases h with rfl | rfl | rfl <;> first | exact .inl ⟨rfl, rfl⟩ | exact .inr ⟨rfl, by kernel_rfl⟩
section
variable {w W W1 : World} {v : Value} {xs : List S69} {g : Nat} {cs : Array Value}
theorem bx_new (ho : Kd.R k69 69 W w.heap.size (fun _ => True) v xs) (hb : Below w.heap.size w W) (cs : Array Value) : Bx w W.heap.size v xs cs (W.alloc (.cells cs 69)) :=
 ⟨below_size hb, Kd.R_alloc (Kd.R_elderB ho _ (Nat.le_refl _)) _, ba hb _, blk_new _ _⟩
theorem bx_call (h : Bx w g v xs cs W) (hb : Below W.heap.size W W1) : Bx w g v xs cs W1 :=
 ⟨h.ge, Kd.R_below h.r hb, h.b.trans (hb.mono h.b.size), blk_below h.k hb⟩
theorem bx_set (h : Bx w g v xs cs W) (i : Nat) (u : Value) : Bx w g v xs (cs.setIfInBounds i u) (W.setCell ⟨g, i, none⟩ u) :=
 ⟨h.ge, Kd.R_far h.r (fun _ hk => hk.2) u, below_set h.b h.ge, blk_set h.k i u⟩
theorem bx_append {ops : Array Oper} {rest : List Oper} {o : Oper} {a : Act} {Q : Exit → Act → World → Prop} {a0 a1 a2 a3 a4 a5 : Int} (s x : Operand) (P : Bx w g v xs cs W) (hl : xs.length < 2932031007402) (hgd : o.guard = none) (ho : o.op = .call { callee := .builtin .append, args := #[s, x], argTypes := #[22, 22] })
  (hs : a.eval s = v) (hx : a.eval x = .slice (some ⟨W.heap.size, 0, none⟩) 1 1)
  (h : ∀ v1 w1, Kd.R k69 69 w1 w.heap.size (fun _ => True) v1 (xs ++ [(⟨a0, a1, a2, a3, a4, a5⟩ : S69)]) → Below w.heap.size w w1 → wpList Tryz.prog ops Q rest (a.put o.dst v1) w1) :
  wpList Tryz.prog ops Q (o :: rest) a (W.alloc (.cells #[.int .i64 a0, .int .i64 a1, .int .i64 a2, .int .i64 a3, .int .i64 a4, .int .i64 a5] 69)) :=
 Kd.R_append k69 (w0 := w) w.heap.size hgd s x 22 69 (.agg #[.int .i64 0, .int .i64 0, .int .i64 0, .int .i64 0, .int .i64 0, .int .i64 0]) 48 ho Tryz.underlying22 info69 rfl (by decide) (by omega) v xs ⟨a0, a1, a2, a3, a4, a5⟩ [.int .i64 a0, .int .i64 a1, .int .i64 a2, .int .i64 a3, .int .i64 a4, .int .i64 a5] (fun k => True ∧ k ≠ g) (fun _ => False) hs hx (k69_mkM _ _ _ ⟨a0, a1, a2, a3, a4, a5⟩) (fun _ hk => hk.elim) (fun k hk => ⟨trivial, Kd.freshB P.k k hk⟩) P.r P.b (below_size P.b) (by omega) (fun v1 w1 ho hb _ _ => h v1 w1 (Kd.R_drop ho) hb)
theorem bx_cells {a b c d e f : Value} (h : Bx w g v xs #[a, b, c, d, e, f] W) : W.cell? ⟨g, 0, none⟩ = some a ∧ W.cell? ⟨g, 1, none⟩ = some b ∧ W.cell? ⟨g, 2, none⟩ = some c ∧ W.cell? ⟨g, 3, none⟩ = some d ∧ W.cell? ⟨g, 4, none⟩ = some e ∧ W.cell? ⟨g, 5, none⟩ = some f ∧ W.frozen? ⟨g, 4, none⟩ = false ∧ W.frozen? ⟨g, 5, none⟩ = false :=
 ⟨(blk_cell h.k 0).trans rfl, (blk_cell h.k 1).trans rfl, (blk_cell h.k 2).trans rfl, (blk_cell h.k 3).trans rfl, (blk_cell h.k 4).trans rfl, (blk_cell h.k 5).trans rfl, blk_frozen h.k 4, blk_frozen h.k 5⟩
end
theorem both_calls (A0 : Option Addr) (c0 : Nat) (A2 : Option Addr) (c2 : Nat) (w : World) (hr0 : Kd.C k69 w A0 9 T1) (hc0 : 9 ≤ c0) (hr2 : Kd.C k69 w A2 3 W3) (hc2 : 3 ≤ c2) :
  Calls Tryz.prog 153 #[.slice A0 9 c0, .slice A2 3 c2] w (RB w (.int .i64 0)) := by
 have HR2 := Am hr2
 go_enter Tryz.func153, Tryz.ntmps153
 go_wp2_with (fail)
 refine (table_Check.calls 40 A0 c0 T1 0 _ hr0 hc0 t1_tcheck).mono ?_
 rintro _ w1 ⟨rfl, hb⟩
 have HB := Am hb
 clear hb hr2
 go_wp2_with (fail)
 refine (table_Check.calls 40 A2 c2 W3 0 _ (Kd.C_below HR2.out HB.out) hc2 w3_tcheck).mono ?_
 rintro _ w2 ⟨rfl, hb⟩
 have HB2 := Am (HB.out.trans (hb.mono HB.out.size))
 clear hb HB
 go_wp2
 go_ret
 exact ⟨rfl, HB2.out⟩
theorem graft_calls (A0 : Option Addr) (c0 : Nat) (A2 : Option Addr) (c2 : Nat) (w : World) (hr0 : Kd.C k69 w A0 9 T1) (hc0 : 9 ≤ c0) (hr2 : Kd.C k69 w A2 3 W3) (hc2 : 3 ≤ c2) :
  Calls Tryz.prog 101 #[.slice A0 9 c0, .int .i64 6, .slice A2 3 c2] w fun e w' => ∃ v0_ : Value, e = .returned (.tuple #[v0_, .int .i64 0]) ∧ Kd.R k69 69 w' w.heap.size (fun _ => True) v0_ T2 ∧ Below w.heap.size w w' := by
 have HR0 := Am hr0
 have HC0 := Am hc0
 have HR2 := Am hr2
 have HC2 := Am hc2
 clear hr0 hc0 hr2 hc2
 go_enter Tryz.func101, Tryz.ntmps101
 go_wp2_with (fail)
 refine (both_calls A0 c0 A2 c2 _ HR0.out HC0.out HR2.out HC2.out).mono ?_
 rintro e w1 ⟨rfl, hb⟩
 have HB := Am hb
 clear hb
 go_wp2_with (fail)
 refine (table_order.calls 40 A0 c0 T1 6 [6] _ (Kd.C_below HR0.out HB.out) HC0.out t1_ord).mono ?_
 rintro e w2 ⟨v1, rfl, ho, hb⟩
 obtain ⟨As, cs, rfl⟩ := Kd.R_slice ho
 have HB2 := Am (HB.out.trans (hb.mono HB.out.size))
 clear ho hb HB
 go_wp2_with ((with_reducible refine Gd 48 rfl ?_); refine Kd.R_makecap k69 _ 69 rfl (N := 48) rfl 22 _ _ rfl 12 rfl rfl Tryz.underlying22 (.agg #[.int .i64 0, .int .i64 0, .int .i64 0, .int .i64 0, .int .i64 0, .int .i64 0]) 48 info69 rfl (by decide) (by omega) z69 (ok := fun _ => True) (okp := fun _ => True) (k69_mkM _ _ _ z69) (fun _ hk => hk) trivial (by omega) (by omega) (Below.refl _ _) (Nat.le_refl _) ?_; intro v9 w3 ho hb hg_ hnew_)
 have HO := Am (Kd.R_lower ho HB2.out.size)
 have HB3 := Am (HB2.out.trans (hb.mono HB2.out.size))
 clear ho hb hg_ hnew_ HB2
 go_wp2
 go_loopg [9, 51] 10 (fun kq v9 v w' => ∃ (i : Nat), v = .int .i64 i ∧ kq + i = 10 ∧ i ≤ 9 ∧ Aside0 (Kd.R k69 69 w' w.heap.size (fun _ => True) v9 (GA.take i)) ∧ Aside0 (Below w.heap.size w w'))
 case atStart => exact ⟨0, rfl, rfl, by omega, HO, HB3⟩
 case round =>
  clear HO HB3
  obtain ⟨i, rfl, hk, hi9, HO, HB⟩ := hrel
  obtain ⟨kq1, rfl⟩ : ∃ x, gk = x + 1 := ⟨gk - 1, by omega⟩
  by_cases q1 : i < 9
  ·have LM := Am (show (GA.take i).length < 2932031007402 by have := List.length_take_le i GA; omega)
   have HI := Am (show wrap64 ((i : Int) + 1) = ((i + 1 : Nat) : Int) ∧ kq1 + (i + 1) = 10 ∧ i + 1 ≤ 9 from ⟨by rw [Go.IntWalk.wrap64_in _ (by omega)]; omega, by omega, by omega⟩)
   obtain ⟨ad, rfl, hz⟩ := rd_cells HR0.out (show i < T1.length from q1)
   obtain ⟨z0, z1, z2, z3, z4, z5⟩ := hz _ HB.out
   have p5 : (0 ≤ (i : Int)) = True := eq_true (by omega)
   have p6 : ((i : Int) < 9) = True := eq_true (by omega)
   have p7 : decide ((i : Int) < 9) = true := decide_eq_true (by omega)
   have hA := ga_0 i q1 _ rfl
   clear hz hk hi9 q1
   generalize T1.getD i z69 = n at *
   have HL := leaf_f n
   rcases hA with ⟨hL, hT⟩ | ⟨hL, h4, h5, hT⟩ | ⟨hL, h4, h5, hT⟩
   all_goals
    rw [hL] at HL
    have HT := Am hT
    clear hL hT
    go_wp2_with (fail)
    refine (table_isLeaf.calls _ _ _ _ _ _ _ _ HL).mono ?_
    rintro e w3 ⟨rfl, hb⟩
    have BX := Am (bx_call (bx_new HO.out HB.out _) hb)
    obtain ⟨y0, y1, y2, y3, y4, y5, y6, y7⟩ := bx_cells BX.out
    clear HL hb z0 z1 z2 z3 z4 z5 HO HB
    generalize wr.heap.size = g at *
    go_wp2_with ((with_reducible refine gate_builtin (b := .append) (xs := #[.tmp 72, .tmp 74]) rfl ?_); at_builtin; (apply bx_append (.tmp 72) (.tmp 74) (g := g) (hl := LM.out)); (case P => first | exact BX.out | exact bx_set BX.out _ _); (case hgd => rfl); (case ho => rfl); (case hs => rfl); (case hx => first | rfl | (go_simp; done) | (go_simp; rfl)); intro v6 w4 ho hb)
    exact dd51
  ·obtain rfl : i = 9 := by omega
   clear q1 hi9 hk
   go_wp2
   go_loopg [9, 79] 4 (fun kq v9 v w' => ∃ (i : Nat), v = .int .i64 i ∧ kq + i = 4 ∧ i ≤ 3 ∧ Aside0 (Kd.R k69 69 w' w.heap.size (fun _ => True) v9 (GA.take (9 + i))) ∧ Aside0 (Below w.heap.size w w'))
   case atStart => exact ⟨0, rfl, rfl, by omega, HO, HB⟩
   case round =>
    clear HO HB
    obtain ⟨i, rfl, hk, hi9, HO, HB⟩ := hrel
    obtain ⟨kq1, rfl⟩ : ∃ x, gk = x + 1 := ⟨gk - 1, by omega⟩
    by_cases q1 : i < 3
    ·have LM := Am (show (GA.take (9 + i)).length < 2932031007402 by have := List.length_take_le (9 + i) GA; omega)
     have HI := Am (show wrap64 ((i : Int) + 1) = ((i + 1 : Nat) : Int) ∧ kq1 + (i + 1) = 4 ∧ i + 1 ≤ 3 from ⟨by rw [Go.IntWalk.wrap64_in _ (by omega)]; omega, by omega, by omega⟩)
     obtain ⟨ad, rfl, hz⟩ := rd_cells HR2.out (show i < W3.length from q1)
     obtain ⟨z0, z1, z2, z3, z4, z5⟩ := hz _ HB.out
     have p5 : (0 ≤ (i : Int)) = True := eq_true (by omega)
     have p6 : ((i : Int) < 3) = True := eq_true (by omega)
     have p7 : decide ((i : Int) < 3) = true := decide_eq_true (by omega)
     have hA := ga_1 i q1 _ rfl
     clear hz hk hi9 q1
     generalize W3.getD i z69 = n at *
     have HL := leaf_f n
     rcases hA with ⟨hL, hT⟩ | ⟨hL, hT⟩
     all_goals
      rw [hL] at HL
      have HT := Am hT
      clear hL hT
      go_wp2_with (fail)
      refine (table_isLeaf.calls _ _ _ _ _ _ _ _ HL).mono ?_
      rintro e w3 ⟨rfl, hb⟩
      have BX := Am (bx_call (bx_new HO.out HB.out _) hb)
      obtain ⟨y0, y1, y2, y3, y4, y5, y6, y7⟩ := bx_cells BX.out
      clear HL hb z0 z1 z2 z3 z4 z5 HO HB
      generalize wr.heap.size = g at *
      go_wp2_with ((with_reducible refine gate_builtin (b := .append) (xs := #[.tmp 98, .tmp 100]) rfl ?_); at_builtin; (apply bx_append (.tmp 98) (.tmp 100) (g := g) (hl := LM.out)); (case P => first | exact BX.out | exact bx_set (bx_set BX.out _ _) _ _); (case hgd => rfl); (case ho => rfl); (case hs => rfl); (case hx => first | rfl | (go_simp; done) | (go_simp; rfl)); intro v6 w4 ho hb)
      exact dd51
    ·obtain rfl : i = 3 := by omega
     obtain ⟨Ao, co, rfl⟩ := Kd.R_slice HO.out
     clear q1 hi9 hk
     go_wp2_with (fail)
     refine (table_sub.calls 40 _ _ GA 0 _ _ (Kd.R_reads' HO.out).2.2 (Kd.R_reads' HO.out).2.1 ga_sub).mono ?_
     rintro e w4 ⟨v6, rfl, ho, hb⟩
     have HO2 := Am (Kd.R_lower ho HB.out.size)
     have HB2 := Am (HB.out.trans (hb.mono HB.out.size))
     clear ho hb
     go_wp2
     go_ret2
     exact ⟨_, rfl, HO2.out, HB2.out⟩
end
section
open Go.Proofs.YtaabbaemfnecgaaGreat.V
theorem t2_next : seq_next.f 40 T2 4 = some (2, 2, true, true) := by kernel_rfl
theorem t3_next : seq_next.f 40 T3 4 = some (0, 0, false, false) := by kernel_rfl
theorem t3_equal : larchref16_Equal.f 40 T3 T3 = some true := by kernel_rfl
theorem t2_keys : steps_keys.f 40 T2 = some (2, [false, false, true, true, true, true, true, true, true, false, false], 0) := by kernel_rfl
theorem t2_move : steps_Move_is.f 2 true = some true := by kernel_rfl
def X2 : Tr := (mkT T2 11 2).getD .nil
theorem t2_mk : mkT T2 11 2 = some X2 := by kernel_rfl
theorem t2_can : canT true true X2 2 = true := by kernel_rfl
def R2 : Tr := (mkR T2 2 (setW (doT true X2 2) 1) 11 0).getD .nil
theorem t2_mkR : mkR T2 2 (setW (doT true X2 2) 1) 11 0 = some R2 := by kernel_rfl
theorem t2_flat : flatT R2 0 = T3 := by kernel_rfl
end
def okB (t : List S69) : Bool := decide (t.length ≤ 100000) && t.all (fun n => decide (n.f4 < 0) || (decide (n.f4 < t.length) && decide (0 ≤ n.f5) && decide (n.f5 < t.length) && decide (n.f4 ≠ n.f5)))
theorem okT_of {t : List S69} (h : okB t = true) : OkT t := by
 simp only [okB, Bool.and_eq_true, decide_eq_true_eq, List.all_eq_true] at h
 refine ⟨h.1, fun i hi h4 => ?_⟩
 have hm : t.getD i z69 ∈ t := by rw [List.getD, List.getElem?_eq_getElem hi, Option.getD_some]; exact List.getElem_mem hi
 have := h.2 _ hm
 simp only [Bool.or_eq_true, Bool.and_eq_true, decide_eq_true_eq] at this
 omega
def fullB : Tr → Bool
 | .nil => false
 | .node _ _ .nil .nil => true
 | .node _ _ .nil (.node ..) => false
 | .node _ _ (.node ..) .nil => false
 | .node _ _ (.node n p l r) (.node n' p' l' r') => fullB (.node n p l r) && fullB (.node n' p' l' r')
theorem full_of : ∀ {T : Tr}, fullB T = true → Full T
 | .nil, h => by simp [fullB] at h
 | .node _ _ .nil .nil, _ => by unfold Full; trivial
 | .node _ _ .nil (.node ..), h => by simp [fullB] at h
 | .node _ _ (.node ..) .nil, h => by simp [fullB] at h
 | .node _ _ (.node n p l r) (.node n' p' l' r'), h => by
  rw [fullB, Bool.and_eq_true] at h
  unfold Full
  exact ⟨full_of h.1, full_of h.2⟩
section
open Go.Proofs.YtaabbaemfnecgaaGreat.V
theorem t2_ok : okB T2 = true := by kernel_rfl
theorem t2_full : fullB R2 = true := by kernel_rfl
theorem sdo_calls (A0 : Option Addr) (c0 : Nat) (w : World) (hr0 : Kd.C k69 w A0 11 T2) (hc0 : 11 ≤ c0) :
  Calls Tryz.prog 34 #[.slice A0 11 c0, .int .i64 2, .agg #[.int .i64 2, .bool true]] w fun e w' => DoOK w T3 e w' := by
 have h := do_ok2 40 A0 c0 T2 2 2 true 2 [false, false, true, true, true, true, true, true, true, false, false] w hr0 hc0 t2_keys t2_move rfl (by decide) (by decide) rfl (okT_of t2_ok) 11 X2 t2_mk true rfl rfl t2_can 11 R2 t2_mkR (full_of t2_full) (by decide +kernel)
 rw [t2_flat] at h
 exact h
end
section
open Go.Proofs.YtaabbaemfnecgaaGreat.V
theorem info29 : (Tryz.prog.info? 29).map (fun i => (i.zero, i.size, i.bytes)) = some (some (.agg #[.bool false, .int .i64 0, .int .i64 0, .slice none 0 0]), 4, 48) := by kernel_rfl
theorem sl_nil (a : Addr) (n c : Nat) (w : World) : (binOp .eql 27 (.slice (some a) n c) (.slice none 0 0)).run Tryz.prog w = .ok (.bool false) w := by
 simpa using Lib.run_eql_slice_nil w 27 71 (some a) n c 0 0 Tryz.underlying27
theorem clone_calls (ad : Addr) (c0 : Nat) (w : World) (hr0 : Kd.C k71 w (some ad) 3 L3) :
  Calls Tryz.prog 88 #[.slice (some ad) 3 c0] w fun e w' => ∃ A c, e = .returned (.slice A 3 c) ∧ Kd.R k71 71 w' w.heap.size (fun _ => True) (.slice A 3 c) L3 ∧ Below w.heap.size w w' := by
 have HR := Am hr0
 have he := sl_nil ad 3 c0
 clear hr0
 go_enter Tryz.func88, Tryz.ntmps88
 go_wp2_with (first | ((with_reducible refine Gd 5 rfl ?_); refine Kd.R_lit k71 w.heap.size 71 ?hg (N := 5) ?hd (xs := ([] : List S71)) (inner := []) (ok := fun _ => True) (okp := fun _ => True) ?hr ?hp (fun _ hk => hk) trivial (Below.refl _ _) (Nat.le_refl _) (by simp) ?_; (case hd => rfl); (case hg => rfl); (case hr => first | (go_simp; done) | (go_simp; rfl)); (case hp => exact Reps.none _ _); intro v5 w1 ho hb hg hn; have HO := Am ho; have HB := Am hb; clear ho hb hg hn) | ((with_reducible refine gate_builtin (b := .append) (xs := #[.tmp 5, .tmp 6]) rfl ?_); at_builtin; refine Kd.R_append_rows k71 (w0 := w) w.heap.size rfl (.tmp 5) (.tmp 6) 27 71 (.agg #[.int .i64 0, .int .i64 0]) 16 rfl Tryz.underlying27 info71 rfl (by decide) (by decide) v5 [] L3 (some ad) 3 c0 (fun _ => True) (fun _ => False) rfl rfl HO.out (Kd.C_below HR.out HB.out) kM71 (fun _ h => h.elim) (fun _ _ => trivial) HB.out HB.out.size (by decide) ?_; intro v7 w2 ho hb hg hat; have HO2 := Am ho; have HB2 := Am hb; clear ho hb hg hat HO HB))
 obtain ⟨A7, c7, rfl⟩ := Kd.R_slice HO2.out
 go_ret
 exact ⟨_, _, rfl, HO2.out, HB2.out⟩
theorem run_calls (ad : Addr) (c0 g : Nat) (w : World) (hr0 : Kd.C k71 w (some ad) 3 L3) (hc0 : 3 ≤ c0) (hg : w.heap[g]? = some (.cells #[.int .i64 2, .int .i64 4, .int .i64 40, .int .i64 0] 24 (0, 0))) :
  Calls Tryz.prog 80 #[.slice (some ad) 3 c0, .slice (some ⟨g, 0, none⟩) 1 1] w fun e w' => ∃ v r, e = .returned (.tuple #[v, r, .int .i64 0]) ∧ w'.ownsRow w.heap.size 29 4 r 1 [.bool false, .int .i64 0, .int .i64 0, .slice none 0 0] ∧ Below w.heap.size w w' := by
 have HR := Am hr0
 have HC := Am hc0
 have HG := Am hg
 clear hr0 hc0 hg
 go_enter Tryz.func80, Tryz.ntmps80
 go_wp2_with (fail)
 refine (model_Check.calls 9 (some ad) c0 L3 0 _ HR.out HC.out (by decide +kernel)).mono ?_
 rintro _ w1 ⟨rfl, hd⟩
 have HB := Am hd.below
 clear hd
 go_wp2
 go_loopg [22] 3 (fun kq v22 w' => ((kq = 3 ∧ v22 = .int .i64 0) ∨ (kq = 2 ∧ v22 = .int .i64 1)) ∧ Aside0 (Below w.heap.size w w'))
 case atStart => exact ⟨.inl ⟨rfl, rfl⟩, HB⟩
 case round =>
  clear HB
  obtain ⟨ho, HB⟩ := hrel
  rcases ho with ⟨rfl, rfl⟩ | ⟨rfl, rfl⟩
  ·obtain ⟨x0, x1, x2, x3⟩ := bx3 (blkB HB.out HG.out)
   go_wp2_with (first | ((with_reducible refine Gd 9 rfl ?_); refine bF 9 HB.out (cs := #[.int .i64 0, .int .i64 0, .int .i64 0, .int .i64 0]) (t := 24) ?_; clear HB; intro g9 w_g9 GX_g9 GE_g9 HK_g9 HB BB_g9; clear x0 x1 x2 x3; obtain ⟨x0, x1, x2, x3⟩ := bx3 (blkB HB.out HG.out); obtain ⟨y0, y1, y2, y3, f0, f1, f2, f3⟩ := bx4 HK_g9.out) | ((with_reducible refine Gd 27 rfl ?_); refine gen_l (fun W => W.heap[g9]? = some (.cells #[.int .i64 2, .int .i64 4, .int .i64 40, .int .i64 0] 24 (0, 0)) ∧ Below w.heap.size w W) ⟨bp4 HK_g9.out, by with_reducible repeat (first | exact HB.out | refine below_set ?_ GE_g9.out)⟩ ?_; rintro w3 ⟨hk, hb⟩; have HK2 := Am hk; have HB2 := Am hb; clear hk hb x0 x1 x2 x3 y0 y1 y2 y3 f0 f1 f2 f3 HK_g9 HB BB_g9 GX_g9; obtain ⟨y0, y1, y2, y3⟩ := bx3 HK2.out))
   exact dd47
  ·go_wp2_with (fail)
   refine (clone_calls ad c0 _ (Kd.C_below HR.out HB.out)).mono ?_
   rintro _ w5 ⟨A5, c5, rfl, hR5, hb5⟩
   have HB5 := Am (bel_t HB.out hb5)
   have HR5 := Am (Kd.R_lower hR5 HB.out.size)
   clear hR5 hb5 HB
   go_wp2
   go_loopg [0, 11, 37] 3 (fun kq v0 v11 v37 w' => ((kq = 3 ∧ v37 = .int .i64 0 ∧ v0 = .slice A5 3 c5 ∧ v11 = .slice none 0 0 ∧ Aside0 (Kd.R k71 71 w' w.heap.size (fun _ => True) (.slice A5 3 c5) L3)) ∨ (kq = 2 ∧ v37 = .int .i64 1 ∧ Aside0 (w'.ownsRow w.heap.size 29 4 v11 1 [.bool false, .int .i64 0, .int .i64 0, .slice none 0 0]))) ∧ Aside0 (Below w.heap.size w w'))
   case atStart => exact ⟨.inl ⟨rfl, rfl, rfl, rfl, HR5⟩, HB5⟩
   case round =>
    clear HB5 HR5
    obtain ⟨ho, HB⟩ := hrel
    rcases ho with ⟨rfl, rfl, rfl, rfl, HR6⟩ | ⟨rfl, rfl, HO⟩
    ·obtain ⟨x0, x1, x2, x3⟩ := bx3 (blkB HB.out HG.out)
     have HB0 := HB
     go_wp2_with (first | ((with_reducible refine Gd 13 rfl ?_); refine bF 13 HB.out (cs := #[.int .i64 0, .int .i64 0, .int .i64 0, .int .i64 0]) (t := 24) ?_; clear HB; intro gd w_gd GX_gd GE_gd HK_gd HB BB_gd; clear x0 x1 x2 x3; obtain ⟨x0, x1, x2, x3⟩ := bx3 (blkB HB.out HG.out); obtain ⟨y0, y1, y2, y3, f0, f1, f2, f3⟩ := bx4 HK_gd.out) | ((with_reducible refine Gd 14 rfl ?_); refine gen_l (fun W => W.heap[gd]? = some (.cells #[.int .i64 2, .int .i64 4, .int .i64 40, .int .i64 0] 24 (0, 0)) ∧ Below wr.heap.size wr W) ⟨bp4 HK_gd.out, by with_reducible repeat (first | exact BB_gd.out | refine below_set ?_ GX_gd.out)⟩ ?_; rintro w3 ⟨hk, hb⟩; have HD := Am hk; have HW3 := Am hb; have HB1 := Am (bel_t HB0.out hb); clear HB hk hb x0 x1 x2 x3 y0 y1 y2 y3 f0 f1 f2 f3 HK_gd BB_gd GX_gd; have HB := HB1; clear HB1; ((with_reducible refine Gd 14 rfl ?_); refine bF 14 HB.out (cs := #[.bool false, .int .i64 0, .int .i64 0, .slice none 0 0]) (t := 29) ?_; clear HB; intro ge w_ge GX_ge GE_ge HK_ge HB BB_ge; have HD2 := Am (blkB BB_ge.out HD.out); have HW4 := Am (bel_t HW3.out BB_ge.out); obtain ⟨y0, y1, y2, y3⟩ := bx3 HD2.out; obtain ⟨z0, z1, z2, z3, f0, f1, f2, f3⟩ := bx4 HK_ge.out)))
     refine (do_calls A5 c5 w.heap.size _ HB.out.size (Kd.R_below HR6.out HW4.out)).mono ?_
     rintro _ w6 ⟨v6, rfl, hb6, hk6⟩
     have HE6 := Am (hk6 _ _ _ HK_ge.out (own_ne (Kd.R_below HR6.out HW3.out) GX_ge.out))
     have HB6 := Am (HB.out.trans hb6)
     clear hb6 hk6 HK_ge HB HB0 HW3 HW4 HD HD2 BB_ge y0 y1 y2 y3 z0 z1 z2 z3 f0 f1 f2 f3
     obtain ⟨z0, z1, z2, z3, f0, f1, f2, f3⟩ := bx4 HE6.out
     go_wp2_with (first | ((with_reducible refine Gd 48 rfl ?_); refine gen_l (fun W => W.heap[ge]? = some (.cells #[.bool false, .int .i64 0, .int .i64 0, .slice none 0 0] 29 (0, 0)) ∧ Below w.heap.size w W) ⟨bp4 HE6.out, by with_reducible repeat (first | exact HB6.out | refine below_set ?_ GE_ge.out)⟩ ?_; rintro w7 ⟨hk, hb⟩; have HE7 := Am hk; have HB7 := Am hb; clear hk hb HE6 HB6 z0 z1 z2 z3 f0 f1 f2 f3; obtain ⟨z0, z1, z2, z3, f0, f1, f2, f3⟩ := bx4 HE7.out) | ((with_reducible refine gate_builtin (b := .append) (xs := #[.tmp 47, .tmp 49]) rfl ?_); at_builtin; refine print_append_cells (w0 := w) w.heap.size rfl (.tmp 47) (.tmp 49) 59 29 (.agg #[.bool false, .int .i64 0, .int .i64 0, .slice none 0 0]) 4 48 rfl Tryz.underlying59 info29 rfl (by decide) (by decide) (.slice none 0 0) 0 [] [.bool false, .int .i64 0, .int .i64 0, .slice none 0 0] rfl rfl rfl (by simp [Value.oneCell']) (own_nil _ _ _ _) HB7.out HB7.out.size (by decide) ?_; intro v8 w8 ho hb hg hat; have HO8 := Am ho; have HB8 := Am hb; clear ho hb hg hat))
     go_roundg 2
     case measure => omega
     case rel => exact ⟨.inr ⟨rfl, rfl, HO8⟩, HB8⟩
    ·go_wp2
     refine bodyPost_ret (results_tmp3 rfl _ _ _) rfl ?_
     exact ⟨_, _, rfl, HO.out, HB.out⟩
end
section
open Go.Proofs.YtaabbaemfnecgaaGreat.V
theorem row_at {W : World} {B : Nat} {r : Value} (h : W.ownsRow B 29 4 r 1 [.bool false, .int .i64 0, .int .i64 0, .slice none 0 0]) : ∃ ad c, r = .slice (some ad) 1 c ∧ W.cell? ad = some (.bool false) ∧ W.cell? ⟨ad.block, ad.off + 1, none⟩ = some (.int .i64 0) ∧ W.cell? ⟨ad.block, ad.off + 2, none⟩ = some (.int .i64 0) ∧ W.cell? ⟨ad.block, ad.off + 3, none⟩ = some (.slice none 0 0) := by
 have hrep : Reps (fun (_ : Unit) (cs : List Value) => cs = [.bool false, .int .i64 0, .int .i64 0, .slice none 0 0]) 4 [()] [.bool false, .int .i64 0, .int .i64 0, .slice none 0 0] := Reps.snoc (ps := []) (cs := []) (Reps.none _ _) rfl rfl
 obtain ⟨A, c, rfl, -, -, hr⟩ := own_reads_row h hrep rfl
 obtain ⟨ad, rfl, hc⟩ := hr (by decide)
 obtain ⟨cs, -, rfl, hk⟩ := hc 0 () rfl
 have k0 := hk 0 _ rfl
 have k1 := hk 1 _ rfl
 have k2 := hk 2 _ rfl
 have k3 := hk 3 _ rfl
 refine ⟨ad, c, rfl, ?_, k1, k2, k3⟩
 simpa [Addr.add] using k0
theorem Do_calls (ad : Addr) (c0 : Nat) (w : World) (hr0 : Kd.C k71 w (some ad) 3 L3) (hc0 : 3 ≤ c0) :
  Calls Tryz.prog 40 #[.slice (some ad) 3 c0, .agg #[.int .i64 2, .int .i64 4, .int .i64 40, .int .i64 0]] w fun e w' => ∃ v, e = .returned (.tuple #[v, .agg #[.bool false, .int .i64 0, .int .i64 0, .slice none 0 0], .int .i64 0]) ∧ Below w.heap.size w w' := by
 have HR := Am hr0
 have HC := Am hc0
 have HB := Br w
 clear hr0 hc0
 go_enter Tryz.func40, Tryz.ntmps40
 go_wp2_with (first | ((with_reducible refine Gd 3 rfl ?_); refine bF 3 HB.out (cs := #[.int .i64 2, .int .i64 4, .int .i64 40, .int .i64 0]) (t := 24) ?_; clear HB; intro ga w_ga GX_ga GE_ga HK_ga HB BB_ga) | ((with_reducible refine Gd 5 rfl ?_); refine bF 5 HB.out (cs := #[.bool false, .int .i64 0, .int .i64 0, .slice none 0 0]) (t := 29) ?_; clear HB; intro gb w_gb GX_gb GE_gb HK_gb HB BB_gb; have HK1 := Am (blkB BB_gb.out HK_ga.out); obtain ⟨x0, x1, x2, x3⟩ := bx3 HK1.out))
 have hal : Below w_gb.heap.size w_gb (w_gb.alloc (.cells #[.int .i64 2, .int .i64 4, .int .i64 40, .int .i64 0] 24 (0, 0))) := (Below.refl _ _).alloc (Nat.le_refl _) _
 have hgl : gb < w_gb.heap.size := blk_lt HK_gb.out
 refine (run_calls ad c0 _ _ (Kd.C_below HR.out (bel_t HB.out hal)) HC.out (heap_alloc_new w_gb _)).mono ?_
 rintro _ w1 ⟨v1, r1, rfl, ho, hb⟩
 obtain ⟨B1, hB1⟩ : ∃ B, (w_gb.alloc (.cells #[.int .i64 2, .int .i64 4, .int .i64 40, .int .i64 0] 24 (0, 0))).heap.size = B := ⟨_, rfl⟩
 rw [hB1] at ho
 have hne : some gb ≠ r1.ownBlock := fun e => by have h1 := own_base ho gb e.symm; have h2 := hal.size; rw [hB1] at h2; simp at hB1; omega
 have HG1 := Am (blkB (bel_t hal hb) HK_gb.out)
 have HB1 := Am (bel_t HB.out (bel_t hal hb))
 obtain ⟨ar, cr, rfl, -, -, -, -⟩ := row_at ho
 have HO := Am ho
 have HNE := Am hne
 have HGE := GE_gb
 clear hal hgl hb ho hne HB HK_gb HK_ga HK1 BB_gb BB_ga hB1 x0 x1 x2 x3
 go_wp2
 refine sT 7 [] (S := fun W => W.heap[gb]? = some (.cells #[.bool false, .int .i64 0, .int .i64 0, .slice none 0 0] 29 (0, 0)) ∧ W.ownsRow B1 29 4 (.slice (some ar) 1 cr) 1 [.bool false, .int .i64 0, .int .i64 0, .slice none 0 0] ∧ Below w.heap.size w W) ⟨blkB ((Below.refl _ _).drew) HG1.out, own_drew HO.out, HB1.out.drew⟩ fun hHeld => ?_
 refine gen_any (fun W => W.heap[gb]? = some (.cells #[.bool false, .int .i64 0, .int .i64 0, .slice none 0 0] 29 (0, 0)) ∧ W.ownsRow B1 29 4 (.slice (some ar) 1 cr) 1 [.bool false, .int .i64 0, .int .i64 0, .slice none 0 0] ∧ Below w.heap.size w W) hHeld (fun w6 hHeld => ?_)
 refine pu 0 22 ?_
 refine pu 1 23 ?_
 refine pu 2 24 ?_
 refine ta 3 25 hHeld (hy := by intro w' hs; obtain ⟨ad', c', e, q0, q1, q2, q3⟩ := row_at hs.2.1; cases e; exact gz) ?_
 refine pu 4 4 ?_
 obtain ⟨y0, y1, y2, y3, f0, f1, f2, f3⟩ := bx4 hHeld.1
 refine on0 5 (fun K hK => ?_)
 refine sk ?_
 refine hK.out _ _ ⟨bp4 hHeld.1, by repeat (first | exact hHeld.2.1 | refine own_setCell ?_ HNE.out _), by with_reducible repeat (first | exact hHeld.2.2 | refine below_set ?_ HGE.out)⟩ (fun hHeld => ?_)
 clear hK K y0 y1 y2 y3 f0 f1 f2 f3
 refine pu 6 6 ?_
 refine done_ (by kernel_rfl) ?_
 go_wp2
 refine bodyPost_ret (results_tct rfl _ _ gb rfl (run_loadVar_row _ gb 29 29 #[.bool false, .int .i64 0, .int .i64 0, .slice none 0 0] (0, 0) _ hHeld.1 Tryz.underlying29 rfl (by kernel_rfl)) rfl rfl) rfl ?_
 exact ⟨_, rfl, hHeld.2.2⟩
end
section
open Go.Proofs.YtaabbaemfnecgaaGreat.V
structure G3 (w W : World) (o7 o8 : Option (Nat × Array Value)) : Prop where
 b : Below w.heap.size w W
 k7 : ∀ g cs, o7 = some (g, cs) → W.heap[g]? = some (.cells cs 69 (0, 0)) ∧ w.heap.size ≤ g
 k8 : ∀ g cs, o8 = some (g, cs) → W.heap[g]? = some (.cells cs 69 (0, 0)) ∧ w.heap.size ≤ g
 ne : ∀ g cs g' cs', o7 = some (g, cs) → o8 = some (g', cs') → g ≠ g'
section
variable {w W W1 : World} {o7 o8 : Option (Nat × Array Value)} {g : Nat} {cs : Array Value}
theorem G3.call (h : G3 w W o7 o8) (hb : Below W.heap.size W W1) : G3 w W1 o7 o8 := ⟨bel_t h.b hb, fun g cs e => ⟨blkB hb (h.k7 g cs e).1, (h.k7 g cs e).2⟩, fun g cs e => ⟨blkB hb (h.k8 g cs e).1, (h.k8 g cs e).2⟩, h.ne⟩
theorem G3.al7 (h : G3 w W none o8) (hg : g = W.heap.size) (hk : W1.heap[g]? = some (.cells cs 69 (0, 0))) (hb : Below W.heap.size W W1) : G3 w W1 (some (g, cs)) o8 :=
 ⟨bel_t h.b hb, fun g' cs' e => by cases e; exact ⟨hk, hg ▸ h.b.size⟩, fun g cs e => ⟨blkB hb (h.k8 g cs e).1, (h.k8 g cs e).2⟩, fun g1 c1 g2 c2 e1 e2 e => by cases e1; have h1 := blk_lt (h.k8 _ _ e2).1; omega⟩
theorem G3.al8 (h : G3 w W o7 none) (hg : g = W.heap.size) (hk : W1.heap[g]? = some (.cells cs 69 (0, 0))) (hb : Below W.heap.size W W1) : G3 w W1 o7 (some (g, cs)) :=
 ⟨bel_t h.b hb, fun g cs e => ⟨blkB hb (h.k7 g cs e).1, (h.k7 g cs e).2⟩, fun g' cs' e => by cases e; exact ⟨hk, hg ▸ h.b.size⟩, fun g1 c1 g2 c2 e1 e2 e => by cases e2; have h1 := blk_lt (h.k7 _ _ e1).1; omega⟩
theorem G3.set7 (h : G3 w W (some (g, cs)) o8) (i : Nat) (v : Value) : G3 w (W.setCell ⟨g, i, none⟩ v) (some (g, cs.setIfInBounds i v)) o8 :=
 ⟨below_set h.b (h.k7 _ _ rfl).2, fun g' cs' e => by cases e; exact ⟨blk_set (h.k7 _ _ rfl).1 i v, (h.k7 _ _ rfl).2⟩, fun g' cs' e => ⟨blk_far (h.k8 _ _ e).1 (p := ⟨g, i, none⟩) (fun e' => h.ne _ _ _ _ rfl e e'.symm) v, (h.k8 _ _ e).2⟩, fun g1 c1 g2 c2 e1 e2 => by cases e1; exact h.ne _ _ _ _ rfl e2⟩
theorem G3.set8 (h : G3 w W o7 (some (g, cs))) (i : Nat) (v : Value) : G3 w (W.setCell ⟨g, i, none⟩ v) o7 (some (g, cs.setIfInBounds i v)) :=
 ⟨below_set h.b (h.k8 _ _ rfl).2, fun g' cs' e => ⟨blk_far (h.k7 _ _ e).1 (p := ⟨g, i, none⟩) (fun e' => h.ne _ _ _ _ e rfl e') v, (h.k7 _ _ e).2⟩, fun g' cs' e => by cases e; exact ⟨blk_set (h.k8 _ _ rfl).1 i v, (h.k8 _ _ rfl).2⟩, fun g1 c1 g2 c2 e1 e2 => by cases e2; exact h.ne _ _ _ _ e1 rfl⟩
end
theorem t1_six {w : World} {A : Option Addr} (h : Kd.C k69 w A 9 T1) : ∃ ad, A = some ad ∧ ∀ w', Below w.heap.size w w' → w'.cell? ⟨ad.block, ad.off + 36, none⟩ = some (.int .i64 3) ∧ w'.cell? ⟨ad.block, ad.off + 36 + 1, none⟩ = some (.int .i64 0) ∧ w'.cell? ⟨ad.block, ad.off + 36 + 2, none⟩ = some (.int .i64 1) ∧ w'.cell? ⟨ad.block, ad.off + 36 + 3, none⟩ = some (.int .i64 30) ∧ w'.cell? ⟨ad.block, ad.off + 36 + 4, none⟩ = some (.int .i64 (-1)) ∧ w'.cell? ⟨ad.block, ad.off + 36 + 5, none⟩ = some (.int .i64 (-1)) := by
 obtain ⟨ad, e, hz⟩ := rd_cells h (show 6 < T1.length by decide)
 exact ⟨ad, e, fun w' hb => hz w' hb⟩
theorem w3_inner : seq_inner.f 4 0 0 3 0 1 30 (-1) (-1) 4 0 1 40 (-1) (-1) = some W3 := by kernel_rfl
theorem grown_calls (A0 : Option Addr) (c0 : Nat) (w : World) (hr0 : Kd.C k69 w A0 9 T1) (hc0 : 9 ≤ c0) :
  Calls Tryz.prog 103 #[.slice A0 9 c0, .int .i64 6, .agg #[.int .i64 2, .int .i64 4, .int .i64 40, .int .i64 0]] w fun e w' => ∃ v, e = .returned v ∧ Kd.R k69 69 w' w.heap.size (fun _ => True) v W3 ∧ Below w.heap.size w w' := by
 have HR := Am hr0
 have HC := Am hc0
 have HB := Br w
 clear hr0 hc0
 go_enter Tryz.func103, Tryz.ntmps103
 go_wp2_with (first | ((with_reducible refine Gd 5 rfl ?_); refine bF 5 HB.out (cs := #[.int .i64 2, .int .i64 4, .int .i64 40, .int .i64 0]) (t := 24) ?_; clear HB; intro ga w_ga GX_ga GE_ga HK_ga HB BB_ga))
 generalize w_ga = w2 at *
 have HKA := HK_ga
 have HR2 := Am (Kd.C_below HR.out HB.out)
 clear HK_ga BB_ga GX_ga GE_ga HR
 obtain ⟨ad, rfl, hz⟩ := t1_six HR2.out
 refine sT 13 [] (S := fun W => Below w2.heap.size w2 W) ((Below.refl _ _).drew) fun hHeld => ?_
 refine gen_any (fun W => Below w2.heap.size w2 W) hHeld (fun w3 hHeld => ?_)
 refine pu 0 12 ?_
 refine pu 1 13 ?_
 refine pu 2 14 ?_
 refine ta 3 15 hHeld (hy := by intro w' hs; obtain ⟨v0, v1, v2, v3, v4, v5⟩ := hz _ hs; exact gz) ?_
 refine pu 4 16 ?_
 refine ta 5 17 hHeld (hy := by intro w' hs; obtain ⟨x0, x1, x2, x3⟩ := bx3 (blkB hs HKA.out); exact gz) ?_
 refine pu 6 18 ?_
 refine ta 7 19 hHeld (hy := by intro w' hs; obtain ⟨x0, x1, x2, x3⟩ := bx3 (blkB hs HKA.out); exact gz) ?_
 have hG : G3 w2 w3 none none := ⟨hHeld, fun _ _ e => (by cases e), fun _ _ e => (by cases e), fun _ _ _ _ e => (by cases e)⟩
 refine join_ (σ := Nat × Nat) 2 #[true, true, true, true, true, true, true, true, true, true, true, false, false] (fun s => [(7, .pointer (some ⟨s.1, 0, none⟩)), (8, .pointer (some ⟨s.2, 0, none⟩)), (20, .agg #[.int .i64 4, .int .i64 0, .int .i64 1, .int .i64 40, .int .i64 (-1), .int .i64 (-1)])]) (fun s W => G3 w2 W (some (s.1, #[.int .i64 0, .int .i64 0, .int .i64 0, .int .i64 0, .int .i64 0, .int .i64 0])) (some (s.2, #[.int .i64 0, .int .i64 0, .int .i64 0, .int .i64 0, .int .i64 0, .int .i64 0]))) ?_ ?_
 rotate_left
 ·intro hCont
  refine three_ (i := 8) (j := 9) (k := 10) (Ni := some 20) (Nj := some 7) (Nk := some 8) #[true, true, true, true, true, true, true, true, true, false, false, false, false] #[true, true, true, true, true, true, true, true, false, true, false, false, false] #[true, true, true, true, true, true, true, true, false, false, true, false, false] rfl rfl rfl rfl rfl rfl (by kernel_rfl) (by decide) (by decide) (by decide) (fun K hK => ?_) (fun K hK => ?_) (fun K hK => ?_)
  ·refine goes_ (N := some 20) Tryz.func102 (by kernel_rfl) rfl #[.int .i64 4, .int .i64 40, .int .i64 1] (by rfl) rfl rfl (by (try simp only [List.map_toArray, List.map_cons, List.map_nil]); first | done | rfl) ?_
   refine (seq_leaf.calls 4 40 1 4 0 1 40 (-1) (-1) _ (by kernel_rfl)).mono ?_
   rintro _ W1 ⟨rfl, hb⟩
   replace hG := hG.call hb
   refine ⟨_, rfl, hK.out _ _ hG.b (fun hHeld => ?_)⟩
   clear hK K hb
   refine nm 20 ?_
   refine two_ (i := 9) (j := 10) (Ni := some 7) (Nj := some 8) #[true, true, true, true, true, true, true, true, true, true, false, false, false] #[true, true, true, true, true, true, true, true, true, false, true, false, false] rfl rfl rfl rfl (by kernel_rfl) (by decide) (by decide) (fun K hK => ?_) (fun K hK => ?_)
   ·refine box_step (by rfl) (N := 7) rfl (cs := #[.int .i64 0, .int .i64 0, .int .i64 0, .int .i64 0, .int .i64 0, .int .i64 0]) (t := 69) ?hr ?_
    case hr => first | (go_simp; done) | (go_simp; rfl)
    intro g7 hg W1 hk hb
    replace hG := hG.al7 hg hk hb
    refine hK.out _ _ hG.b (fun hHeld => ?_)
    clear hK K hb hg hk
    refine nm 7 ?_
    exact dd30
   ·refine box_step (by rfl) (N := 8) rfl (cs := #[.int .i64 0, .int .i64 0, .int .i64 0, .int .i64 0, .int .i64 0, .int .i64 0]) (t := 69) ?hr ?_
    case hr => first | (go_simp; done) | (go_simp; rfl)
    intro g8 hg W1 hk hb
    replace hG := hG.al8 hg hk hb
    refine hK.out _ _ hG.b (fun hHeld => ?_)
    clear hK K hb hg hk
    refine nm 8 ?_
    exact dd31
  ·refine box_step (by rfl) (N := 7) rfl (cs := #[.int .i64 0, .int .i64 0, .int .i64 0, .int .i64 0, .int .i64 0, .int .i64 0]) (t := 69) ?hr ?_
   case hr => first | (go_simp; done) | (go_simp; rfl)
   intro g7 hg W1 hk hb
   replace hG := hG.al7 hg hk hb
   refine hK.out _ _ hG.b (fun hHeld => ?_)
   clear hK K hb hg hk
   refine nm 7 ?_
   refine two_ (i := 8) (j := 10) (Ni := some 20) (Nj := some 8) #[true, true, true, true, true, true, true, true, true, true, false, false, false] #[true, true, true, true, true, true, true, true, false, true, true, false, false] rfl rfl rfl rfl (by kernel_rfl) (by decide) (by decide) (fun K hK => ?_) (fun K hK => ?_)
   ·refine goes_ (N := some 20) Tryz.func102 (by kernel_rfl) rfl #[.int .i64 4, .int .i64 40, .int .i64 1] (by rfl) rfl rfl (by (try simp only [List.map_toArray, List.map_cons, List.map_nil]); first | done | rfl) ?_
    refine (seq_leaf.calls 4 40 1 4 0 1 40 (-1) (-1) _ (by kernel_rfl)).mono ?_
    rintro _ W1 ⟨rfl, hb⟩
    replace hG := hG.call hb
    refine ⟨_, rfl, hK.out _ _ hG.b (fun hHeld => ?_)⟩
    clear hK K hb
    refine nm 20 ?_
    exact dd30
   ·refine box_step (by rfl) (N := 8) rfl (cs := #[.int .i64 0, .int .i64 0, .int .i64 0, .int .i64 0, .int .i64 0, .int .i64 0]) (t := 69) ?hr ?_
    case hr => first | (go_simp; done) | (go_simp; rfl)
    intro g8 hg W1 hk hb
    replace hG := hG.al8 hg hk hb
    refine hK.out _ _ hG.b (fun hHeld => ?_)
    clear hK K hb hg hk
    refine nm 8 ?_
    exact dd27
  ·refine box_step (by rfl) (N := 8) rfl (cs := #[.int .i64 0, .int .i64 0, .int .i64 0, .int .i64 0, .int .i64 0, .int .i64 0]) (t := 69) ?hr ?_
   case hr => first | (go_simp; done) | (go_simp; rfl)
   intro g8 hg W1 hk hb
   replace hG := hG.al8 hg hk hb
   refine hK.out _ _ hG.b (fun hHeld => ?_)
   clear hK K hb hg hk
   refine nm 8 ?_
   refine two_ (i := 8) (j := 9) (Ni := some 20) (Nj := some 7) #[true, true, true, true, true, true, true, true, true, false, true, false, false] #[true, true, true, true, true, true, true, true, false, true, true, false, false] rfl rfl rfl rfl (by kernel_rfl) (by decide) (by decide) (fun K hK => ?_) (fun K hK => ?_)
   ·refine goes_ (N := some 20) Tryz.func102 (by kernel_rfl) rfl #[.int .i64 4, .int .i64 40, .int .i64 1] (by rfl) rfl rfl (by (try simp only [List.map_toArray, List.map_cons, List.map_nil]); first | done | rfl) ?_
    refine (seq_leaf.calls 4 40 1 4 0 1 40 (-1) (-1) _ (by kernel_rfl)).mono ?_
    rintro _ W1 ⟨rfl, hb⟩
    replace hG := hG.call hb
    refine ⟨_, rfl, hK.out _ _ hG.b (fun hHeld => ?_)⟩
    clear hK K hb
    refine nm 20 ?_
    exact dd31
   ·refine box_step (by rfl) (N := 7) rfl (cs := #[.int .i64 0, .int .i64 0, .int .i64 0, .int .i64 0, .int .i64 0, .int .i64 0]) (t := 69) ?hr ?_
    case hr => first | (go_simp; done) | (go_simp; rfl)
    intro g7 hg W1 hk hb
    replace hG := hG.al7 hg hk hb
    refine hK.out _ _ hG.b (fun hHeld => ?_)
    clear hK K hb hg hk
    refine nm 7 ?_
    exact dd27
 rintro ⟨g7, g8⟩ w4 hG
 replace hG : G3 w2 w4 (some (g7, #[.int .i64 0, .int .i64 0, .int .i64 0, .int .i64 0, .int .i64 0, .int .i64 0])) (some (g8, #[.int .i64 0, .int .i64 0, .int .i64 0, .int .i64 0, .int .i64 0, .int .i64 0])) := hG
 refine norm_ (a' := ?_) ?_ ?_
 rotate_left
 ·simp only [putAll, Act.put, sI, sZ, sS]
  rfl
 clear hHeld
 refine on0 11 (fun K hK => ?_)
 obtain ⟨y0, y1, y2, y3, y4, y5, f0, f1, f2, f3, f4, f5⟩ := box69 (hG.k7 _ _ rfl).1
 refine sk ?_
 replace hG : G3 w2 _ (some (g7, #[.int .i64 3, .int .i64 0, .int .i64 1, .int .i64 30, .int .i64 (-1), .int .i64 (-1)])) (some (g8, #[.int .i64 0, .int .i64 0, .int .i64 0, .int .i64 0, .int .i64 0, .int .i64 0])) := ((((((hG.set7 0 (.int .i64 3)).set7 1 (.int .i64 0)).set7 2 (.int .i64 1)).set7 3 (.int .i64 30)).set7 4 (.int .i64 (-1))).set7 5 (.int .i64 (-1)))
 refine hK.out _ _ hG.b (fun hHeld => ?_)
 clear hK K y0 y1 y2 y3 y4 y5 f0 f1 f2 f3 f4 f5
 clear hHeld
 refine gen_any (fun W => G3 w2 W (some (g7, #[.int .i64 3, .int .i64 0, .int .i64 1, .int .i64 30, .int .i64 (-1), .int .i64 (-1)])) (some (g8, #[.int .i64 0, .int .i64 0, .int .i64 0, .int .i64 0, .int .i64 0, .int .i64 0]))) hG (fun w11 hG => ?_)
 refine on0 12 (fun K hK => ?_)
 obtain ⟨y0, y1, y2, y3, y4, y5, f0, f1, f2, f3, f4, f5⟩ := box69 (hG.k8 _ _ rfl).1
 refine sk ?_
 replace hG : G3 w2 _ (some (g7, #[.int .i64 3, .int .i64 0, .int .i64 1, .int .i64 30, .int .i64 (-1), .int .i64 (-1)])) (some (g8, #[.int .i64 4, .int .i64 0, .int .i64 1, .int .i64 40, .int .i64 (-1), .int .i64 (-1)])) := ((((((hG.set8 0 (.int .i64 4)).set8 1 (.int .i64 0)).set8 2 (.int .i64 1)).set8 3 (.int .i64 40)).set8 4 (.int .i64 (-1))).set8 5 (.int .i64 (-1)))
 refine hK.out _ _ hG.b (fun hHeld => ?_)
 clear hK K y0 y1 y2 y3 y4 y5 f0 f1 f2 f3 f4 f5
 clear hHeld
 refine gen_any (fun W => G3 w2 W (some (g7, #[.int .i64 3, .int .i64 0, .int .i64 1, .int .i64 30, .int .i64 (-1), .int .i64 (-1)])) (some (g8, #[.int .i64 4, .int .i64 0, .int .i64 1, .int .i64 40, .int .i64 (-1), .int .i64 (-1)]))) hG (fun w12 hG => ?_)
 refine done_ (by kernel_rfl) ?_
 have HG := Am hG
 clear hG hz
 go_wp2_with (fail)
 refine (table_Root.calls 40 _ c0 T1 2 0 _ (Kd.C_below HR2.out HG.out.b) HC.out t1_root).mono ?_
 rintro _ w5 ⟨rfl, hb⟩
 have HG5 := Am (HG.out.call hb)
 clear hb HG
 obtain ⟨x0, x1, x2, x3⟩ := bx3 (blkB HG5.out.b HKA.out)
 obtain ⟨y0, y1, y2, y3, y4, y5, f0, f1, f2, f3, f4, f5⟩ := box69 (HG5.out.k7 _ _ rfl).1
 obtain ⟨z0, z1, z2, z3, z4, z5, -⟩ := box69 (HG5.out.k8 _ _ rfl).1
 have HNE := Am (HG5.out.ne _ _ _ _ rfl rfl)
 go_wp2_with ((with_reducible refine Gd 41 rfl ?_); refine gen_l (fun W => G3 w2 W (some (g7, #[.int .i64 3, .int .i64 0, .int .i64 1, .int .i64 30, .int .i64 (-1), .int .i64 (-1)])) (some (g8, #[.int .i64 4, .int .i64 0, .int .i64 1, .int .i64 40, .int .i64 (-1), .int .i64 (-1)]))) (HG5.out.set7 2 (.int .i64 1)) (fun w6 hG => ?_); have HG6 := Am hG; clear hG x0 x1 x2 x3 y0 y1 y2 y3 y4 y5 f0 f1 f2 f3 f4 f5 z0 z1 z2 z3 z4 z5; obtain ⟨x0, x1, x2, x3⟩ := bx3 (blkB HG6.out.b HKA.out); obtain ⟨y0, y1, y2, y3, y4, y5, -⟩ := box69 (HG6.out.k7 _ _ rfl).1; obtain ⟨z0, z1, z2, z3, z4, z5, -⟩ := box69 (HG6.out.k8 _ _ rfl).1)
 refine (seq_inner.calls 4 0 0 3 0 1 30 (-1) (-1) 4 0 1 40 (-1) (-1) W3 _ w3_inner).mono ?_
 rintro _ w7 ⟨v7, rfl, hR, hb⟩
 have HB7 := Am (bel_t HG6.out.b hb)
 have HR7 := Am (Kd.R_lower hR HG6.out.b.size)
 clear hR hb
 go_wp2
 go_ret
 exact ⟨_, rfl, Kd.R_lower HR7.out HB.out.size, bel_t HB.out HB7.out⟩
end
section
open Go.Proofs.YtaabbaemfnecgaaGreat.V
theorem t1_pairs : table_Pairs.f 40 T1 = some ([⟨1, 10⟩, ⟨2, 20⟩, ⟨3, 30⟩], 0) := by kernel_rfl
theorem t1_search : table_Search.f 40 T1 4 = some ([0, 1, 2, 4, 6], 0) := by kernel_rfl
theorem results_tctt {fn : Func} {a p u t : Tmp} {ty : TypeId} (h : fn.results = #[.tmp a, .cell p ty, .tmp u, .tmp t]) (tmps : Array Value) (w : World) (g : Nat) {V : Value}
  (hp : tmps.getD p undef = .pointer (some ⟨g, 0, none⟩)) (hl : (loadVar ty ⟨g, 0, none⟩).run Tryz.prog w = .ok V w) {v1 v2 v3 : Value} (hv1 : tmps.getD a undef = v1) (hv2 : tmps.getD u undef = v2) (hv3 : tmps.getD t undef = v3) :
  (results fn tmps).run Tryz.prog w = .ok (.tuple #[v1, V, v2, v3]) w := by
 subst hv1 hv2 hv3
 exact dd73
theorem change_calls (A0 : Option Addr) (c0 : Nat) (w : World) (hr0 : Kd.C k69 w A0 9 T1) (hc0 : 9 ≤ c0) :
  Calls Tryz.prog 51 #[.slice A0 9 c0, .agg #[.int .i64 2, .int .i64 4, .int .i64 40, .int .i64 0]] w fun e w' => ∃ v, e = .returned (.tuple #[v, .agg #[.bool false, .int .i64 0, .int .i64 0, .slice none 0 0], .bool true, .int .i64 0]) ∧ Kd.R k69 69 w' w.heap.size (fun _ => True) v T2 ∧ Below w.heap.size w w' := by
 have HR := Am hr0
 have HC := Am hc0
 have HB := Br w
 clear hr0 hc0
 go_enter Tryz.func51, Tryz.ntmps51
 go_wp2_with (first | ((with_reducible refine Gd 3 rfl ?_); refine bF 3 HB.out (cs := #[.int .i64 2, .int .i64 4, .int .i64 40, .int .i64 0]) (t := 24) ?_; clear HB; intro ga w_ga GX_ga GE_ga HK_ga HB BB_ga) | ((with_reducible refine Gd 5 rfl ?_); refine bF 5 HB.out (cs := #[.bool false, .int .i64 0, .int .i64 0, .slice none 0 0]) (t := 29) ?_; clear HB; intro gb w_gb GX_gb GE_gb HK_gb HB BB_gb; have HK1 := Am (blkB BB_gb.out HK_ga.out)))
 refine (table_Pairs.calls 40 A0 c0 T1 _ 0 _ (Kd.C_below HR.out HB.out) HC.out t1_pairs).mono ?_
 rintro _ w1 ⟨v8, rfl, hR, hb⟩
 obtain ⟨g8, c8, rfl, -, -, -⟩ := Kd.R_form hR (by decide)
 obtain ⟨-, hc8, hC8⟩ := Kd.R_reads' hR
 have HR8 := Am hC8
 have HC8 := Am hc8
 have HA1 := Am (blkB hb HK1.out)
 have HG1 := Am (blkB hb HK_gb.out)
 have HB1 := Am (bel_t HB.out hb)
 clear hb hR hc8 hC8 HK1 HK_gb HK_ga HB BB_ga BB_gb
 obtain ⟨x0, x1, x2, x3⟩ := bx3 HA1.out
 go_wp2_with (fail)
 refine (Do_calls ⟨g8, 0, none⟩ c8 _ HR8.out HC8.out).mono ?_
 rintro _ w2 ⟨v1, rfl, hb⟩
 have HA2 := Am (blkB hb HA1.out)
 have HG2 := Am (blkB hb HG1.out)
 have HR9 := Am (Kd.C_below HR8.out hb)
 have HB2 := Am (bel_t HB1.out hb)
 clear hb x0 x1 x2 x3 HA1 HG1 HB1 HR8
 obtain ⟨x0, x1, x2, x3⟩ := bx3 HA2.out
 have HB0 := HB2
 go_wp2_with (first | ((with_reducible refine Gd 11 rfl ?_); refine bF 11 HB2.out (cs := #[.bool false, .int .i64 0, .int .i64 0, .slice none 0 0]) (t := 29) ?_; clear HB2; intro gc w_gc GX_gc GE_gc HK_gc HB2 BB_gc; have HA3 := Am (blkB BB_gc.out HA2.out); clear x0 x1 x2 x3; obtain ⟨x0, x1, x2, x3⟩ := bx3 HA3.out; obtain ⟨y0, y1, y2, y3, f0, f1, f2, f3⟩ := bx4 HK_gc.out) | ((with_reducible refine Gd 40 rfl ?_); refine gen_l (fun W => W.heap[gc]? = some (.cells #[.bool false, .int .i64 0, .int .i64 0, .slice none 0 0] 29 (0, 0)) ∧ Below w2.heap.size w2 W) ⟨bp4 HK_gc.out, by with_reducible repeat (first | exact BB_gc.out | refine below_set ?_ GX_gc.out)⟩ ?_; rintro w3 ⟨hk, hb⟩; have HNE := Am (show ¬ (gc = gb) by (intro e; have h1 := GX_gc.out; have h2 := blk_lt HG2.out; omega)); have HC3 := Am hk; have HA4 := Am (blkB hb HA2.out); have HG4 := Am (blkB hb HG2.out); have HR4 := Am (Kd.C_below HR9.out hb); have HB4 := Am (bel_t HB0.out hb); clear hk hb x0 x1 x2 x3 y0 y1 y2 y3 f0 f1 f2 f3 HK_gc HA3 HB2 HB0 BB_gc GX_gc; obtain ⟨x0, x1, x2, x3⟩ := bx3 HA4.out))
 refine (Find_calls (some ⟨g8, 0, none⟩) c8 _ HR4.out HC8.out).mono ?_
 rintro _ w4 ⟨rfl, hb⟩
 have HA5 := Am (blkB hb HA4.out)
 have HG5 := Am (blkB hb HG4.out)
 have HC5 := Am (blkB hb HC3.out)
 have HB5 := Am (bel_t HB4.out hb)
 clear hb x0 x1 x2 x3 HA4 HG4 HC3 HB4 HR4 HR9
 obtain ⟨x0, x1, x2, x3⟩ := bx3 HA5.out
 go_wp2_with (fail)
 refine (table_Search.calls 40 A0 c0 T1 4 _ 0 _ (Kd.C_below HR.out HB5.out) HC.out t1_search).mono ?_
 rintro _ w5 ⟨v16, rfl, hR, hb⟩
 obtain ⟨g16, c16, rfl, -, -, -⟩ := Kd.R_form hR (by decide)
 have z4 : w5.cell? ⟨g16, 4, none⟩ = some (.int .i64 6) := (Kd.R_celln 0 hR 4 (by decide) (by decide)).1
 have HA6 := Am (blkB hb HA5.out)
 have HG6 := Am (blkB hb HG5.out)
 have HC6 := Am (blkB hb HC5.out)
 have HB6 := Am (bel_t HB5.out hb)
 clear hb hR x0 x1 x2 x3 HA5 HG5 HC5 HB5
 obtain ⟨x0, x1, x2, x3⟩ := bx3 HA6.out
 go_wp2_with (fail)
 refine (grown_calls A0 c0 _ (Kd.C_below HR.out HB6.out) HC.out).mono ?_
 rintro _ w6 ⟨v6, rfl, hR, hb⟩
 obtain ⟨g6, c6, rfl, -, -, -⟩ := Kd.R_form hR (by decide)
 obtain ⟨-, hc6, hC6⟩ := Kd.R_reads' hR
 have HRW := Am hC6
 have HCW := Am hc6
 have HG7 := Am (blkB hb HG6.out)
 have HC7 := Am (blkB hb HC6.out)
 have HB7 := Am (bel_t HB6.out hb)
 clear hb hR hC6 hc6 x0 x1 x2 x3 z4 HA6 HG6 HC6 HB6
 go_wp2_with (fail)
 refine (graft_calls A0 c0 (some ⟨g6, 0, none⟩) c6 _ (Kd.C_below HR.out HB7.out) HC.out HRW.out HCW.out).mono ?_
 rintro _ w7 ⟨v19, rfl, hR, hb⟩
 have HR7 := Am (Kd.R_newB hR HG7.out)
 have HG8 := Am (blkB hb HG7.out)
 have HC8 := Am (blkB hb HC7.out)
 have HB8 := Am (bel_t HB7.out hb)
 have HLE := Am HB7.out.size
 clear hb hR HG7 HC7 HB7 HRW HCW
 obtain ⟨B1, hB1⟩ : ∃ B, w6.heap.size = B := ⟨_, rfl⟩
 rw [hB1] at HR7 HLE
 clear hB1
 have HGE := GE_gb
 go_wp2
 refine sT 7 [] (S := fun W => W.heap[gc]? = some (.cells #[.bool false, .int .i64 0, .int .i64 0, .slice none 0 0] 29 (0, 0)) ∧ W.heap[gb]? = some (.cells #[.bool false, .int .i64 0, .int .i64 0, .slice none 0 0] 29 (0, 0)) ∧ Kd.R k69 69 W B1 (fun k => True ∧ k ≠ gb) v19 T2 ∧ Below w.heap.size w W) ⟨blkB ((Below.refl _ _).drew) HC8.out, blkB ((Below.refl _ _).drew) HG8.out, Kd.R_below HR7.out ((Below.refl _ _).drew), HB8.out.drew⟩ fun hHeld => ?_
 refine gen_any (fun W => W.heap[gc]? = some (.cells #[.bool false, .int .i64 0, .int .i64 0, .slice none 0 0] 29 (0, 0)) ∧ W.heap[gb]? = some (.cells #[.bool false, .int .i64 0, .int .i64 0, .slice none 0 0] 29 (0, 0)) ∧ Kd.R k69 69 W B1 (fun k => True ∧ k ≠ gb) v19 T2 ∧ Below w.heap.size w W) hHeld (fun w8 hHeld => ?_)
 refine pu 0 132 ?_
 refine ta 1 133 hHeld (hy := by intro w' hs; obtain ⟨y0, y1, y2, y3⟩ := bx3 hs.1; exact gz) ?_
 refine pu 2 134 ?_
 refine pu 3 4 ?_
 obtain ⟨y0, y1, y2, y3, f0, f1, f2, f3⟩ := bx4 hHeld.2.1
 refine on0 4 (fun K hK => ?_)
 refine sk ?_
 refine hK.out _ _ ⟨by with_reducible repeat (first | exact hHeld.1 | refine blk_far ?_ HNE.out _), bp4 hHeld.2.1, by with_reducible repeat (first | exact hHeld.2.2.1 | refine Kd.R_far ?_ (fun _ hk => hk.2) _), by with_reducible repeat (first | exact hHeld.2.2.2 | refine below_set ?_ HGE.out)⟩ (fun hHeld => ?_)
 clear hK K y0 y1 y2 y3 f0 f1 f2 f3
 refine pu 5 6 ?_
 refine pu 6 7 ?_
 refine done_ (by kernel_rfl) ?_
 go_wp2
 refine bodyPost_ret (results_tctt rfl _ _ gb rfl (run_loadVar_row _ gb 29 29 #[.bool false, .int .i64 0, .int .i64 0, .slice none 0 0] (0, 0) _ hHeld.2.1 Tryz.underlying29 rfl (by kernel_rfl)) rfl rfl rfl) rfl ?_
 exact ⟨_, rfl, Kd.R_lower (Kd.R_drop hHeld.2.2.1) HLE.out, hHeld.2.2.2⟩
end
section
open Go.Proofs.YtaabbaemfnecgaaGreat.V
theorem info77 : (Tryz.prog.info? 77).map (fun i => (i.zero, i.size, i.bytes)) = some (some (.agg #[.int .i64 0, .int .i64 0, .bool false]), 3, 24) := by kernel_rfl
theorem own_lo {w : World} {B B' e size n : Nat} {v : Value} {xs : List Value} (h : w.ownsRow B' e size v n xs) (hB : B ≤ B') : w.ownsRow B e size v n xs := ⟨h.1, h.2.imp id (fun ⟨g, cap, cur, a, b, c⟩ => ⟨g, cap, cur, a, Nat.le_trans hB b, c⟩)⟩
theorem clean_calls (A0 : Option Addr) (c0 : Nat) (w : World) (hr0 : Kd.C k69 w A0 11 T2) (hc0 : 11 ≤ c0) :
  Calls Tryz.prog 66 #[.slice A0 11 c0, .int .i64 4, .int .i64 10000] w fun e w' => ∃ v m, e = .returned (.tuple #[v, m, .bool true, .int .i64 0]) ∧ Kd.R k69 69 w' w.heap.size (fun _ => True) v T3 ∧ w'.ownsRow w.heap.size 77 3 m 1 [.int .i64 2, .int .i64 2, .bool true] ∧ Below w.heap.size w w' := by
 have HR := Am hr0
 have HC := Am hc0
 have HB := Br w
 clear hr0 hc0
 go_enter Tryz.func66, Tryz.ntmps66
 go_wp2
 go_loopg [0, 10] 2 (fun kq v0 v10 w' => ((kq = 2 ∧ v0 = .slice A0 11 c0 ∧ v10 = .slice none 0 0) ∨ (kq = 1 ∧ Aside0 (Kd.R k69 69 w' w.heap.size (fun _ => True) v0 T3) ∧ Aside0 (w'.ownsRow w.heap.size 77 3 v10 1 [.int .i64 2, .int .i64 2, .bool true]))) ∧ Aside0 (Below w.heap.size w w'))
 case atStart => exact ⟨.inl ⟨rfl, rfl, rfl⟩, HB⟩
 case round =>
  clear HB
  obtain ⟨ho, HB⟩ := hrel
  rcases ho with ⟨rfl, rfl, rfl⟩ | ⟨rfl, HT, HO⟩
  ·go_wp2_with (fail)
   refine (seq_next.calls 40 A0 c0 T2 4 2 2 true true _ (Kd.C_below HR.out HB.out) HC.out t2_next).mono ?_
   rintro _ w1 ⟨rfl, hb⟩
   have HB1 := Am (bel_t HB.out hb)
   clear hb HB
   go_wp2_with (first | ((with_reducible refine Gd 12 rfl ?_); refine bF 12 HB1.out (cs := #[.int .i64 0, .bool false]) (t := 49) ?_; clear HB1; intro gm w_gm GX_gm GE_gm HK_gm HB1 BB_gm; obtain ⟨x0, x1, e0, e1⟩ := box49 HK_gm.out) | ((with_reducible refine Gd 38 rfl ?_); refine gen_l (fun W => W.heap[gm]? = some (.cells #[.int .i64 2, .bool true] 49 (0, 0)) ∧ Below w.heap.size w W) ⟨bp2 HK_gm.out, by with_reducible repeat (first | exact HB1.out | refine below_set ?_ GE_gm.out)⟩ ?_; rintro w2 ⟨hk, hb⟩; have HK2 := Am hk; have HB2 := Am hb; clear hk hb x0 x1 e0 e1 HK_gm HB1 BB_gm GX_gm GE_gm; obtain ⟨x0, x1, -, -⟩ := box49 HK2.out))
   refine (sdo_calls A0 c0 _ (Kd.C_below HR.out HB2.out) HC.out).mono ?_
   rintro _ w3 ⟨v3, rfl, hR, hb⟩
   have HR3 := Am (Kd.R_lower hR HB2.out.size)
   have HK3 := Am (blkB hb HK2.out)
   have HB3 := Am (bel_t HB2.out hb)
   clear hb hR x0 x1 HK2 HB2
   obtain ⟨x0, x1, -, -⟩ := box49 HK3.out
   go_wp2_with ((with_reducible refine gate_builtin (b := .append) (xs := #[.tmp 46, .tmp 50]) rfl ?_); at_builtin; refine print_append_cells (w0 := w) w.heap.size rfl (.tmp 46) (.tmp 50) 38 77 (.agg #[.int .i64 0, .int .i64 0, .bool false]) 3 24 rfl Tryz.underlying38 info77 rfl (by decide) (by decide) (.slice none 0 0) 0 [] [.int .i64 2, .int .i64 2, .bool true] rfl rfl rfl (by simp [Value.oneCell']) (own_nil _ _ _ _) HB3.out HB3.out.size (by decide) ?_; intro v8 w8 ho hb hg hat; have HO8 := Am ho; have HR8 := Am (Kd.R_grown2 HR3.out rfl hg (by simp [Value.ownBlock])); have HB8 := Am hb; clear ho hb hg hat)
   go_roundg 1
   case measure => omega
   case rel => exact ⟨.inr ⟨rfl, HR8, HO8⟩, HB8⟩
  ·obtain ⟨g3, c3, rfl, -, -, -⟩ := Kd.R_form HT.out (by decide)
   obtain ⟨-, hc3, hC3⟩ := Kd.R_reads' HT.out
   go_wp2_with (fail)
   refine (seq_next.calls 40 (some ⟨g3, 0, none⟩) c3 T3 4 0 0 false false _ hC3 hc3 t3_next).mono ?_
   rintro _ w4 ⟨rfl, hb⟩
   have HT4 := Am (Kd.R_below HT.out hb)
   have HO4 := Am (pw_own_below HO.out hb)
   have HB4 := Am (bel_t HB.out hb)
   have HB5 := HB4
   clear hb HT HO HB hC3 hc3
   go_wp2_with (first | ((with_reducible refine Gd 12 rfl ?_); refine bF 12 HB4.out (cs := #[.int .i64 0, .bool false]) (t := 49) ?_; clear HB4; intro gm w_gm GX_gm GE_gm HK_gm HB4 BB_gm; obtain ⟨x0, x1, e0, e1⟩ := box49 HK_gm.out))
   refine bodyPost_ret (results_list (rs := [.tmp 6, .tmp 7, .tmp 8, .tmp 9]) rfl (by simp) (.tmp (.tmp (.tmp (.tmp .nil))))) rfl ?_
   have hbe : Below w4.heap.size w4 _ := below_set (below_set BB_gm.out GX_gm.out (j := 0) (v := .int .i64 0)) GX_gm.out (j := 1) (v := .bool false)
   exact ⟨_, _, rfl, Kd.R_below HT4.out hbe, pw_own_below HO4.out hbe, bel_t HB5.out hbe⟩
end
section
open Go.Proofs.YtaabbaemfnecgaaGreat.V
theorem kdo_calls (A0 : Option Addr) (c0 : Nat) (w : World) (hr0 : Kd.C k69 w A0 9 T1) (hc0 : 9 ≤ c0) :
  Calls Tryz.prog 54 #[.slice A0 9 c0, .agg #[.int .i64 2, .int .i64 4, .int .i64 40, .int .i64 0]] w fun e w' => ∃ v m, e = .returned (.tuple #[v, .agg #[.bool false, .int .i64 0, .int .i64 0, .slice none 0 0], m, .int .i64 0]) ∧ Kd.R k69 69 w' w.heap.size (fun _ => True) v T3 ∧ w'.ownsRow w.heap.size 77 3 m 1 [.int .i64 2, .int .i64 2, .bool true] ∧ Below w.heap.size w w' := by
 have HR := Am hr0
 have HC := Am hc0
 have HB := Br w
 clear hr0 hc0
 go_enter Tryz.func54, Tryz.ntmps54
 go_wp2_with (first | ((with_reducible refine Gd 3 rfl ?_); refine bF 3 HB.out (cs := #[.int .i64 2, .int .i64 4, .int .i64 40, .int .i64 0]) (t := 24) ?_; clear HB; intro ga w_ga GX_ga GE_ga HK_ga HB BB_ga) | ((with_reducible refine Gd 5 rfl ?_); refine bF 5 HB.out (cs := #[.bool false, .int .i64 0, .int .i64 0, .slice none 0 0]) (t := 29) ?_; clear HB; intro gb w_gb GX_gb GE_gb HK_gb HB BB_gb; have HK1 := Am (blkB BB_gb.out HK_ga.out); obtain ⟨x0, x1, x2, x3⟩ := bx3 HK1.out))
 refine (change_calls A0 c0 _ (Kd.C_below HR.out HB.out) HC.out).mono ?_
 rintro _ w1 ⟨v8, rfl, hR, hb⟩
 obtain ⟨g8, c8, rfl, -, -, -⟩ := Kd.R_form hR (by decide)
 obtain ⟨-, hc8, hC8⟩ := Kd.R_reads' hR
 have HR8 := Am hC8
 have HC8 := Am hc8
 have HA1 := Am (blkB hb HK1.out)
 have HG1 := Am (blkB hb HK_gb.out)
 have HB1 := Am (bel_t HB.out hb)
 clear hb hR hc8 hC8 HK1 HK_gb HK_ga HB BB_ga BB_gb x0 x1 x2 x3
 obtain ⟨x0, x1, x2, x3⟩ := bx3 HA1.out
 have HB0 := HB1
 go_wp2_with (first | ((with_reducible refine Gd 9 rfl ?_); refine bF 9 HB1.out (cs := #[.bool false, .int .i64 0, .int .i64 0, .slice none 0 0]) (t := 29) ?_; clear HB1; intro gc w_gc GX_gc GE_gc HK_gc HB1 BB_gc; have HA3 := Am (blkB BB_gc.out HA1.out); clear x0 x1 x2 x3; obtain ⟨x0, x1, x2, x3⟩ := bx3 HA3.out; obtain ⟨y0, y1, y2, y3, f0, f1, f2, f3⟩ := bx4 HK_gc.out) | ((with_reducible refine Gd 34 rfl ?_); refine gen_l (fun W => W.heap[gc]? = some (.cells #[.bool false, .int .i64 0, .int .i64 0, .slice none 0 0] 29 (0, 0)) ∧ Below w1.heap.size w1 W) ⟨bp4 HK_gc.out, by with_reducible repeat (first | exact BB_gc.out | refine below_set ?_ GX_gc.out)⟩ ?_; rintro w3 ⟨hk, hb⟩; have HNE := Am (show ¬ (gc = gb) by (intro e; have h1 := GX_gc.out; have h2 := blk_lt HG1.out; omega)); have HC3 := Am hk; have HA4 := Am (blkB hb HA1.out); have HG4 := Am (blkB hb HG1.out); have HR4 := Am (Kd.C_below HR8.out hb); have HB4 := Am (bel_t HB0.out hb); clear hk hb x0 x1 x2 x3 y0 y1 y2 y3 f0 f1 f2 f3 HK_gc HA3 HB1 HB0 BB_gc GX_gc; obtain ⟨x0, x1, x2, x3⟩ := bx3 HA4.out))
 refine (clean_calls (some ⟨g8, 0, none⟩) c8 _ HR4.out HC8.out).mono ?_
 rintro _ w4 ⟨v8, v12, rfl, hR, hO, hb⟩
 have HR5 := Am (Kd.R_newB hR HG4.out)
 have HG5 := Am (blkB hb HG4.out)
 have HC5 := Am (blkB hb HC3.out)
 have HB5 := Am (bel_t HB4.out hb)
 have HO5 := Am hO
 have HN5 := Am (show some gb ≠ v12.ownBlock from fun e => by have h1 := own_base hO gb e.symm; have h2 := blk_lt HG4.out; omega)
 have HLE := Am HB4.out.size
 clear hb hR hO HG4 HC3 HB4 HR4 HA4 x0 x1 x2 x3
 obtain ⟨B1, hB1⟩ : ∃ B, w3.heap.size = B := ⟨_, rfl⟩
 rw [hB1] at HR5 HO5 HLE
 clear hB1
 have HGE := GE_gb
 go_wp2
 refine sT 7 [] (S := fun W => W.heap[gc]? = some (.cells #[.bool false, .int .i64 0, .int .i64 0, .slice none 0 0] 29 (0, 0)) ∧ W.heap[gb]? = some (.cells #[.bool false, .int .i64 0, .int .i64 0, .slice none 0 0] 29 (0, 0)) ∧ Kd.R k69 69 W B1 (fun k => True ∧ k ≠ gb) v8 T3 ∧ W.ownsRow B1 77 3 v12 1 [.int .i64 2, .int .i64 2, .bool true] ∧ Below w.heap.size w W) ⟨blkB ((Below.refl _ _).drew) HC5.out, blkB ((Below.refl _ _).drew) HG5.out, Kd.R_below HR5.out ((Below.refl _ _).drew), own_drew HO5.out, HB5.out.drew⟩ fun hHeld => ?_
 refine gen_any (fun W => W.heap[gc]? = some (.cells #[.bool false, .int .i64 0, .int .i64 0, .slice none 0 0] 29 (0, 0)) ∧ W.heap[gb]? = some (.cells #[.bool false, .int .i64 0, .int .i64 0, .slice none 0 0] 29 (0, 0)) ∧ Kd.R k69 69 W B1 (fun k => True ∧ k ≠ gb) v8 T3 ∧ W.ownsRow B1 77 3 v12 1 [.int .i64 2, .int .i64 2, .bool true] ∧ Below w.heap.size w W) hHeld (fun w8 hHeld => ?_)
 refine pu 0 50 ?_
 refine ta 1 51 hHeld (hy := by intro w' hs; obtain ⟨y0, y1, y2, y3⟩ := bx3 hs.1; exact gz) ?_
 refine pu 2 52 ?_
 refine pu 3 4 ?_
 obtain ⟨y0, y1, y2, y3, f0, f1, f2, f3⟩ := bx4 hHeld.2.1
 refine on0 4 (fun K hK => ?_)
 refine sk ?_
 refine hK.out _ _ ⟨by with_reducible repeat (first | exact hHeld.1 | refine blk_far ?_ HNE.out _), bp4 hHeld.2.1, by with_reducible repeat (first | exact hHeld.2.2.1 | refine Kd.R_far ?_ (fun _ hk => hk.2) _), by with_reducible repeat (first | exact hHeld.2.2.2.1 | refine own_setCell ?_ HN5.out _), by with_reducible repeat (first | exact hHeld.2.2.2.2 | refine below_set ?_ HGE.out)⟩ (fun hHeld => ?_)
 clear hK K y0 y1 y2 y3 f0 f1 f2 f3
 refine pu 5 6 ?_
 refine pu 6 7 ?_
 refine done_ (by kernel_rfl) ?_
 go_wp2
 refine bodyPost_ret (results_tctt rfl _ _ gb rfl (run_loadVar_row _ gb 29 29 #[.bool false, .int .i64 0, .int .i64 0, .slice none 0 0] (0, 0) _ hHeld.2.1 Tryz.underlying29 rfl (by kernel_rfl)) rfl rfl rfl) rfl ?_
 exact ⟨_, _, rfl, Kd.R_lower (Kd.R_drop hHeld.2.2.1) HLE.out, own_lo hHeld.2.2.2.1 HLE.out, hHeld.2.2.2.2⟩
theorem kDo_calls (A0 : Option Addr) (c0 : Nat) (w : World) (hr0 : Kd.C k69 w A0 9 T1) (hc0 : 9 ≤ c0) :
  Calls Tryz.prog 18 #[.slice A0 9 c0, .agg #[.int .i64 2, .int .i64 4, .int .i64 40, .int .i64 0]] w fun e w' => ∃ v m, e = .returned (.tuple #[v, .agg #[.bool false, .int .i64 0, .int .i64 0, .slice none 0 0], m, .int .i64 0]) ∧ Kd.R k69 69 w' w.heap.size (fun _ => True) v T3 ∧ w'.ownsRow w.heap.size 77 3 m 1 [.int .i64 2, .int .i64 2, .bool true] ∧ Below w.heap.size w w' := by
 have HR := Am hr0
 have HC := Am hc0
 have HB := Br w
 clear hr0 hc0
 go_enter Tryz.func18, Tryz.ntmps18
 go_wp2_with (first | ((with_reducible refine Gd 3 rfl ?_); refine bF 3 HB.out (cs := #[.int .i64 2, .int .i64 4, .int .i64 40, .int .i64 0]) (t := 24) ?_; clear HB; intro ga w_ga GX_ga GE_ga HK_ga HB BB_ga) | ((with_reducible refine Gd 5 rfl ?_); refine bF 5 HB.out (cs := #[.bool false, .int .i64 0, .int .i64 0, .slice none 0 0]) (t := 29) ?_; clear HB; intro gb w_gb GX_gb GE_gb HK_gb HB BB_gb; have HK1 := Am (blkB BB_gb.out HK_ga.out); obtain ⟨x0, x1, x2, x3⟩ := bx3 HK1.out))
 have hal : Below w_gb.heap.size w_gb (w_gb.alloc (.cells #[.int .i64 2, .int .i64 4, .int .i64 40, .int .i64 0] 24 (0, 0))) := (Below.refl _ _).alloc (Nat.le_refl _) _
 refine (asked_calls A0 c0 _ _ (Kd.C_below HR.out (bel_t HB.out hal)) HC.out (heap_alloc_new w_gb _)).mono ?_
 rintro _ w1 ⟨v8, rfl, hR, hb0⟩
 have hb := bel_t hal hb0
 obtain ⟨g8, c8, rfl, -, -, -⟩ := Kd.R_form hR (by decide)
 obtain ⟨-, hc8, hC8⟩ := Kd.R_reads' hR
 have HR8 := Am hC8
 have HC8 := Am hc8
 have HA1 := Am (blkB hb HK1.out)
 have HG1 := Am (blkB hb HK_gb.out)
 have HB1 := Am (bel_t HB.out hb)
 clear hb hb0 hal hR hc8 hC8 HK1 HK_gb HK_ga HB BB_ga BB_gb x0 x1 x2 x3
 obtain ⟨x0, x1, x2, x3⟩ := bx3 HA1.out
 go_wp2_with (fail)
 refine (kdo_calls (some ⟨g8, 0, none⟩) c8 _ HR8.out HC8.out).mono ?_
 rintro _ w4 ⟨v4, v6, rfl, hR, hO, hb⟩
 have HR5 := Am (Kd.R_newB hR HG1.out)
 have HG5 := Am (blkB hb HG1.out)
 have HB5 := Am (bel_t HB1.out hb)
 have HO5 := Am hO
 have HN5 := Am (show some gb ≠ v6.ownBlock from fun e => by have h1 := own_base hO gb e.symm; have h2 := blk_lt HG1.out; omega)
 have HLE := Am HB1.out.size
 clear hb hR hO HG1 HB1 HR8 HA1 x0 x1 x2 x3
 have HGE := GE_gb
 obtain ⟨y0, y1, y2, y3, f0, f1, f2, f3⟩ := bx4 HG5.out
 go_wp2
 refine bodyPost_ret (results_tctt rfl _ _ gb rfl (run_loadVar_row _ gb 29 29 #[.bool false, .int .i64 0, .int .i64 0, .slice none 0 0] (0, 0) _ (bp4 HG5.out) Tryz.underlying29 rfl (by kernel_rfl)) rfl rfl rfl) rfl ?_
 exact ⟨v4, v6, rfl, Kd.R_lower (Kd.R_drop (by with_reducible repeat (first | exact HR5.out | refine Kd.R_far ?_ (fun _ hk => hk.2) _))) HLE.out, own_lo (by with_reducible repeat (first | exact HO5.out | refine own_setCell ?_ HN5.out _)) HLE.out, by with_reducible repeat (first | exact HB5.out | refine below_set ?_ HGE.out)⟩
end
section
open Go.Proofs.YtaabbaemfnecgaaGreat.V
def larchlaw19_known.f (k : Nat) : Option Bool := some true
theorem mv_at {W : World} {B : Nat} {r : Value} (h : W.ownsRow B 77 3 r 1 [.int .i64 2, .int .i64 2, .bool true]) : ∃ ad c, r = .slice (some ad) 1 c ∧ W.cell? ad = some (.int .i64 2) ∧ W.cell? ⟨ad.block, ad.off + 1, none⟩ = some (.int .i64 2) ∧ W.cell? ⟨ad.block, ad.off + 2, none⟩ = some (.bool true) := by
 have hrep : Reps (fun (_ : Unit) (cs : List Value) => cs = [.int .i64 2, .int .i64 2, .bool true]) 3 [()] [.int .i64 2, .int .i64 2, .bool true] := Reps.snoc (ps := []) (cs := []) (Reps.none _ _) rfl rfl
 obtain ⟨A, c, rfl, -, -, hr⟩ := own_reads_row h hrep rfl
 obtain ⟨ad, rfl, hc⟩ := hr (by decide)
 obtain ⟨cs, -, rfl, hk⟩ := hc 0 () rfl
 refine ⟨ad, c, rfl, ?_, hk 1 _ rfl, hk 2 _ rfl⟩
 simpa [Addr.add] using hk 0 _ rfl
theorem larchlaw19_known.calls (k : Nat) (r : Bool) (w : World) (h : larchlaw19_known.f k = some r) : Calls Tryz.prog 11 #[] w (RB w (.bool r)) := by
 obtain rfl : true = r := Option.some.inj h
 clear h
 have HB := Br w
 go_enter Tryz.func11, Tryz.ntmps11
 go_wp2_with (fail)
 refine (below_calls txt1 T1 _ (by decide) txt1_read).mono ?_
 rintro _ w1 ⟨v1, rfl, hR, hb⟩
 obtain ⟨g1, c1, rfl, -, -, -⟩ := Kd.R_form hR (by decide)
 obtain ⟨-, hc1, hC1⟩ := Kd.R_reads' hR
 have HR1 := Am hC1
 have HC1 := Am hc1
 have HB1 := Am (bel_t HB.out hb)
 clear hb hR hc1 hC1 HB
 go_wp2_with (fail)
 refine (kDo_calls (some ⟨g1, 0, none⟩) c1 _ HR1.out HC1.out).mono ?_
 rintro _ w2 ⟨v2, mm, rfl, hR, hO, hb⟩
 obtain ⟨am, cm, rfl, -, -, -⟩ := mv_at hO
 obtain ⟨g2, c2, rfl, -, -, -⟩ := Kd.R_form hR (by decide)
 obtain ⟨-, hc2, hC2⟩ := Kd.R_reads' hR
 have HR2 := Am hC2
 have HC2 := Am hc2
 have HO2 := Am hO
 have HB2 := Am (bel_t HB1.out hb)
 clear hb hR hO hc2 hC2 HB1
 have HB3 := HB2
 go_wp2_with (first | ((with_reducible refine Gd 2 rfl ?_); refine bF 2 HB2.out (cs := #[.bool false, .int .i64 0, .int .i64 0, .slice none 0 0]) (t := 29) ?_; clear HB2; intro gc w_gc GX_gc GE_gc HK_gc HB2 BB_gc; obtain ⟨y0, y1, y2, y3, f0, f1, f2, f3⟩ := bx4 HK_gc.out) | ((with_reducible refine Gd 24 rfl ?_); refine gen_l (fun W => Below w2.heap.size w2 W) (by with_reducible repeat (first | exact BB_gc.out | refine below_set ?_ GX_gc.out)) ?_; intro w3 hb; have HB4 := Am (bel_t HB3.out hb); have HR4 := Am (Kd.C_below HR2.out hb); have HO4 := pw_own_below HO2.out hb; obtain ⟨am', cm', e, m0, m1, m2⟩ := mv_at HO4; cases e; clear hb HO4 y0 y1 y2 y3 f0 f1 f2 f3 HK_gc BB_gc GX_gc HB2 HB3 HO2))
 refine (below_calls txt2 T3 _ (by decide) txt2_read).mono ?_
 rintro _ w5 ⟨v5, rfl, hR, hb⟩
 obtain ⟨g5, c5, rfl, -, -, -⟩ := Kd.R_form hR (by decide)
 obtain ⟨-, hc5, hC5⟩ := Kd.R_reads' hR
 have HR5 := Am hC5
 have HC5 := Am hc5
 have HR6 := Am (Kd.C_below HR4.out hb)
 have HB5 := Am (bel_t HB4.out hb)
 clear hb hR hc5 hC5 HB4 m0 m1 m2
 go_wp2_with (fail)
 refine (larchref16_Equal.calls 40 (some ⟨g2, 0, none⟩) c2 T3 (some ⟨g5, 0, none⟩) c5 T3 true _ HR6.out HC2.out HR5.out HC5.out t3_equal).mono ?_
 rintro _ w6 ⟨rfl, hd⟩
 have HB6 := Am (bel_t HB5.out hd.below)
 clear hd
 go_wp2
 go_ret
 exact ⟨rfl, HB6.out⟩
end
section
attribute [local go_sem] max2_int min2_int max_two min_two max_three min_three max_four min_four
mutual
def larchref16_node.j0 : Nat → Int → Bool → Int → Int → Int → Int → Int → Int → Option (Bool)
 | 0, _, _, _, _, _, _, _, _ => none
 | k + 1, x1, x5, x378000, x378001, x378002, x378003, x378004, x378005 => if x5 = true then (larchref16_node.j1 k x5 false x378000 x378001 x378002 x378003 x378004 x378005) else (if x378004 < 1 then (larchref16_node.j1 k x5 true x378000 x378001 x378002 x378003 x378004 x378005) else (if x378004 ≥ x1 then (larchref16_node.j1 k x5 true x378000 x378001 x378002 x378003 x378004 x378005) else (if x378005 < 1 then (larchref16_node.j1 k x5 true x378000 x378001 x378002 x378003 x378004 x378005) else (if x378005 ≥ x1 then (larchref16_node.j1 k x5 true x378000 x378001 x378002 x378003 x378004 x378005) else (larchref16_node.j1 k x5 (x378004 == x378005) x378000 x378001 x378002 x378003 x378004 x378005)))))
def larchref16_node.j1 : Nat → Bool → Bool → Int → Int → Int → Int → Int → Int → Option (Bool)
 | 0, _, _, _, _, _, _, _, _ => none
 | k + 1, x5, x44, x378000, x378001, x378002, x378003, x378004, x378005 => if x44 = true then (some false) else (if x378001 = 0 then (if x378001 = 1 then (if x378000 = 0 then (if x378003 = 0 then (if x5 = true then (if x378002 ≥ 0 then (some (decide (x378002 ≤ 1000000))) else (some false)) else (if x378002 ≥ 0 then (some (decide (x378002 ≤ 1000000))) else (some false))) else (some false)) else (some false)) else (if x5 = true then (if x378002 ≥ 0 then (some (decide (x378002 ≤ 1000000))) else (some false)) else (if x378003 = 0 then (if x378002 ≥ 0 then (some (decide (x378002 ≤ 1000000))) else (some false)) else (some false)))) else (if x378001 = 1 then (if x378000 = 0 then (if x378003 = 0 then (if x5 = true then (if x378002 ≥ 0 then (some (decide (x378002 ≤ 1000000))) else (some false)) else (if x378002 ≥ 0 then (some (decide (x378002 ≤ 1000000))) else (some false))) else (some false)) else (some false)) else (some false)))
end
def larchref16_node.f (k : Nat) (a0_0 : Int) (a0_1 : Int) (a0_2 : Int) (a0_3 : Int) (a0_4 : Int) (a0_5 : Int) (a1 : Int) : Option (Bool) := if a0_4 = (-1) then (larchref16_node.j0 k a1 (a0_5 == (-1)) a0_0 a0_1 a0_2 a0_3 a0_4 a0_5) else (larchref16_node.j0 k a1 false a0_0 a0_1 a0_2 a0_3 a0_4 a0_5)
theorem larchref16_node.mono_l : ∀ k, (∀ y0 y1 y2 y3 y4 y5 y6 y7, LeO (larchref16_node.j0 k y0 y1 y2 y3 y4 y5 y6 y7) (larchref16_node.j0 (k + 1) y0 y1 y2 y3 y4 y5 y6 y7)) ∧ (∀ y0 y1 y2 y3 y4 y5 y6 y7, LeO (larchref16_node.j1 k y0 y1 y2 y3 y4 y5 y6 y7) (larchref16_node.j1 (k + 1) y0 y1 y2 y3 y4 y5 y6 y7))
 | 0 => ⟨fun _ _ _ _ _ _ _ _ r h => by simp [larchref16_node.j0] at h, fun _ _ _ _ _ _ _ _ r h => by simp [larchref16_node.j1] at h⟩
 | k + 1 => by
  obtain ⟨ih0, ih1⟩ := larchref16_node.mono_l k
  refine ⟨?_, ?_⟩
  ·intro y0 y1 y2 y3 y4 y5 y6 y7
   unfold larchref16_node.j0
   repeat' with_reducible first | exact ih0 _ _ _ _ _ _ _ _ | exact ih1 _ _ _ _ _ _ _ _ | exact LeO.refl _ | exact LeO.none _ | refine LeO.ite ?_ ?_ | refine LeO.bind ?_ (fun _ => ?_)
  ·intro y0 y1 y2 y3 y4 y5 y6 y7
   unfold larchref16_node.j1
   repeat' with_reducible first | exact ih0 _ _ _ _ _ _ _ _ | exact ih1 _ _ _ _ _ _ _ _ | exact LeO.refl _ | exact LeO.none _ | refine LeO.ite ?_ ?_ | refine LeO.bind ?_ (fun _ => ?_)
theorem larchref16_node.mono : ∀ a0 a1 a2 a3 a4 a5 a6 k, LeO (larchref16_node.f k a0 a1 a2 a3 a4 a5 a6) (larchref16_node.f (k + 1) a0 a1 a2 a3 a4 a5 a6) := by
 intro a0 a1 a2 a3 a4 a5 a6 k
 obtain ⟨ih0, ih1⟩ := larchref16_node.mono_l k
 unfold larchref16_node.f
 repeat' with_reducible first | exact ih0 _ _ _ _ _ _ _ _ | exact ih1 _ _ _ _ _ _ _ _ | exact LeO.refl _ | exact LeO.none _ | refine LeO.ite ?_ ?_ | refine LeO.bind ?_ (fun _ => ?_)
theorem larchref16_node.calls (k : Nat) (a0_0 : Int) (a0_1 : Int) (a0_2 : Int) (a0_3 : Int) (a0_4 : Int) (a0_5 : Int) (a1 : Int) (r : Bool) (w : World) (h : larchref16_node.f k a0_0 a0_1 a0_2 a0_3 a0_4 a0_5 a1 = some r) :
  Calls Tryz.prog 106 #[.agg #[.int .i64 a0_0, .int .i64 a0_1, .int .i64 a0_2, .int .i64 a0_3, .int .i64 a0_4, .int .i64 a0_5], .int .i64 a1] w (RB w (.bool r)) := by
 have HB := Br w
 have H := h
 unfold larchref16_node.f at H
 clear h
 have HC3 := Am H
 clear H
 go_enter Tryz.func106, Tryz.ntmps106
 go_upto_region 1 with (first | ((with_reducible refine Gd 2 rfl ?_); refine bE 2 (cs := #[.int .i64 a0_0, .int .i64 a0_1, .int .i64 a0_2, .int .i64 a0_3, .int .i64 a0_4, .int .i64 a0_5]) (t := 69) ?_; intro gb377 hg w4 hbox hb; obtain ⟨n0_, BK377, GW377, GE377⟩ := bx hg hbox hb; clear HB; have HB := n0_; clear n0_ hb hbox hg))
 (try simp only [Act.put, sI, sZ, sS])
 go_cut [5] (fun v5 wc => ∃ (kq : Nat) (x5_2 : Bool), v5 = .bool x5_2 ∧ Aside0 (larchref16_node.j0 kq a1 x5_2 a0_0 a0_1 a0_2 a0_3 a0_4 a0_5 = some r) ∧ Aside0 (kq ≤ k) ∧ Aside0 (wc.heap[gb377]? = some (.cells #[.int .i64 a0_0, .int .i64 a0_1, .int .i64 a0_2, .int .i64 a0_3, .int .i64 a0_4, .int .i64 a0_5] 69 (0, 0))) ∧ Aside0 (Below w.heap.size w wc))
 case first =>
  have H := HC3.out
  clear HC3
  by_cases c5 : a0_4 = (-1)
  ·rw [if_pos c5] at H
   obtain ⟨c5b0, c5b1⟩ := eq2 c5
   clear c5
   (first | rw [c5b0] | (simp only [i64_w, i32_w]; rw [c5b0]) | skip)
   have H' := Am H
   clear H
   obtain ⟨z6_0, z6_1, z6_2, z6_3, z6_4, z6_5, f6_0, f6_1, f6_2, f6_3, f6_4, f6_5⟩ := cf6 BK377.out
   go_wp2
   go_meet
   case rel => exact ⟨_, ((a0_5 == (-1))), (by first | rfl | (simp; done) | (simp [*]; done)), H', ⟨by first | omega | exact Nat.le_refl _⟩, ⟨bk BK377.out⟩, ⟨bs⟩⟩
  ·rw [if_neg c5] at H
   obtain ⟨c5b0, c5b1⟩ := ne2 c5
   (first | rw [c5b0] | (simp only [i64_w, i32_w]; rw [c5b0]) | skip)
   have H' := Am H
   clear H
   obtain ⟨z7_0, z7_1, z7_2, z7_3, z7_4, z7_5, f7_0, f7_1, f7_2, f7_3, f7_4, f7_5⟩ := cf6 BK377.out
   go_wp2
   go_meet
   case rel => exact ⟨_, (false), (by first | rfl | (simp; done) | (simp [*]; done)), H', ⟨by first | omega | exact Nat.le_refl _⟩, ⟨bk BK377.out⟩, ⟨bs⟩⟩
 case rest =>
  clear HC3
  obtain ⟨kq, x5_2, rfl, HA, HJ2, BK377, HB⟩ := hcut
  cases kq with
  | zero => exact absurd HA.out (by simp [larchref16_node.j0])
  | succ kj2 =>
   have H := HA.out
   clear HA
   simp only [larchref16_node.j0] at H
   have HC8 := Am H
   clear H
   go_upto_region 2 with (fail)
   go_cut [44] (fun v44 wc => ∃ (kq : Nat) (x44_7 : Bool), v44 = .bool x44_7 ∧ Aside0 (larchref16_node.j1 kq x5_2 x44_7 a0_0 a0_1 a0_2 a0_3 a0_4 a0_5 = some r) ∧ Aside0 (kq ≤ kj2) ∧ Aside0 (wc.heap[gb377]? = some (.cells #[.int .i64 a0_0, .int .i64 a0_1, .int .i64 a0_2, .int .i64 a0_3, .int .i64 a0_4, .int .i64 a0_5] 69 (0, 0))) ∧ Aside0 (Below w.heap.size w wc))
   case first =>
    have H := HC8.out
    clear HC8
    by_cases c9 : x5_2 = true
    ·subst c9
     rw [if_pos rfl] at H
     have H' := Am H
     clear H
     go_wp2
     go_meet
     case rel => exact ⟨_, (false), (by first | rfl | (simp; done) | (simp [*]; done)), H', ⟨by have := HJ2.out; first | omega | exact Nat.le_refl _⟩, ⟨bk BK377.out⟩, ⟨bs⟩⟩
    ·replace c9 := Bool.eq_false_iff.mpr c9
     subst c9
     rw [if_neg nf] at H
     by_cases c10 : a0_4 < 1
     ·rw [if_pos c10] at H
      have c10b0 := decide_eq_true c10
      clear c10
      (first | rw [c10b0] | (simp only [i64_w, i32_w]; rw [c10b0]) | skip)
      exact dd14
     ·rw [if_neg c10] at H
      have c10b0 := decide_eq_false c10
      clear c10
      (first | rw [c10b0] | (simp only [i64_w, i32_w]; rw [c10b0]) | skip)
      by_cases c12 : a0_4 ≥ a1
      ·rw [if_pos c12] at H
       have c12b0 : decide (a1 ≤ a0_4) = true := decide_eq_true c12
       clear c12
       exact dd14
      ·rw [if_neg c12] at H
       have c12b0 : decide (a1 ≤ a0_4) = false := decide_eq_false c12
       clear c12
       by_cases c14 : a0_5 < 1
       ·rw [if_pos c14] at H
        have c14b0 := decide_eq_true c14
        clear c14
        exact dd14
       ·rw [if_neg c14] at H
        have c14b0 := decide_eq_false c14
        clear c14
        by_cases c16 : a0_5 ≥ a1
        ·rw [if_pos c16] at H
         have c16b0 : decide (a1 ≤ a0_5) = true := decide_eq_true c16
         clear c16
         exact dd14
        ·rw [if_neg c16] at H
         have c16b0 : decide (a1 ≤ a0_5) = false := decide_eq_false c16
         clear c16
         have H' := Am H
         clear H
         obtain ⟨z18_0, z18_1, z18_2, z18_3, z18_4, z18_5, f18_0, f18_1, f18_2, f18_3, f18_4, f18_5⟩ := cf6 BK377.out
         go_wp2
         go_meet
         case rel => exact ⟨_, ((a0_4 == a0_5)), (by first | rfl | (simp; done) | (simp [*]; done)), H', ⟨by have := HJ2.out; first | omega | exact Nat.le_refl _⟩, ⟨bk BK377.out⟩, ⟨bs⟩⟩
   case rest =>
    clear HC8
    obtain ⟨kq, x44_7, rfl, HA, HJ7, BK377, HB⟩ := hcut
    cases kq with
    | zero => exact absurd HA.out (by simp [larchref16_node.j1])
    | succ kj7 =>
     have H := HA.out
     clear HA
     simp only [larchref16_node.j1] at H
     by_cases c19 : x44_7 = true
     ·subst c19
      rw [if_pos rfl] at H
      obtain rfl := Option.some.inj H
      go_wp2
      go_ret
      exact ⟨er, bs⟩
     ·replace c19 := Bool.eq_false_iff.mpr c19
      subst c19
      rw [if_neg nf] at H
      by_cases c20 : a0_1 = 0
      ·rw [if_pos c20] at H
       obtain ⟨c20b0, c20b1⟩ := eq2 c20
       clear c20
       by_cases c21 : a0_1 = 1
       ·rw [if_pos c21] at H
        obtain ⟨c21b0, c21b1⟩ := eq2 c21
        clear c21
        by_cases c22 : a0_0 = 0
        ·rw [if_pos c22] at H
         obtain ⟨c22b0, c22b1⟩ := eq2 c22
         clear c22
         by_cases c23 : a0_3 = 0
         ·rw [if_pos c23] at H
          obtain ⟨c23b0, c23b1⟩ := eq2 c23
          clear c23
          by_cases c24 : x5_2 = true
          ·subst c24
           rw [if_pos rfl] at H
           by_cases c25 : a0_2 ≥ 0
           ·rw [if_pos c25] at H
            have c25b0 : decide (0 ≤ a0_2) = true := decide_eq_true c25
            clear c25
            exact dd8
           ·rw [if_neg c25] at H
            have c25b0 : decide (0 ≤ a0_2) = false := decide_eq_false c25
            clear c25
            exact dd8
          ·replace c24 := Bool.eq_false_iff.mpr c24
           subst c24
           rw [if_neg nf] at H
           by_cases c28 : a0_2 ≥ 0
           ·rw [if_pos c28] at H
            have c28b0 : decide (0 ≤ a0_2) = true := decide_eq_true c28
            clear c28
            exact dd8
           ·rw [if_neg c28] at H
            have c28b0 : decide (0 ≤ a0_2) = false := decide_eq_false c28
            clear c28
            exact dd8
         ·rw [if_neg c23] at H
          obtain ⟨c23b0, c23b1⟩ := ne2 c23
          exact dd8
        ·rw [if_neg c22] at H
         obtain ⟨c22b0, c22b1⟩ := ne2 c22
         exact dd8
       ·rw [if_neg c21] at H
        obtain ⟨c21b0, c21b1⟩ := ne2 c21
        by_cases c33 : x5_2 = true
        ·subst c33
         rw [if_pos rfl] at H
         by_cases c34 : a0_2 ≥ 0
         ·rw [if_pos c34] at H
          have c34b0 : decide (0 ≤ a0_2) = true := decide_eq_true c34
          clear c34
          exact dd8
         ·rw [if_neg c34] at H
          have c34b0 : decide (0 ≤ a0_2) = false := decide_eq_false c34
          clear c34
          exact dd8
        ·replace c33 := Bool.eq_false_iff.mpr c33
         subst c33
         rw [if_neg nf] at H
         by_cases c37 : a0_3 = 0
         ·rw [if_pos c37] at H
          obtain ⟨c37b0, c37b1⟩ := eq2 c37
          clear c37
          by_cases c38 : a0_2 ≥ 0
          ·rw [if_pos c38] at H
           have c38b0 : decide (0 ≤ a0_2) = true := decide_eq_true c38
           clear c38
           exact dd8
          ·rw [if_neg c38] at H
           have c38b0 : decide (0 ≤ a0_2) = false := decide_eq_false c38
           clear c38
           exact dd8
         ·rw [if_neg c37] at H
          obtain ⟨c37b0, c37b1⟩ := ne2 c37
          exact dd8
      ·rw [if_neg c20] at H
       obtain ⟨c20b0, c20b1⟩ := ne2 c20
       by_cases c42 : a0_1 = 1
       ·rw [if_pos c42] at H
        obtain ⟨c42b0, c42b1⟩ := eq2 c42
        clear c42
        by_cases c43 : a0_0 = 0
        ·rw [if_pos c43] at H
         obtain ⟨c43b0, c43b1⟩ := eq2 c43
         clear c43
         by_cases c44 : a0_3 = 0
         ·rw [if_pos c44] at H
          obtain ⟨c44b0, c44b1⟩ := eq2 c44
          clear c44
          by_cases c45 : x5_2 = true
          ·subst c45
           rw [if_pos rfl] at H
           by_cases c46 : a0_2 ≥ 0
           ·rw [if_pos c46] at H
            have c46b0 : decide (0 ≤ a0_2) = true := decide_eq_true c46
            clear c46
            exact dd8
           ·rw [if_neg c46] at H
            have c46b0 : decide (0 ≤ a0_2) = false := decide_eq_false c46
            clear c46
            exact dd8
          ·replace c45 := Bool.eq_false_iff.mpr c45
           subst c45
           rw [if_neg nf] at H
           by_cases c49 : a0_2 ≥ 0
           ·rw [if_pos c49] at H
            have c49b0 : decide (0 ≤ a0_2) = true := decide_eq_true c49
            clear c49
            exact dd8
           ·rw [if_neg c49] at H
            have c49b0 : decide (0 ≤ a0_2) = false := decide_eq_false c49
            clear c49
            exact dd8
         ·rw [if_neg c44] at H
          obtain ⟨c44b0, c44b1⟩ := ne2 c44
          exact dd8
        ·rw [if_neg c43] at H
         obtain ⟨c43b0, c43b1⟩ := ne2 c43
         exact dd8
       ·rw [if_neg c42] at H
        obtain ⟨c42b0, c42b1⟩ := ne2 c42
        exact dd8
end
section
attribute [local go_sem] max2_int min2_int max_two min_two max_three min_three max_four min_four
mutual
def larchref16_Check.l0 : Nat → List (S69) → List Int → Int → Option (Int)
 | 0, _, _, _ => none
 | k + 1, x0, x3, x4 => if x4 < (x0.length : Int) then (if 0 ≤ x4 then ((larchref16_node.f k ((rd_T69 x0 x4).f0) ((rd_T69 x0 x4).f1) ((rd_T69 x0 x4).f2) ((rd_T69 x0 x4).f3) ((rd_T69 x0 x4).f4) ((rd_T69 x0 x4).f5) (x0.length : Int)).bind fun t382 => (if t382 = true then (if ((rd_T69 x0 x4).f4) = (-1) then (larchref16_Check.l0 k x0 x3 (wrap64 (x4 + 1))) else (if 0 ≤ ((rd_T69 x0 x4).f4) then (if ((rd_T69 x0 x4).f4) < (x3.length : Int) then ((some (x3.set (((rd_T69 x0 x4).f4) : Int).toNat (wrap64 ((rd x3 ((rd_T69 x0 x4).f4)) + 1)) : List Int)).bind fun y386 => (if 0 ≤ ((rd_T69 x0 x4).f5) then (if ((rd_T69 x0 x4).f5) < (x3.length : Int) then (larchref16_Check.l0 k x0 (y386.set (((rd_T69 x0 x4).f5) : Int).toNat (wrap64 ((rd y386 ((rd_T69 x0 x4).f5)) + 1))) (wrap64 (x4 + 1))) else (none)) else (none))) else (none)) else (none))) else (some 3))) else (none)) else (larchref16_Check.l1 k x0 x3 1)
def larchref16_Check.l1 : Nat → List (S69) → List Int → Int → Option (Int)
 | 0, _, _, _ => none
 | k + 1, x0, x3, x5 => if x5 < (x0.length : Int) then (if 0 ≤ x5 then (if x5 < (x3.length : Int) then (if (rd x3 x5) = 1 then (larchref16_Check.l1 k x0 x3 (wrap64 (x5 + 1))) else (some 3)) else (none)) else (none)) else (larchref16_Check.l2 k x0 0 (([0] : List Int)))
def larchref16_Check.l2 : Nat → List (S69) → Int → List Int → Option (Int)
 | 0, _, _, _ => none
 | k + 1, x0, x6, x7 => if (x7.length : Int) > 0 then (if 0 ≤ (wrap64 ((x7.length : Int) - 1)) then (if (wrap64 ((x7.length : Int) - 1)) < (x7.length : Int) then (if 0 ≤ (rd x7 (wrap64 ((x7.length : Int) - 1))) then (if (rd x7 (wrap64 ((x7.length : Int) - 1))) < (x0.length : Int) then (if (wrap64 ((x7.length : Int) - 1)) ≤ (x7.length : Int) then ((some (x7.take ((wrap64 ((x7.length : Int) - 1)) : Int).toNat : List Int)).bind fun y397 => (if ((rd_T69 x0 (rd x7 (wrap64 ((x7.length : Int) - 1)))).f4) = (-1) then (larchref16_Check.l2 k x0 (wrap64 (x6 + 1)) y397) else ((some (([(rd_T69 x0 (rd x7 (wrap64 ((x7.length : Int) - 1)))).f4, (rd_T69 x0 (rd x7 (wrap64 ((x7.length : Int) - 1)))).f5] : List Int) : List Int)).bind fun y400 => (if y397.length + y400.length < 17592186044416 then (larchref16_Check.l2 k x0 (wrap64 (x6 + 1)) (y397 ++ y400)) else (none))))) else (none)) else (none)) else (none)) else (none)) else (none)) else (if x6 = (x0.length : Int) then (some 0) else (some 3))
end
def larchref16_Check.f (k : Nat) (l0 : List (S69)) : Option (Int) := if (l0.length : Int) > 100000 then (some 2) else (if (l0.length : Int) = 0 then (some 3) else (if 0 ≤ (l0.length : Int) then (if ((l0.length : Int) : Int).toNat ≤ 35184372088832 then (larchref16_Check.l0 k l0 (List.replicate ((l0.length : Int) : Int).toNat 0) 0) else (none)) else (none)))
theorem larchref16_Check.mono_l : ∀ k, (∀ y0 y1 y2, LeO (larchref16_Check.l0 k y0 y1 y2) (larchref16_Check.l0 (k + 1) y0 y1 y2)) ∧ (∀ y0 y1 y2, LeO (larchref16_Check.l1 k y0 y1 y2) (larchref16_Check.l1 (k + 1) y0 y1 y2)) ∧ (∀ y0 y1 y2, LeO (larchref16_Check.l2 k y0 y1 y2) (larchref16_Check.l2 (k + 1) y0 y1 y2))
 | 0 => ⟨fun _ _ _ r h => by simp [larchref16_Check.l0] at h, fun _ _ _ r h => by simp [larchref16_Check.l1] at h, fun _ _ _ r h => by simp [larchref16_Check.l2] at h⟩
 | k + 1 => by
  obtain ⟨ih0, ih1, ih2⟩ := larchref16_Check.mono_l k
  refine ⟨?_, ?_, ?_⟩
  ·intro y0 y1 y2
   unfold larchref16_Check.l0
   repeat' with_reducible first | exact ih0 _ _ _ | exact ih1 _ _ _ | exact ih2 _ _ _ | exact larchref16_node.mono _ _ _ _ _ _ _ _ | exact LeO.refl _ | exact LeO.none _ | refine LeO.ite ?_ ?_ | refine LeO.bind ?_ (fun _ => ?_)
  ·intro y0 y1 y2
   unfold larchref16_Check.l1
   repeat' with_reducible first | exact ih0 _ _ _ | exact ih1 _ _ _ | exact ih2 _ _ _ | exact larchref16_node.mono _ _ _ _ _ _ _ _ | exact LeO.refl _ | exact LeO.none _ | refine LeO.ite ?_ ?_ | refine LeO.bind ?_ (fun _ => ?_)
  ·intro y0 y1 y2
   unfold larchref16_Check.l2
   repeat' with_reducible first | exact ih0 _ _ _ | exact ih1 _ _ _ | exact ih2 _ _ _ | exact larchref16_node.mono _ _ _ _ _ _ _ _ | exact LeO.refl _ | exact LeO.none _ | refine LeO.ite ?_ ?_ | refine LeO.bind ?_ (fun _ => ?_)
theorem larchref16_Check.mono : ∀ a0 k, LeO (larchref16_Check.f k a0) (larchref16_Check.f (k + 1) a0) := by
 intro a0 k
 obtain ⟨ih0, ih1, ih2⟩ := larchref16_Check.mono_l k
 unfold larchref16_Check.f
 repeat' with_reducible first | exact ih0 _ _ _ | exact ih1 _ _ _ | exact ih2 _ _ _ | exact larchref16_node.mono _ _ _ _ _ _ _ _ | exact LeO.refl _ | exact LeO.none _ | refine LeO.ite ?_ ?_ | refine LeO.bind ?_ (fun _ => ?_)
theorem larchref16_Check.calls (k : Nat) (A0 : Option Addr) (c0 : Nat) (l0 : List (S69)) (r : Int) (w : World) (hr0 : Kd.C k69 w A0 l0.length l0) (hc0 : l0.length ≤ c0) (h : larchref16_Check.f k l0 = some r) :
  Calls Tryz.prog 56 #[.slice A0 l0.length c0] w (RB w (.int .i64 r)) := by
 have HR0 := Am hr0
 have HC0 := Am hc0
 clear hr0 hc0
 have HB := Br w
 have H := h
 unfold larchref16_Check.f at H
 clear h
 by_cases c2 : (l0.length : Int) > 100000
 ·rw [if_pos c2] at H
  have c2b0 : decide (100000 < (l0.length : Int)) = true := decide_eq_true c2
  have c2b1 : decide (100000 < l0.length) = true := decide_eq_true (by omega)
  clear c2
  exact dd79
 ·rw [if_neg c2] at H
  have c2b0 : decide (100000 < (l0.length : Int)) = false := decide_eq_false c2
  have c2b1 : decide (100000 < l0.length) = false := decide_eq_false (by omega)
  clear c2
  by_cases c3 : (l0.length : Int) = 0
  ·rw [if_pos c3] at H
   obtain ⟨c3b0, c3b1⟩ := eq2 c3
   clear c3
   exact dd79
  ·rw [if_neg c3] at H
   obtain ⟨c3b0, c3b1⟩ := ne2 c3
   have c3b2 : ¬ (l0 = []) := fun h_ => c3 (by rw [h_]; rfl)
   obtain ⟨c4, H⟩ := gd H
   have c4b0 := eq_true c4
   have c4b1 := decide_eq_true c4
   clear c4
   obtain ⟨c5, H⟩ := gd H
   have c5b0 := eq_true c5
   have c5b1 := decide_eq_true c5
   clear c5
   obtain ⟨y378, hy378⟩ : ∃ y_ : List Int, y_ = (List.replicate ((l0.length : Int) : Int).toNat 0) := ⟨_, rfl⟩
   rw [← hy378] at H
   have Ny378 := Am hy378
   clear hy378
   have H' := Am H
   clear H
   go_enter Tryz.func56, Tryz.ntmps56
   go_wp2_with (first | ((with_reducible refine Gd 17 rfl ?_); refine Kd.R_make (Kd.int .i64) _ 3 rfl (N := 17) rfl 60 _ _ rfl (l0.length : Int) rfl rfl Tryz.underlying60 (.int .i64 0) 8 info3 rfl (by decide) (by omega) 0 (ok := fun _ => True) (okp := fun _ => True) rfl (fun _ hk => hk) trivial (da) (Nat.le_trans (Nat.mul_le_mul_right _ (da : (l0.length : Int).toNat ≤ 35184372088832)) (by omega)) (Below.refl _ _) (Nat.le_refl _) ?_; intro v379 w6 ho7 hb hg_ hnew_; clear hg_ hnew_; (first | rw [← Ny378.out] at ho7 | (simp only [Int.reduceToNat] at ho7; rw [← Ny378.out] at ho7)); replace HO380 := Am (Kd.R_lower ho7 (below_size bq)); replace HB := Am (below_step bq hb); clear hb ho7))
   go_loopg [4] k (fun kq v4 w' => ∃ (x3_1 : List Int) (x4_1 : Int), v4 = .int .i64 x4_1 ∧ Aside0 (larchref16_Check.l0 kq l0 x3_1 x4_1 = some r) ∧ Aside0 (kq ≤ k) ∧ Aside0 (Kd.R (Kd.int .i64) 3 w' w.heap.size (fun _ => True) v379 x3_1) ∧ Aside0 (Below w.heap.size w w'))
   case atStart => exact ⟨(y378), (0), (by first | rfl | (simp; done) | (simp [*]; done)), H', ⟨Nat.le_refl _⟩, ⟨kr HO380.out⟩, ⟨bq⟩⟩
   case round =>
    clear H'
    clear c2b0 c2b1 c3 c3b0 c3b1 c3b2 c4b0 c4b1 c5b0 c5b1
    obtain ⟨x3_1, x4_1, rfl, HA, HK1, HO_3, HB⟩ := hrel
    cases gk with
    | zero => exact absurd HA.out (by simp [larchref16_Check.l0])
    | succ k1 =>
     have H := HA.out
     clear HA
     simp only [larchref16_Check.l0] at H
     by_cases c8 : x4_1 < (l0.length : Int)
     ·rw [if_pos c8] at H
      have c8b0 := decide_eq_true c8
      clear c8
      obtain ⟨c9b0, H⟩ := ge H
      obtain ⟨t382, A10, H⟩ := bo H
      by_cases c11 : t382 = true
      ·subst c11
       rw [if_pos rfl] at H
       by_cases c12 : ((rd_T69 l0 x4_1).f4) = (-1)
       ·rw [if_pos c12] at H
        obtain ⟨c12b0, c12b1⟩ := eq2 c12
        clear c12
        have H' := Am H
        clear H
        obtain ⟨ad381, e381, hx381_0, hx381_1, hx381_2, hx381_3, hx381_4, hx381_5, p381, q381⟩ := t6d HB.out HR0.out x4_1
        cases e381
        go_wp2_with (first | ((with_reducible refine Gc 106 rfl ?_); refine gL 30 Tryz.func106 #[.agg (cN (rd_T69 l0 x4_1)), .int .i64 (l0.length : Int)] ?_; (with_reducible refine (larchref16_node.calls k1 _ _ _ _ _ _ (l0.length : Int) true _ A10.out).mono ?_); rintro e w13 ⟨rfl, hb⟩; refine ⟨_, rfl, ?_⟩; replace HO_3 := Am (Kd.R_below (kr HO_3.out) hb); replace HB := Am (below_step bq hb); (try clear hb); obtain ⟨ad383, e383, hx383_0, hx383_1, hx383_2, hx383_3, hx383_4, hx383_5, p383, q383⟩ := t6d HB.out HR0.out x4_1; obtain rfl : ad381 = ad383 := (by injection e383)))
        go_roundg k1
        case measure => have := HK1.out; omega
        case rel => exact ⟨(x3_1), (wrap64 (x4_1 + 1)), (by first | rfl | (simp; done) | (simp [*]; done)), H', ⟨by have := HK1.out; omega⟩, ⟨kr HO_3.out⟩, ⟨bq⟩⟩
       ·rw [if_neg c12] at H
        obtain ⟨c12b0, c12b1⟩ := ne2 c12
        obtain ⟨c14b0, H⟩ := ge H
        obtain ⟨c15b0, H⟩ := ge H
        obtain ⟨y386, Ny386, H⟩ := gb H
        obtain ⟨c17b0, H⟩ := ge H
        obtain ⟨c18b0, H⟩ := ge H
        obtain ⟨y389, hy389⟩ : ∃ y_ : List Int, y_ = (y386.set (((rd_T69 l0 x4_1).f5) : Int).toNat (wrap64 ((rd y386 ((rd_T69 l0 x4_1).f5)) + 1))) := ⟨_, rfl⟩
        rw [← hy389] at H
        have Ny389 := Am hy389
        clear hy389
        have H' := Am H
        clear H
        obtain ⟨ad381, e381, hx381_0, hx381_1, hx381_2, hx381_3, hx381_4, hx381_5, p381, q381⟩ := t6d HB.out HR0.out x4_1
        cases e381
        go_wp2_with (first | ((with_reducible refine Gc 106 rfl ?_); refine gL 30 Tryz.func106 #[.agg (cN (rd_T69 l0 x4_1)), .int .i64 (l0.length : Int)] ?_; (with_reducible refine (larchref16_node.calls k1 _ _ _ _ _ _ (l0.length : Int) true _ A10.out).mono ?_); rintro e w20 ⟨rfl, hb⟩; refine ⟨_, rfl, ?_⟩; replace HO_3 := Am (Kd.R_below (kr HO_3.out) hb); replace HB := Am (below_step bq hb); (try clear hb); obtain ⟨ad383, e383, hx383_0, hx383_1, hx383_2, hx383_3, hx383_4, hx383_5, p383, q383⟩ := t6d HB.out HR0.out x4_1; obtain rfl : ad381 = ad383 := (by injection e383); obtain ⟨ad384, e384, hx384_0, hx384_1, hx384_2, hx384_3, hx384_4, hx384_5, p384, q384⟩ := t6d HB.out HR0.out x4_1; obtain rfl : ad381 = ad384 := (by injection e384); obtain ⟨Ao21, co21, eo21⟩ := Kd.R_slice HO_3.out; subst eo21; have p385 : 0 ≤ (((rd_T69 l0 x4_1).f4) : Int) := da; have q385 : ((rd_T69 l0 x4_1).f4) < (x3_1.length : Int) := da; obtain ⟨ad385, e385, hx385_0⟩ := Kd.at_int (Kd.R_reads' HO_3.out).2.2 ((rd_T69 l0 x4_1).f4) p385 q385; cases e385; replace p385 := eq_true p385; replace q385 := eq_true q385; have p16 : 0 ≤ (((rd_T69 l0 x4_1).f4) : Int) := da; have q16 : (((rd_T69 l0 x4_1).f4) : Int) < ((x3_1.length : Int) : Int) := da; obtain ⟨go16, co16, eo16, gb16, gl16, cl16, HG16⟩ := Kd.R_form HO_3.out (by omega); (first | cases eo16 | (injection eo16 with ea_ en_ ec_; (first | subst ea_ | (injection ea_ with ea_; subst ea_)); subst ec_; clear en_)); have GB16 := Am gb16; have GG16 := Am HG16; clear gb16 gl16 HG16; (first | simp only [add_plain] at hx385_0 | skip); obtain ⟨hx16_0, hf16_0⟩ := Kd.R_celln 0 HO_3.out (((rd_T69 l0 x4_1).f4) : Int) p16 q16; replace p16 := eq_true p16; replace q16 := eq_true q16; obtain ⟨hy22_, hz22_⟩ := Kd.R_celln 0 HO_3.out (((rd_T69 l0 x4_1).f4) : Int) (da) (da); have HP22 := Kd.R_putg HO_3.out (((rd_T69 l0 x4_1).f4) : Int) (wrap64 ((rd x3_1 ((rd_T69 l0 x4_1).f4)) + 1))) | ((with_reducible refine gate_store (t := 3) (p := 47) rfl ?_); refine store_event (t := 3) (p := 47) (v := ?vo_w23) (w1 := (w20.setCell ⟨go16, (((rd_T69 l0 x4_1).f4) : Int).toNat, none⟩ (.int .i64 (wrap64 ((rd x3_1 ((rd_T69 l0 x4_1).f4)) + 1))))) ?hg ?ho ?hn ?hr ?_; (case ho => rfl); (case hg => rfl); (case hn => rfl); (case hr => first | (go_simp; done) | (go_simp; rfl)); intro w23 hw; have hg : w20.grownBy w23 (some go16) := (by rw [hw]; exact HP22.2); have hp_ : Kd.R (Kd.int .i64) 3 w23 w.heap.size (fun _ => True) (.slice (some ⟨go16, 0, none⟩) x3_1.length co21) y386 := (by rw [hw, Ny386.out]; exact HP22.1); clear HP22; replace HO_3 := Am (hp_); replace HB := Am ((by rw [hw]; exact below_set (HB.out) GB16.out : Below w.heap.size w w23)); clear hg hw hp_; obtain ⟨ad387, e387, hx387_0, hx387_1, hx387_2, hx387_3, hx387_4, hx387_5, p387, q387⟩ := t6d HB.out HR0.out x4_1; obtain rfl : ad381 = ad387 := (by injection e387); have p388 : 0 ≤ (((rd_T69 l0 x4_1).f5) : Int) := da; have q388 : ((rd_T69 l0 x4_1).f5) < (y386.length : Int) := (by have h_ : (((rd_T69 l0 x4_1).f5) : Int) < ((x3_1.length : Int) : Int) := da; first | (have e_ := (Kd.R_reads' HO_3.out).1; omega) | simpa only [Ny386.out, List.length_set] using h_); have ql388 : ((((rd_T69 l0 x4_1).f5) : Int) < ((x3_1.length : Int) : Int)) = True := eq_true (da); obtain ⟨ad388, e388, hx388_0⟩ := Kd.at_int (Kd.R_reads' HO_3.out).2.2 ((rd_T69 l0 x4_1).f5) p388 q388; obtain rfl : (⟨go16, 0, none⟩ : Addr) = ad388 := (by injection e388); (first | simp only [add_plain] at hx388_0 | simp only [add_at] at hx388_0 | simp only [Addr.add, Nat.zero_add] at hx388_0 | skip); replace p388 := eq_true p388; replace q388 := eq_true q388; have p19 : 0 ≤ (((rd_T69 l0 x4_1).f5) : Int) := da; have q19 : (((rd_T69 l0 x4_1).f5) : Int) < ((x3_1.length : Int) : Int) := da; obtain ⟨hx19_0, hf19_0⟩ := Kd.R_celln 0 HO_3.out (((rd_T69 l0 x4_1).f5) : Int) p19 q19; replace p19 := eq_true p19; replace q19 := eq_true q19; obtain ⟨hy24_, hz24_⟩ := Kd.R_celln 0 HO_3.out (((rd_T69 l0 x4_1).f5) : Int) (da) (da); have HP24 := Kd.R_putg HO_3.out (((rd_T69 l0 x4_1).f5) : Int) (wrap64 ((rd y386 ((rd_T69 l0 x4_1).f5)) + 1))) | ((with_reducible refine gate_store (t := 3) (p := 57) rfl ?_); refine store_event (t := 3) (p := 57) (v := ?vo_w25) (w1 := (w23.setCell ⟨go16, (((rd_T69 l0 x4_1).f5) : Int).toNat, none⟩ (.int .i64 (wrap64 ((rd y386 ((rd_T69 l0 x4_1).f5)) + 1))))) ?hg ?ho ?hn ?hr ?_; (case ho => rfl); (case hg => rfl); (case hn => rfl); (case hr => first | (go_simp; done) | (go_simp; rfl)); intro w25 hw; have hg : w23.grownBy w25 (some go16) := (by rw [hw]; exact HP24.2); have hp_ : Kd.R (Kd.int .i64) 3 w25 w.heap.size (fun _ => True) (.slice (some ⟨go16, 0, none⟩) x3_1.length co21) y389 := (by rw [hw, Ny389.out]; exact HP24.1); clear HP24; replace HO_3 := Am (hp_); replace HB := Am ((by rw [hw]; exact below_set (HB.out) GB16.out : Below w.heap.size w w25)); clear hg hw hp_))
        go_roundg k1
        case measure => have := HK1.out; omega
        case rel => exact ⟨(y389), (wrap64 (x4_1 + 1)), (by first | rfl | (simp; done) | (simp [*]; done)), H', ⟨by have := HK1.out; omega⟩, ⟨kr HO_3.out⟩, ⟨bq⟩⟩
      ·replace c11 := Bool.eq_false_iff.mpr c11
       subst c11
       rw [if_neg nf] at H
       obtain rfl := Option.some.inj H
       obtain ⟨ad381, e381, hx381_0, hx381_1, hx381_2, hx381_3, hx381_4, hx381_5, p381, q381⟩ := t6d HB.out HR0.out x4_1
       cases e381
       go_wp2_with (first | ((with_reducible refine Gc 106 rfl ?_); refine gL 30 Tryz.func106 #[.agg (cN (rd_T69 l0 x4_1)), .int .i64 (l0.length : Int)] ?_; (with_reducible refine (larchref16_node.calls k1 _ _ _ _ _ _ (l0.length : Int) false _ A10.out).mono ?_); rintro e w26 ⟨rfl, hb⟩; refine ⟨_, rfl, ?_⟩; replace HO_3 := Am (Kd.R_below (kr HO_3.out) hb); replace HB := Am (below_step bq hb); (try clear hb)))
       go_ret
       exact ⟨er, bq⟩
     ·rw [if_neg c8] at H
      have c8b0 := decide_eq_false c8
      clear c8
      have H' := Am H
      clear H
      go_wp2
      go_loopg [5] k1 (fun kq v5 w' => ∃ (x5_2 : Int), v5 = .int .i64 x5_2 ∧ Aside0 (larchref16_Check.l1 kq l0 x3_1 x5_2 = some r) ∧ Aside0 (kq ≤ k1) ∧ Aside0 (Kd.R (Kd.int .i64) 3 w' w.heap.size (fun _ => True) v379 x3_1) ∧ Aside0 (Below w.heap.size w w'))
      case atStart => exact ⟨(1), (by first | rfl | (simp; done) | (simp [*]; done)), H', ⟨Nat.le_refl _⟩, ⟨kr HO_3.out⟩, ⟨bq⟩⟩
      case round =>
       clear H'
       clear c8b0
       obtain ⟨x5_2, rfl, HA, HK2, HO_3, HB⟩ := hrel
       cases gk with
       | zero => exact absurd HA.out (by simp [larchref16_Check.l1])
       | succ k2 =>
        have H := HA.out
        clear HA
        simp only [larchref16_Check.l1] at H
        by_cases c27 : x5_2 < (l0.length : Int)
        ·rw [if_pos c27] at H
         have c27b0 := decide_eq_true c27
         clear c27
         obtain ⟨c28b0, H⟩ := ge H
         obtain ⟨c29b0, H⟩ := ge H
         by_cases c30 : (rd x3_1 x5_2) = 1
         ·rw [if_pos c30] at H
          obtain ⟨c30b0, c30b1⟩ := eq2 c30
          clear c30
          have H' := Am H
          clear H
          obtain ⟨Ao31, co31, eo31⟩ := Kd.R_slice HO_3.out
          subst eo31
          have p390 : 0 ≤ (x5_2 : Int) := da
          have q390 : x5_2 < (x3_1.length : Int) := da
          obtain ⟨ad390, e390, hx390_0⟩ := Kd.at_int (Kd.R_reads' HO_3.out).2.2 x5_2 p390 q390
          cases e390
          replace p390 := eq_true p390
          replace q390 := eq_true q390
          go_wp2
          go_roundg k2
          case measure => have := HK1.out; have := HK2.out; omega
          case rel => exact ⟨(wrap64 (x5_2 + 1)), (by first | rfl | (simp; done) | (simp [*]; done)), H', ⟨by have := HK1.out; have := HK2.out; omega⟩, ⟨kr HO_3.out⟩, ⟨bq⟩⟩
         ·rw [if_neg c30] at H
          obtain ⟨c30b0, c30b1⟩ := ne2 c30
          obtain rfl := Option.some.inj H
          obtain ⟨Ao32, co32, eo32⟩ := Kd.R_slice HO_3.out
          subst eo32
          have p390 : 0 ≤ (x5_2 : Int) := da
          have q390 : x5_2 < (x3_1.length : Int) := da
          obtain ⟨ad390, e390, hx390_0⟩ := Kd.at_int (Kd.R_reads' HO_3.out).2.2 x5_2 p390 q390
          cases e390
          replace p390 := eq_true p390
          replace q390 := eq_true q390
          go_wp2
          go_ret
          exact ⟨er, bq⟩
        ·rw [if_neg c27] at H
         have c27b0 := decide_eq_false c27
         clear c27
         obtain ⟨y391, hy391⟩ : ∃ y_ : List Int, y_ = (([0] : List Int)) := ⟨_, rfl⟩
         rw [← hy391] at H
         have Ny391 := Am hy391
         clear hy391
         have H' := Am H
         clear H
         go_wp2_with (first | ((with_reducible refine Gd 69 rfl ?_); refine Kd.R_lit (Kd.int .i64) _ 3 ?hg (N := 69) ?hd (xs := ([0] : List Int)) (inner := [.int .i64 0]) (ok := fun _ => True) (okp := fun _ => True) ?hr ?hp (fun _ hk => hk) trivial (Below.refl _ _) (Nat.le_refl _) (by simp) ?_; (case hd => rfl); (case hg => rfl); (case hr => first | (go_simp; done) | (go_simp; rfl)); (case hp => exact (Reps.one (show Kd.M (Kd.int .i64) _ _ _ 0 [.int .i64 0] from rfl) (Reps.none _ _))); intro v392 w33 ho34 hb hg_ hnew_; clear hg_ hnew_; (first | rw [← Ny391.out] at ho34 | (simp only [Int.reduceToNat] at ho34; rw [← Ny391.out] at ho34)); have HO393 := Am (Kd.R_lower (Kd.R_new' ho34 (Kd.R_lt (kr HO_3.out))) (below_size bq)); replace HO_3 := Am (Kd.R_elder' (kr HO_3.out) (Kd.R_base ho34) hb); replace HB := Am (below_step bq hb); clear hb ho34))
         go_loopg [6, 7] k2 (fun kq v6 v7 w' => ∃ (x6_3 : Int) (x7_3 : List Int), v6 = .int .i64 x6_3 ∧ Aside0 (larchref16_Check.l2 kq l0 x6_3 x7_3 = some r) ∧ Aside0 (kq ≤ k2) ∧ Aside0 (Kd.R (Kd.int .i64) 3 w' w.heap.size (fun _ => True) v7 x7_3) ∧ Aside0 (Below w.heap.size w w'))
         case atStart => exact ⟨(0), (y391), (by first | rfl | (simp; done) | (simp [*]; done)), H', ⟨Nat.le_refl _⟩, ⟨by (with_reducible repeat (first | apply Kd.R_alloc | apply Kd.R_drewN | apply Kd.R_drew)); exact Kd.R_mono HO393.out (fun _ hk => trivial)⟩, ⟨bq⟩⟩
         case round =>
          clear H'
          clear c27b0
          obtain ⟨x6_3, x7_3, rfl, HA, HK3, HO_7, HB⟩ := hrel
          cases gk with
          | zero => exact absurd HA.out (by simp [larchref16_Check.l2])
          | succ k3 =>
           have H := HA.out
           clear HA
           simp only [larchref16_Check.l2] at H
           by_cases c35 : (x7_3.length : Int) > 0
           ·rw [if_pos c35] at H
            have c35b0 : decide (0 < (x7_3.length : Int)) = true := decide_eq_true c35
            have c35b1 : decide (0 < x7_3.length) = true := decide_eq_true (by omega)
            clear c35
            obtain ⟨ji36, hji36⟩ : ∃ j_ : Int, (wrap64 ((x7_3.length : Int) - 1)) = j_ := ⟨_, rfl⟩
            first | rw [hji36] at H | simp only [hji36] at H
            have hji36w : (IntKind.i64.wrap ((x7_3.length : Int) - 1)) = ji36 := (i64_w _).trans hji36
            obtain ⟨c37b0, H⟩ := ge H
            obtain ⟨c38b0, H⟩ := ge H
            obtain ⟨c39b0, H⟩ := ge H
            obtain ⟨c40b0, H⟩ := ge H
            obtain ⟨c41, H⟩ := gd H
            have c41b0 := eq_true c41
            have c41b1 := decide_eq_true c41
            clear c41
            obtain ⟨y397, Ny397, H⟩ := gb H
            by_cases c42 : ((rd_T69 l0 (rd x7_3 (ji36))).f4) = (-1)
            ·rw [if_pos c42] at H
             obtain ⟨c42b0, c42b1⟩ := eq2 c42
             clear c42
             have H' := Am H
             clear H
             obtain ⟨Ao43, co43, eo43⟩ := Kd.R_slice HO_7.out
             subst eo43
             have p394 : 0 ≤ ((ji36) : Int) := da
             have q394 : (ji36) < (x7_3.length : Int) := da
             obtain ⟨ad394, e394, hx394_0⟩ := Kd.at_int (Kd.R_reads' HO_7.out).2.2 (ji36) p394 q394
             cases e394
             replace p394 := eq_true p394
             replace q394 := eq_true q394
             obtain ⟨ad395, e395, hx395_0, hx395_1, hx395_2, hx395_3, hx395_4, hx395_5, p395, q395⟩ := t6d HB.out HR0.out (rd x7_3 (ji36))
             cases e395
             go_wp2_with (first | ((with_reducible refine Gd 8 rfl ?_); refine bE 8 (cs := #[.int .i64 0, .int .i64 0, .int .i64 0, .int .i64 0, .int .i64 0, .int .i64 0]) (t := 69) ?_; intro gb396 hg w44 hbox hb; replace HO_7 := Am (Kd.R_below (kr HO_7.out) hb); have BK396 := Am (hbox); have GW396 := Am ((bz hg : w.heap.size ≤ gb396)); have GE396 := Am ((bz hg : w.heap.size ≤ gb396)); replace HB := Am (below_step bq hb); clear hb hbox hg; obtain ⟨z45_0, z45_1, z45_2, z45_3, z45_4, z45_5, f45_0, f45_1, f45_2, f45_3, f45_4, f45_5⟩ := cf6 BK396.out) | ((with_reducible refine gate_store (t := 69) (p := 8) rfl ?_); refine store_event (t := 69) (p := 8) (v := ?vo_w46) (w1 := ((((((w44.setCell ⟨gb396, 0, none⟩ (.int .i64 ((rd_T69 l0 (rd x7_3 (ji36))).f0))).setCell ⟨gb396, 1, none⟩ (.int .i64 ((rd_T69 l0 (rd x7_3 (ji36))).f1))).setCell ⟨gb396, 2, none⟩ (.int .i64 ((rd_T69 l0 (rd x7_3 (ji36))).f2))).setCell ⟨gb396, 3, none⟩ (.int .i64 ((rd_T69 l0 (rd x7_3 (ji36))).f3))).setCell ⟨gb396, 4, none⟩ (.int .i64 ((rd_T69 l0 (rd x7_3 (ji36))).f4))).setCell ⟨gb396, 5, none⟩ (.int .i64 ((rd_T69 l0 (rd x7_3 (ji36))).f5)))) ?hg ?ho ?hn ?hr ?_; (case ho => rfl); (case hg => rfl); (case hn => rfl); (case hr => first | (go_simp; done) | (go_simp; rfl)); intro w46 hw; have n0_ : Aside0 (Kd.R (Kd.int .i64) 3 w46 w.heap.size (fun _ => True) (.slice (some ad394) x7_3.length co43) x7_3) := ⟨(by rw [hw]; exact (by (with_reducible repeat (first | apply Kd.R_alloc | apply Kd.R_drewN | apply Kd.R_drew)); exact Kd.R_mono (far6 (Kd.R_types HO_7.out BK396.out (by decide))) (fun _ hk => trivial)))⟩; have n1_ : Aside0 (w46.heap[gb396]? = some (.cells (cN (rd_T69 l0 (rd x7_3 (ji36)))) 69 (0, 0))) := ⟨(by rw [hw]; exact (bp6 BK396.out))⟩; have n2_ : Aside0 (Below w.heap.size w w46) := ⟨(by rw [hw]; exact bs)⟩; clear hw; clear HO_7; clear BK396; clear HB; have HO_7 := n0_; have BK396 := n1_; have HB := n2_; clear n0_ n1_ n2_; have q47 : ((ji36) : Int) ≤ ((x7_3.length : Int) : Int) := da; obtain ⟨i047, hi047, _, hsz47, _⟩ := info_parts info3; have hcut47 := cut_to (P := Tryz.prog) 60 3 .i64 Tryz.underlying60 hi047 (some ad394) x7_3.length co43 (ji36) (da) q47 (Kd.R_reads' HO_7.out).2.1; have hr47 := Kd.R_take (m := ((ji36) : Int).toNat) HO_7.out (by omega); have hy47 : y397.length = ((ji36) : Int).toNat := (by rw [Ny397.out, List.length_take]; omega); rw [← Ny397.out] at hr47; rw [← hy47] at hr47 hcut47; clear hy47 hi047 hsz47 HO_7; have HO399 := Am hr47; clear hr47; replace q47 := eq_true q47; obtain ⟨z48_0, z48_1, z48_2, z48_3, z48_4, z48_5, f48_0, f48_1, f48_2, f48_3, f48_4, f48_5⟩ := cf6 BK396.out))
             go_roundg k3
             case measure => have := HK1.out; have := HK2.out; have := HK3.out; omega
             case rel => exact ⟨(wrap64 (x6_3 + 1)), (y397), (by first | rfl | (simp; done) | (simp [*]; done)), H', ⟨by have := HK1.out; have := HK2.out; have := HK3.out; omega⟩, ⟨kr HO399.out⟩, ⟨bs⟩⟩
            ·rw [if_neg c42] at H
             obtain ⟨c42b0, c42b1⟩ := ne2 c42
             obtain ⟨y400, Ny400, H⟩ := gb H
             obtain ⟨c49, H⟩ := gd H
             have LMc49 := Am c49
             clear c49
             obtain ⟨y403, hy403⟩ : ∃ y_ : List Int, y_ = (y397 ++ y400) := ⟨_, rfl⟩
             rw [← hy403] at H
             have Ny403 := Am hy403
             clear hy403
             have H' := Am H
             clear H
             obtain ⟨Ao50, co50, eo50⟩ := Kd.R_slice HO_7.out
             subst eo50
             have p394 : 0 ≤ ((ji36) : Int) := da
             have q394 : (ji36) < (x7_3.length : Int) := da
             obtain ⟨ad394, e394, hx394_0⟩ := Kd.at_int (Kd.R_reads' HO_7.out).2.2 (ji36) p394 q394
             cases e394
             replace p394 := eq_true p394
             replace q394 := eq_true q394
             obtain ⟨ad395, e395, hx395_0, hx395_1, hx395_2, hx395_3, hx395_4, hx395_5, p395, q395⟩ := t6d HB.out HR0.out (rd x7_3 (ji36))
             cases e395
             go_wp2_with (first | ((with_reducible refine Gd 8 rfl ?_); refine bE 8 (cs := #[.int .i64 0, .int .i64 0, .int .i64 0, .int .i64 0, .int .i64 0, .int .i64 0]) (t := 69) ?_; intro gb396 hg w51 hbox hb; replace HO_7 := Am (Kd.R_below (kr HO_7.out) hb); have BK396 := Am (hbox); have GW396 := Am ((bz hg : w.heap.size ≤ gb396)); have GE396 := Am ((bz hg : w.heap.size ≤ gb396)); replace HB := Am (below_step bq hb); clear hb hbox hg; obtain ⟨z52_0, z52_1, z52_2, z52_3, z52_4, z52_5, f52_0, f52_1, f52_2, f52_3, f52_4, f52_5⟩ := cf6 BK396.out) | ((with_reducible refine gate_store (t := 69) (p := 8) rfl ?_); refine store_event (t := 69) (p := 8) (v := ?vo_w53) (w1 := ((((((w51.setCell ⟨gb396, 0, none⟩ (.int .i64 ((rd_T69 l0 (rd x7_3 (ji36))).f0))).setCell ⟨gb396, 1, none⟩ (.int .i64 ((rd_T69 l0 (rd x7_3 (ji36))).f1))).setCell ⟨gb396, 2, none⟩ (.int .i64 ((rd_T69 l0 (rd x7_3 (ji36))).f2))).setCell ⟨gb396, 3, none⟩ (.int .i64 ((rd_T69 l0 (rd x7_3 (ji36))).f3))).setCell ⟨gb396, 4, none⟩ (.int .i64 ((rd_T69 l0 (rd x7_3 (ji36))).f4))).setCell ⟨gb396, 5, none⟩ (.int .i64 ((rd_T69 l0 (rd x7_3 (ji36))).f5)))) ?hg ?ho ?hn ?hr ?_; (case ho => rfl); (case hg => rfl); (case hn => rfl); (case hr => first | (go_simp; done) | (go_simp; rfl)); intro w53 hw; have n0_ : Aside0 (Kd.R (Kd.int .i64) 3 w53 w.heap.size (fun _ => True) (.slice (some ad394) x7_3.length co50) x7_3) := ⟨(by rw [hw]; exact (by (with_reducible repeat (first | apply Kd.R_alloc | apply Kd.R_drewN | apply Kd.R_drew)); exact Kd.R_mono (far6 (Kd.R_types HO_7.out BK396.out (by decide))) (fun _ hk => trivial)))⟩; have n1_ : Aside0 (w53.heap[gb396]? = some (.cells (cN (rd_T69 l0 (rd x7_3 (ji36)))) 69 (0, 0))) := ⟨(by rw [hw]; exact (bp6 BK396.out))⟩; have n2_ : Aside0 (Below w.heap.size w w53) := ⟨(by rw [hw]; exact bs)⟩; clear hw; clear HO_7; clear BK396; clear HB; have HO_7 := n0_; have BK396 := n1_; have HB := n2_; clear n0_ n1_ n2_; have q54 : ((ji36) : Int) ≤ ((x7_3.length : Int) : Int) := da; obtain ⟨i054, hi054, _, hsz54, _⟩ := info_parts info3; have hcut54 := cut_to (P := Tryz.prog) 60 3 .i64 Tryz.underlying60 hi054 (some ad394) x7_3.length co50 (ji36) (da) q54 (Kd.R_reads' HO_7.out).2.1; have hr54 := Kd.R_take (m := ((ji36) : Int).toNat) HO_7.out (by omega); have hy54 : y397.length = ((ji36) : Int).toNat := (by rw [Ny397.out, List.length_take]; omega); rw [← Ny397.out] at hr54; rw [← hy54] at hr54 hcut54; clear hy54 hi054 hsz54 HO_7; have HO399 := Am hr54; clear hr54; replace q54 := eq_true q54; obtain ⟨z55_0, z55_1, z55_2, z55_3, z55_4, z55_5, f55_0, f55_1, f55_2, f55_3, f55_4, f55_5⟩ := cf6 BK396.out) | ((with_reducible refine Gd 97 rfl ?_); refine Kd.R_lit (Kd.int .i64) _ 3 ?hg (N := 97) ?hd (xs := ([(rd_T69 l0 (rd x7_3 (ji36))).f4, (rd_T69 l0 (rd x7_3 (ji36))).f5] : List Int)) (inner := [.int .i64 ((rd_T69 l0 (rd x7_3 (ji36))).f4), .int .i64 ((rd_T69 l0 (rd x7_3 (ji36))).f5)]) (ok := fun _ => True) (okp := fun _ => True) ?hr ?hp (fun _ hk => hk) trivial (Below.refl _ _) (Nat.le_refl _) (by simp) ?_; (case hd => rfl); (case hg => rfl); (case hr => first | (go_simp; done) | (go_simp; rfl)); (case hp => exact (Reps.one (show Kd.M (Kd.int .i64) _ _ _ ((rd_T69 l0 (rd x7_3 (ji36))).f4) [.int .i64 ((rd_T69 l0 (rd x7_3 (ji36))).f4)] from rfl) (Reps.one (show Kd.M (Kd.int .i64) _ _ _ ((rd_T69 l0 (rd x7_3 (ji36))).f5) [.int .i64 ((rd_T69 l0 (rd x7_3 (ji36))).f5)] from rfl) (Reps.none _ _)))); intro v401 w56 ho57 hb hg_ hnew_; clear hg_ hnew_; (first | rw [← Ny400.out] at ho57 | (simp only [Int.reduceToNat] at ho57; rw [← Ny400.out] at ho57)); have HO402 := Am (Kd.R_lower (Kd.R_new' ho57 (Kd.R_lt (kr HO399.out))) (below_size bs)); replace HO399 := Am (Kd.R_elder' (kr HO399.out) (Kd.R_base ho57) hb); replace BK396 := Am (blk_below (bk BK396.out) hb); replace HB := Am (below_step bs hb); clear hb ho57; obtain ⟨Ao59, co59, eo59⟩ := Kd.R_slice HO402.out; subst eo59) | ((with_reducible refine gate_builtin (b := .append) (xs := #[.tmp 92, .tmp 97]) rfl ?_); at_builtin; refine Kd.R_append_rows (Kd.int .i64) (w0 := w) w.heap.size rfl (.tmp 92) (.tmp 97) 60 3 (.int .i64 0) 8 rfl Tryz.underlying60 info3 rfl (by decide) (by omega) (.slice (some ad394) y397.length co50) y397 y400 _ _ _ (fun k_ => some k_ ≠ (.slice Ao59 y400.length co59 : Value).ownBlock) (fun _ => False) rfl rfl ?aO ?aR (fun _ _ h => h) (fun _ h => h.elim) ?aF ?aB ?aS ?aL ?_; (case aR => repeat (first | exact (Kd.R_reads' HO402.out).2.2 | (with_reducible refine Kd.C_alloc ?_ _) | (with_reducible refine Kd.C_drewN ?_ _) | (with_reducible refine Kd.C_drew ?_))); (case aB => exact bs); (case aF => exact (fun k_ hk => Kd.fresh' (Kd.R_lt (kr HO402.out)) k_ hk)); (case aO => exact (by (with_reducible repeat (first | apply Kd.R_alloc | apply Kd.R_drewN | apply Kd.R_drew)); exact Kd.R_mono HO399.out (fun _ hk => hk.2))); (case aS => exact (below_size bs)); (case aL => have := LMc49.out; omega); intro v404 w58 ho hb hg hat; rw [← Ny403.out] at ho; replace BK396 := Am (blk_grown (g := gb396) (o := .cells (cN (rd_T69 l0 (rd x7_3 (ji36)))) 69 (0, 0)) (bk BK396.out) hg (Kd.R_ne HO399.out BK396.out (by decide))); replace HO402 := Am (Kd.R_after (ok := (fun _ => True)) (kr HO402.out) hg hat); replace HB := Am (hb); have HO405 := Am (ho); clear HO399; clear ho hb hg hat))
             go_roundg k3
             case measure => have := HK1.out; have := HK2.out; have := HK3.out; omega
             case rel => exact ⟨(wrap64 (x6_3 + 1)), (y403), (by first | rfl | (simp; done) | (simp [*]; done)), H', ⟨by have := HK1.out; have := HK2.out; have := HK3.out; omega⟩, ⟨by (with_reducible repeat (first | apply Kd.R_alloc | apply Kd.R_drewN | apply Kd.R_drew)); exact Kd.R_mono HO405.out (fun _ hk => trivial)⟩, ⟨bs⟩⟩
           ·rw [if_neg c35] at H
            have c35b0 : decide (0 < (x7_3.length : Int)) = false := decide_eq_false c35
            have c35b1 : decide (0 < x7_3.length) = false := decide_eq_false (by omega)
            clear c35
            by_cases c60 : x6_3 = (l0.length : Int)
            ·rw [if_pos c60] at H
             obtain ⟨c60b0, c60b1⟩ := eq2 c60
             clear c60
             exact dd72
            ·rw [if_neg c60] at H
             obtain ⟨c60b0, c60b1⟩ := ne2 c60
             exact dd72
def larchref16_end.f (a0_0 : Int) (a0_1 : Int) (a0_2 : Int) (a0_3 : Int) (a0_4 : Int) (a0_5 : Int) : Option (Bool) := (larchref16_Leaf.f a0_0 a0_1 a0_2 a0_3 a0_4 a0_5).bind fun t407 => (if t407 = true then (if a0_1 = 1 then (some (a0_2 == 1)) else (some false)) else (some false))
theorem larchref16_end.calls (a0_0 : Int) (a0_1 : Int) (a0_2 : Int) (a0_3 : Int) (a0_4 : Int) (a0_5 : Int) (r : Bool) (w : World) (h : larchref16_end.f a0_0 a0_1 a0_2 a0_3 a0_4 a0_5 = some r) :
  Calls Tryz.prog 108 #[.agg #[.int .i64 a0_0, .int .i64 a0_1, .int .i64 a0_2, .int .i64 a0_3, .int .i64 a0_4, .int .i64 a0_5]] w (RB w (.bool r)) := by
 have HB := Br w
 have H := h
 unfold larchref16_end.f at H
 clear h
 obtain ⟨t407, A2, H⟩ := bo H
 by_cases c3 : t407 = true
 ·subst c3
  rw [if_pos rfl] at H
  by_cases c4 : a0_1 = 1
  ·rw [if_pos c4] at H
   obtain ⟨c4b0, c4b1⟩ := eq2 c4
   clear c4
   exact dd12
  ·rw [if_neg c4] at H
   obtain ⟨c4b0, c4b1⟩ := ne2 c4
   exact dd12
 ·replace c3 := Bool.eq_false_iff.mpr c3
  subst c3
  rw [if_neg nf] at H
  obtain rfl := Option.some.inj H
  go_enter Tryz.func108, Tryz.ntmps108
  go_wp2_with (first | ((with_reducible refine Gd 1 rfl ?_); refine bE 1 (cs := #[.int .i64 a0_0, .int .i64 a0_1, .int .i64 a0_2, .int .i64 a0_3, .int .i64 a0_4, .int .i64 a0_5]) (t := 69) ?_; intro gb406 hg w13 hbox hb; obtain ⟨n0_, BK406, GW406, GE406⟩ := bx hg hbox hb; clear HB; have HB := n0_; clear n0_ hb hbox hg; obtain ⟨z14_0, z14_1, z14_2, z14_3, z14_4, z14_5, f14_0, f14_1, f14_2, f14_3, f14_4, f14_5⟩ := cf6 BK406.out) | ((with_reducible refine Gc 109 rfl ?_); refine gL 4 Tryz.func109 #[.agg #[.int .i64 a0_0, .int .i64 a0_1, .int .i64 a0_2, .int .i64 a0_3, .int .i64 a0_4, .int .i64 a0_5]] ?_; (with_reducible refine (larchref16_Leaf.calls a0_0 a0_1 a0_2 a0_3 a0_4 a0_5 false _ A2.out).mono ?_); rintro e w15 ⟨rfl, hb⟩; refine ⟨_, rfl, ?_⟩; replace BK406 := Am (blk_below (bk BK406.out) hb); replace HB := Am (below_step bs hb); (try clear hb)))
  go_ret
  exact ⟨er, bs⟩
def larchref16_top.f (l0 : List (S69)) (a1 : Int) : Option (Bool) := if 0 ≤ a1 then (if a1 < (l0.length : Int) then ((larchref16_Leaf.f ((rd_T69 l0 a1).f0) ((rd_T69 l0 a1).f1) ((rd_T69 l0 a1).f2) ((rd_T69 l0 a1).f3) ((rd_T69 l0 a1).f4) ((rd_T69 l0 a1).f5)).bind fun t410 => (if t410 = true then (some false) else (if ((rd_T69 l0 a1).f1) = 1 then (if ((rd_T69 l0 a1).f2) = 1 then (if 0 ≤ ((rd_T69 l0 a1).f5) then (if ((rd_T69 l0 a1).f5) < (l0.length : Int) then ((larchref16_end.f ((rd_T69 l0 ((rd_T69 l0 a1).f5)).f0) ((rd_T69 l0 ((rd_T69 l0 a1).f5)).f1) ((rd_T69 l0 ((rd_T69 l0 a1).f5)).f2) ((rd_T69 l0 ((rd_T69 l0 a1).f5)).f3) ((rd_T69 l0 ((rd_T69 l0 a1).f5)).f4) ((rd_T69 l0 ((rd_T69 l0 a1).f5)).f5)).bind fun t412 => (some t412)) else (none)) else (none)) else (some false)) else (some false)))) else (none)) else (none)
theorem larchref16_top.calls (A0 : Option Addr) (c0 : Nat) (l0 : List (S69)) (a1 : Int) (r : Bool) (w : World) (hr0 : Kd.C k69 w A0 l0.length l0) (hc0 : l0.length ≤ c0) (h : larchref16_top.f l0 a1 = some r) :
  Calls Tryz.prog 107 #[.slice A0 l0.length c0, .int .i64 a1] w (RB w (.bool r)) := by
 have HR0 := Am hr0
 have HC0 := Am hc0
 clear hr0 hc0
 have HB := Br w
 have H := h
 unfold larchref16_top.f at H
 clear h
 obtain ⟨c3b0, H⟩ := ge H
 obtain ⟨c4b0, H⟩ := ge H
 obtain ⟨t410, A5, H⟩ := bo H
 by_cases c6 : t410 = true
 ·subst c6
  rw [if_pos rfl] at H
  obtain rfl := Option.some.inj H
  have p408 : 0 ≤ (a1 : Int) := da
  have q408 : a1 < (l0.length : Int) := da
  obtain ⟨ad408, e408, hx408_0, hx408_1, hx408_2, hx408_3, hx408_4, hx408_5⟩ := at_T69 HR0.out a1 p408 q408
  cases e408
  replace p408 := eq_true p408
  replace q408 := eq_true q408
  go_enter Tryz.func107, Tryz.ntmps107
  go_wp2_with (first | ((with_reducible refine Gd 5 rfl ?_); refine bE 5 (cs := #[.int .i64 0, .int .i64 0, .int .i64 0, .int .i64 0, .int .i64 0, .int .i64 0]) (t := 69) ?_; intro gb409 hg w7 hbox hb; obtain ⟨n0_, BK409, GW409, GE409⟩ := bx hg hbox hb; clear HB; have HB := n0_; clear n0_ hb hbox hg; obtain ⟨z8_0, z8_1, z8_2, z8_3, z8_4, z8_5, f8_0, f8_1, f8_2, f8_3, f8_4, f8_5⟩ := cf6 BK409.out) | ((with_reducible refine Gc 109 rfl ?_); refine gL 11 Tryz.func109 #[.agg (cN (rd_T69 l0 a1))] ?_; (with_reducible refine (larchref16_Leaf.calls _ _ _ _ _ _ true _ A5.out).mono ?_); rintro e w9 ⟨rfl, hb⟩; refine ⟨_, rfl, ?_⟩; replace BK409 := Am (blk_below (g := gb409) (o := .cells (cN (rd_T69 l0 a1)) 69 (0, 0)) (bp6 BK409.out) hb); replace HB := Am (below_step bs hb); (try clear hb)))
  go_ret
  exact ⟨er, bs⟩
 ·replace c6 := Bool.eq_false_iff.mpr c6
  subst c6
  rw [if_neg nf] at H
  by_cases c10 : ((rd_T69 l0 a1).f1) = 1
  ·rw [if_pos c10] at H
   obtain ⟨c10b0, c10b1⟩ := eq2 c10
   clear c10
   by_cases c11 : ((rd_T69 l0 a1).f2) = 1
   ·rw [if_pos c11] at H
    obtain ⟨c11b0, c11b1⟩ := eq2 c11
    clear c11
    obtain ⟨c12b0, H⟩ := ge H
    obtain ⟨c13b0, H⟩ := ge H
    obtain ⟨t412, A14, H⟩ := bo H
    obtain rfl := Option.some.inj H
    have p408 : 0 ≤ (a1 : Int) := da
    have q408 : a1 < (l0.length : Int) := da
    obtain ⟨ad408, e408, hx408_0, hx408_1, hx408_2, hx408_3, hx408_4, hx408_5⟩ := at_T69 HR0.out a1 p408 q408
    cases e408
    replace p408 := eq_true p408
    replace q408 := eq_true q408
    go_enter Tryz.func107, Tryz.ntmps107
    go_wp2_with (first | ((with_reducible refine Gd 5 rfl ?_); refine bE 5 (cs := #[.int .i64 0, .int .i64 0, .int .i64 0, .int .i64 0, .int .i64 0, .int .i64 0]) (t := 69) ?_; intro gb409 hg w15 hbox hb; obtain ⟨n0_, BK409, GW409, GE409⟩ := bx hg hbox hb; clear HB; have HB := n0_; clear n0_ hb hbox hg; obtain ⟨z16_0, z16_1, z16_2, z16_3, z16_4, z16_5, f16_0, f16_1, f16_2, f16_3, f16_4, f16_5⟩ := cf6 BK409.out) | ((with_reducible refine Gc 109 rfl ?_); refine gL 11 Tryz.func109 #[.agg (cN (rd_T69 l0 a1))] ?_; (with_reducible refine (larchref16_Leaf.calls _ _ _ _ _ _ false _ A5.out).mono ?_); rintro e w17 ⟨rfl, hb⟩; refine ⟨_, rfl, ?_⟩; replace BK409 := Am (blk_below (g := gb409) (o := .cells (cN (rd_T69 l0 a1)) 69 (0, 0)) (bp6 BK409.out) hb); replace HB := Am (below_step bs hb); (try clear hb); obtain ⟨z18_0, z18_1, z18_2, z18_3, z18_4, z18_5, f18_0, f18_1, f18_2, f18_3, f18_4, f18_5⟩ := cf6 BK409.out; obtain ⟨ad411, e411, hx411_0, hx411_1, hx411_2, hx411_3, hx411_4, hx411_5, p411, q411⟩ := t6d HB.out HR0.out ((rd_T69 l0 a1).f5); obtain rfl : ad408 = ad411 := (by injection e411)) | (go_at_call 108; (with_reducible refine (larchref16_end.calls _ _ _ _ _ _ t412 _ A14.out).mono ?_); rintro e w19 ⟨rfl, hb⟩; replace BK409 := Am (blk_below (bk BK409.out) hb); replace HB := Am (below_step bs hb); (try clear hb)))
    go_ret
    exact ⟨er, bs⟩
   ·rw [if_neg c11] at H
    obtain ⟨c11b0, c11b1⟩ := ne2 c11
    exact dd10
  ·rw [if_neg c10] at H
   obtain ⟨c10b0, c10b1⟩ := ne2 c10
   exact dd10
end
section
attribute [local go_sem] max2_int min2_int max_two min_two max_three min_three max_four min_four
def larchref16_Crown.l0 : Nat → List (S69) → Int → List Int → Int → Option (Int × Bool)
 | 0, _, _, _, _ => none
 | k + 1, x0, x4, x5, x6 => if x6 < (x5.length : Int) then (if 0 ≤ x6 then (if 0 ≤ (rd x5 x6) then (if (rd x5 x6) < (x0.length : Int) then (if ((rd_T69 x0 (rd x5 x6)).f1) = 0 then (larchref16_Crown.l0 k x0 x4 x5 (wrap64 (x6 + 1))) else (some (0, false))) else (none)) else (none)) else (none)) else (if 0 ≤ x4 then (if x4 < (x0.length : Int) then (some ((rd_T69 x0 x4).f4, true)) else (none)) else (none))
def larchref16_Crown.f (k : Nat) (l0 : List (S69)) : Option (Int × Bool) := (larchref16_top.f l0 0).bind fun t413 => (if t413 = true then (if 0 < (l0.length : Int) then (if 0 ≤ ((rd_T69 l0 0).f4) then (if ((rd_T69 l0 0).f4) < (l0.length : Int) then ((larchref16_end.f ((rd_T69 l0 ((rd_T69 l0 0).f4)).f0) ((rd_T69 l0 ((rd_T69 l0 0).f4)).f1) ((rd_T69 l0 ((rd_T69 l0 0).f4)).f2) ((rd_T69 l0 ((rd_T69 l0 0).f4)).f3) ((rd_T69 l0 ((rd_T69 l0 0).f4)).f4) ((rd_T69 l0 ((rd_T69 l0 0).f4)).f5)).bind fun t416 => (if t416 = true then (some ((-1), true)) else ((larchref16_top.f l0 ((rd_T69 l0 0).f4)).bind fun t417 => (if t417 = true then ((larchref16_Rows.f k l0 ((rd_T69 l0 ((rd_T69 l0 0).f4)).f4)).bind fun t419 => (larchref16_Crown.l0 k l0 ((rd_T69 l0 0).f4) t419 0)) else (some (0, false)))))) else (none)) else (none)) else (none)) else (some (0, false)))
theorem larchref16_Crown.mono_l : ∀ k, (∀ y0 y1 y2 y3, LeO (larchref16_Crown.l0 k y0 y1 y2 y3) (larchref16_Crown.l0 (k + 1) y0 y1 y2 y3))
 | 0 => fun _ _ _ _ r h => by simp [larchref16_Crown.l0] at h
 | k + 1 => by
  have ih0 := larchref16_Crown.mono_l k
  ·intro y0 y1 y2 y3
   unfold larchref16_Crown.l0
   repeat' with_reducible first | exact ih0 _ _ _ _ | exact larchref16_Rows.mono _ _ _ | exact LeO.refl _ | exact LeO.none _ | refine LeO.ite ?_ ?_ | refine LeO.bind ?_ (fun _ => ?_)
theorem larchref16_Crown.mono : ∀ a0 k, LeO (larchref16_Crown.f k a0) (larchref16_Crown.f (k + 1) a0) := by
 intro a0 k
 have ih0 := larchref16_Crown.mono_l k
 unfold larchref16_Crown.f
 repeat' with_reducible first | exact ih0 _ _ _ _ | exact larchref16_Rows.mono _ _ _ | exact LeO.refl _ | exact LeO.none _ | refine LeO.ite ?_ ?_ | refine LeO.bind ?_ (fun _ => ?_)
theorem larchref16_Crown.calls (k : Nat) (A0 : Option Addr) (c0 : Nat) (l0 : List (S69)) (r1 : Int) (r2 : Bool) (w : World) (hr0 : Kd.C k69 w A0 l0.length l0) (hc0 : l0.length ≤ c0) (h : larchref16_Crown.f k l0 = some (r1, r2)) :
  Calls Tryz.prog 57 #[.slice A0 l0.length c0] w (RB w (.tuple #[.int .i64 r1, .bool r2])) := by
 have HR0 := Am hr0
 have HC0 := Am hc0
 clear hr0 hc0
 have HB := Br w
 have H := h
 unfold larchref16_Crown.f at H
 clear h
 obtain ⟨t413, A2, H⟩ := bo H
 by_cases c3 : t413 = true
 ·subst c3
  rw [if_pos rfl] at H
  obtain ⟨c4, H⟩ := gd H
  have c4b0 := decide_eq_true c4
  have c4b1 : decide (0 < l0.length) = true := decide_eq_true (by omega)
  clear c4
  obtain ⟨c5b0, H⟩ := ge H
  obtain ⟨c6b0, H⟩ := ge H
  obtain ⟨t416, A7, H⟩ := bo H
  by_cases c8 : t416 = true
  ·subst c8
   rw [if_pos rfl] at H
   simp only [Option.some.injEq, Prod.mk.injEq] at H
   obtain ⟨rfl, rfl⟩ := H
   go_enter Tryz.func57, Tryz.ntmps57
   go_wp2_with (first | ((with_reducible refine Gc 107 rfl ?_); refine gL 8 Tryz.func107 #[.slice A0 l0.length c0, .int .i64 0] ?_; (with_reducible refine (larchref16_top.calls _ _ l0 0 true _ (kc HR0.out) HC0.out A2.out).mono ?_); rintro e w9 ⟨rfl, hb⟩; refine ⟨_, rfl, ?_⟩; replace HB := Am (below_step bq hb); (try clear hb); have p414 : 0 ≤ (0 : Int) := (by omega); have q414 : 0 < (l0.length : Int) := da; obtain ⟨ad414, e414, hx414_0, hx414_1, hx414_2, hx414_3, hx414_4, hx414_5⟩ := t6 HB.out HR0.out 0 p414 q414; cases e414; have qi414 : (0 < l0.length) = True := eq_true (by omega); (try simp only [show ((0 : Int)).toNat = 0 from rfl, show 0 * 6 = 0 from rfl, Addr.add_zero'] at hx414_0 hx414_1 hx414_2 hx414_3 hx414_4 hx414_5); replace p414 := eq_true p414; replace q414 := eq_true q414; obtain ⟨ad415, e415, hx415_0, hx415_1, hx415_2, hx415_3, hx415_4, hx415_5, p415, q415⟩ := t6d HB.out HR0.out ((rd_T69 l0 0).f4); obtain rfl : ad414 = ad415 := (by injection e415)) | ((with_reducible refine Gc 108 rfl ?_); refine gL 18 Tryz.func108 #[.agg (cN (rd_T69 l0 ((rd_T69 l0 0).f4)))] ?_; (with_reducible refine (larchref16_end.calls _ _ _ _ _ _ true _ A7.out).mono ?_); rintro e w10 ⟨rfl, hb⟩; refine ⟨_, rfl, ?_⟩; replace HB := Am (below_step bq hb); (try clear hb)))
   go_ret2
   exact ⟨er, bq⟩
  ·replace c8 := Bool.eq_false_iff.mpr c8
   subst c8
   rw [if_neg nf] at H
   obtain ⟨t417, A11, H⟩ := bo H
   by_cases c12 : t417 = true
   ·subst c12
    rw [if_pos rfl] at H
    obtain ⟨t419, A13, H⟩ := bo H
    have H' := Am H
    clear H
    go_enter Tryz.func57, Tryz.ntmps57
    go_wp2_with (first | ((with_reducible refine Gc 107 rfl ?_); refine gL 8 Tryz.func107 #[.slice A0 l0.length c0, .int .i64 0] ?_; (with_reducible refine (larchref16_top.calls _ _ l0 0 true _ (kc HR0.out) HC0.out A2.out).mono ?_); rintro e w14 ⟨rfl, hb⟩; refine ⟨_, rfl, ?_⟩; replace HB := Am (below_step bq hb); (try clear hb); have p414 : 0 ≤ (0 : Int) := (by omega); have q414 : 0 < (l0.length : Int) := da; obtain ⟨ad414, e414, hx414_0, hx414_1, hx414_2, hx414_3, hx414_4, hx414_5⟩ := t6 HB.out HR0.out 0 p414 q414; cases e414; have qi414 : (0 < l0.length) = True := eq_true (by omega); (try simp only [show ((0 : Int)).toNat = 0 from rfl, show 0 * 6 = 0 from rfl, Addr.add_zero'] at hx414_0 hx414_1 hx414_2 hx414_3 hx414_4 hx414_5); replace p414 := eq_true p414; replace q414 := eq_true q414; obtain ⟨ad415, e415, hx415_0, hx415_1, hx415_2, hx415_3, hx415_4, hx415_5, p415, q415⟩ := t6d HB.out HR0.out ((rd_T69 l0 0).f4); obtain rfl : ad414 = ad415 := (by injection e415)) | ((with_reducible refine Gc 108 rfl ?_); refine gL 18 Tryz.func108 #[.agg (cN (rd_T69 l0 ((rd_T69 l0 0).f4)))] ?_; (with_reducible refine (larchref16_end.calls _ _ _ _ _ _ false _ A7.out).mono ?_); rintro e w15 ⟨rfl, hb⟩; refine ⟨_, rfl, ?_⟩; replace HB := Am (below_step bq hb); (try clear hb)) | ((with_reducible refine Gc 107 rfl ?_); refine gL 21 Tryz.func107 #[.slice (some ad414) l0.length c0, .int .i64 ((rd_T69 l0 0).f4)] ?_; (with_reducible refine (larchref16_top.calls _ _ l0 ((rd_T69 l0 0).f4) true _ (kc (Kd.C_below HR0.out HB.out)) HC0.out A11.out).mono ?_); rintro e w16 ⟨rfl, hb⟩; refine ⟨_, rfl, ?_⟩; replace HB := Am (below_step bq hb); (try clear hb); obtain ⟨ad418, e418, hx418_0, hx418_1, hx418_2, hx418_3, hx418_4, hx418_5, p418, q418⟩ := t6d HB.out HR0.out ((rd_T69 l0 0).f4); obtain rfl : ad414 = ad418 := (by injection e418)) | ((with_reducible refine Gc 62 rfl ?_); refine gL 29 Tryz.func62 #[.slice (some ad414) l0.length c0, .int .i64 ((rd_T69 l0 ((rd_T69 l0 0).f4)).f4)] ?_; (with_reducible refine (larchref16_Rows.calls k _ _ l0 ((rd_T69 l0 ((rd_T69 l0 0).f4)).f4) t419 _ (kc (Kd.C_below HR0.out HB.out)) HC0.out A13.out).mono ?_); rintro e w17 ⟨v420, rfl, ho0, hb⟩; refine ⟨_, rfl, ?_⟩; replace HO421 := Am (Kd.R_lower ho0 (below_size bq)); replace HB := Am (below_step bq hb); (try clear hb); (try clear hb2); (try clear hk); (try clear hi); (try clear ho0)))
    go_loopg [6] k (fun kq v6 w' => ∃ (x6_1 : Int), v6 = .int .i64 x6_1 ∧ Aside0 (larchref16_Crown.l0 kq l0 ((rd_T69 l0 0).f4) t419 x6_1 = some (r1, r2)) ∧ Aside0 (kq ≤ k) ∧ Aside0 (Kd.R (Kd.int .i64) 3 w' w.heap.size (fun _ => True) v420 t419) ∧ Aside0 (Below w.heap.size w w'))
    case atStart => exact ⟨(0), (by first | rfl | (simp; done) | (simp [*]; done)), H', ⟨Nat.le_refl _⟩, ⟨kr HO421.out⟩, ⟨bq⟩⟩
    case round =>
     clear H'
     clear c4b0 c4b1 c5b0 c6b0
     obtain ⟨x6_1, rfl, HA, HK1, HO_5, HB⟩ := hrel
     cases gk with
     | zero => exact absurd HA.out (by simp [larchref16_Crown.l0])
     | succ k1 =>
      have H := HA.out
      clear HA
      simp only [larchref16_Crown.l0] at H
      by_cases c18 : x6_1 < (t419.length : Int)
      ·rw [if_pos c18] at H
       have c18b0 := decide_eq_true c18
       clear c18
       obtain ⟨c19b0, H⟩ := ge H
       obtain ⟨c20b0, H⟩ := ge H
       obtain ⟨c21b0, H⟩ := ge H
       by_cases c22 : ((rd_T69 l0 (rd t419 x6_1)).f1) = 0
       ·rw [if_pos c22] at H
        obtain ⟨c22b0, c22b1⟩ := eq2 c22
        clear c22
        have H' := Am H
        clear H
        obtain ⟨Ao23, co23, eo23⟩ := Kd.R_slice HO_5.out
        subst eo23
        have p422 : 0 ≤ (x6_1 : Int) := da
        have q422 : x6_1 < (t419.length : Int) := da
        obtain ⟨ad422, e422, hx422_0⟩ := Kd.at_int (Kd.R_reads' HO_5.out).2.2 x6_1 p422 q422
        cases e422
        replace p422 := eq_true p422
        replace q422 := eq_true q422
        obtain ⟨ad423, e423, hx423_0, hx423_1, hx423_2, hx423_3, hx423_4, hx423_5, p423, q423⟩ := t6d HB.out HR0.out (rd t419 x6_1)
        obtain rfl : ad414 = ad423 := (by injection e423)
        go_wp2
        go_roundg k1
        case measure => have := HK1.out; omega
        case rel => exact ⟨(wrap64 (x6_1 + 1)), (by first | rfl | (simp; done) | (simp [*]; done)), H', ⟨by have := HK1.out; omega⟩, ⟨kr HO_5.out⟩, ⟨bq⟩⟩
       ·rw [if_neg c22] at H
        obtain ⟨c22b0, c22b1⟩ := ne2 c22
        simp only [Option.some.injEq, Prod.mk.injEq] at H
        obtain ⟨rfl, rfl⟩ := H
        obtain ⟨Ao24, co24, eo24⟩ := Kd.R_slice HO_5.out
        subst eo24
        have p422 : 0 ≤ (x6_1 : Int) := da
        have q422 : x6_1 < (t419.length : Int) := da
        obtain ⟨ad422, e422, hx422_0⟩ := Kd.at_int (Kd.R_reads' HO_5.out).2.2 x6_1 p422 q422
        cases e422
        replace p422 := eq_true p422
        replace q422 := eq_true q422
        obtain ⟨ad423, e423, hx423_0, hx423_1, hx423_2, hx423_3, hx423_4, hx423_5, p423, q423⟩ := t6d HB.out HR0.out (rd t419 x6_1)
        obtain rfl : ad414 = ad423 := (by injection e423)
        go_wp2
        go_ret2
        exact ⟨er, bq⟩
      ·rw [if_neg c18] at H
       have c18b0 := decide_eq_false c18
       clear c18
       obtain ⟨c25b0, H⟩ := ge H
       obtain ⟨c26b0, H⟩ := ge H
       simp only [Option.some.injEq, Prod.mk.injEq] at H
       obtain ⟨rfl, rfl⟩ := H
       obtain ⟨Ao27, co27, eo27⟩ := Kd.R_slice HO_5.out
       subst eo27
       obtain ⟨ad424, e424, hx424_0, hx424_1, hx424_2, hx424_3, hx424_4, hx424_5, p424, q424⟩ := t6d HB.out HR0.out ((rd_T69 l0 0).f4)
       obtain rfl : ad414 = ad424 := (by injection e424)
       go_wp2
       go_ret2
       exact ⟨er, bq⟩
   ·replace c12 := Bool.eq_false_iff.mpr c12
    subst c12
    rw [if_neg nf] at H
    simp only [Option.some.injEq, Prod.mk.injEq] at H
    obtain ⟨rfl, rfl⟩ := H
    go_enter Tryz.func57, Tryz.ntmps57
    go_wp2_with (first | ((with_reducible refine Gc 107 rfl ?_); refine gL 8 Tryz.func107 #[.slice A0 l0.length c0, .int .i64 0] ?_; (with_reducible refine (larchref16_top.calls _ _ l0 0 true _ (kc HR0.out) HC0.out A2.out).mono ?_); rintro e w28 ⟨rfl, hb⟩; refine ⟨_, rfl, ?_⟩; replace HB := Am (below_step bq hb); (try clear hb); have p414 : 0 ≤ (0 : Int) := (by omega); have q414 : 0 < (l0.length : Int) := da; obtain ⟨ad414, e414, hx414_0, hx414_1, hx414_2, hx414_3, hx414_4, hx414_5⟩ := t6 HB.out HR0.out 0 p414 q414; cases e414; have qi414 : (0 < l0.length) = True := eq_true (by omega); (try simp only [show ((0 : Int)).toNat = 0 from rfl, show 0 * 6 = 0 from rfl, Addr.add_zero'] at hx414_0 hx414_1 hx414_2 hx414_3 hx414_4 hx414_5); replace p414 := eq_true p414; replace q414 := eq_true q414; obtain ⟨ad415, e415, hx415_0, hx415_1, hx415_2, hx415_3, hx415_4, hx415_5, p415, q415⟩ := t6d HB.out HR0.out ((rd_T69 l0 0).f4); obtain rfl : ad414 = ad415 := (by injection e415)) | ((with_reducible refine Gc 108 rfl ?_); refine gL 18 Tryz.func108 #[.agg (cN (rd_T69 l0 ((rd_T69 l0 0).f4)))] ?_; (with_reducible refine (larchref16_end.calls _ _ _ _ _ _ false _ A7.out).mono ?_); rintro e w29 ⟨rfl, hb⟩; refine ⟨_, rfl, ?_⟩; replace HB := Am (below_step bq hb); (try clear hb)) | ((with_reducible refine Gc 107 rfl ?_); refine gL 21 Tryz.func107 #[.slice (some ad414) l0.length c0, .int .i64 ((rd_T69 l0 0).f4)] ?_; (with_reducible refine (larchref16_top.calls _ _ l0 ((rd_T69 l0 0).f4) false _ (kc (Kd.C_below HR0.out HB.out)) HC0.out A11.out).mono ?_); rintro e w30 ⟨rfl, hb⟩; refine ⟨_, rfl, ?_⟩; replace HB := Am (below_step bq hb); (try clear hb)))
    go_ret2
    exact ⟨er, bq⟩
 ·replace c3 := Bool.eq_false_iff.mpr c3
  subst c3
  rw [if_neg nf] at H
  simp only [Option.some.injEq, Prod.mk.injEq] at H
  obtain ⟨rfl, rfl⟩ := H
  go_enter Tryz.func57, Tryz.ntmps57
  go_wp2_with (first | ((with_reducible refine Gc 107 rfl ?_); refine gL 8 Tryz.func107 #[.slice A0 l0.length c0, .int .i64 0] ?_; (with_reducible refine (larchref16_top.calls _ _ l0 0 false _ (kc HR0.out) HC0.out A2.out).mono ?_); rintro e w31 ⟨rfl, hb⟩; refine ⟨_, rfl, ?_⟩; replace HB := Am (below_step bq hb); (try clear hb)))
  go_ret2
  exact ⟨er, bq⟩
end
section
open Go.Proofs.YtaabbaemfnecgaaGreat.V
theorem build_calls (A0 : Option Addr) (c0 : Nat) (l0 : List (S69)) (w : World) (hr0 : Kd.C k69 w A0 l0.length l0) (hc0 : l0.length ≤ c0) (hl : 0 < l0.length ∧ l0.length ≤ 100000) (hR : ∀ i, i < l0.length → ¬ ((l0.getD i z69).f4 = -1) → ∃ a b : Nat, (l0.getD i z69).f4 = a ∧ (l0.getD i z69).f5 = b ∧ a < l0.length ∧ b < l0.length) :
  Calls Tryz.prog 47 #[.slice A0 l0.length c0] w fun e w' => ∃ g, e = .returned (.pointer (some ⟨g, 0, none⟩)) ∧ Bt w' w.heap.size g l0 ∧ Below w.heap.size w w' := by
 have HR0 := Am hr0
 have HC0 := Am hc0
 have HL := Am hl
 have HRG := Am hR
 have HB := Br w
 clear hr0 hc0 hl hR
 go_enter Tryz.func47, Tryz.ntmps47
 go_wp2_with (first | ((with_reducible refine Gd 8 rfl ?_); refine Kd.R_make k148 _ 148 rfl (N := 8) rfl 146 _ _ rfl (l0.length : Int) rfl rfl Tryz.underlying146 (.agg #[.int .i64 0, .int .i64 0, .int .i64 0, .int .i64 0, .pointer none, .pointer none]) 48 info148 rfl (by decide) (by omega) z148 (ok := fun _ => True) (okp := fun _ => True) (k148_mkM _ _ _ z148) (fun _ hk => hk) trivial (by omega) (by have := HL.out; omega) (Below.refl _ _) (Nat.le_refl _) ?_; intro v5 w2 ho hb hg_ hnew_; rw [Int.toNat_natCast, ← rowsB_0 l0 0] at ho; have HO := Am (Kd.R_lower ho HB.out.size); have HB2 := Am (bel_t HB.out hb); clear ho hb hg_ hnew_ HB; obtain ⟨g5, c5, rfl, hg5, -, -⟩ := Kd.R_form HO.out (by rw [rowsB_len _ _ _ (Nat.zero_le _)]; exact HL.out.1); rw [rowsB_len _ _ _ (Nat.zero_le _)] at HO ⊢; have HG5 := Am hg5; clear hg5))
 have HS : Aside0 (Kd.R k148 148 w2 w.heap.size (fun _ => True) (.slice (some ⟨g5, 0, none⟩) l0.length c5) (rowsB l0 g5 0)) := ⟨by have := HO.out; rw [rowsB_0] at this ⊢; exact this⟩
 clear HO
 go_loopg [4] (l0.length + 1) (fun kq v4 w' => ∃ i : Nat, v4 = .int .i64 i ∧ Aside0 (i ≤ l0.length ∧ kq + i = l0.length + 1) ∧ Aside0 (Kd.R k148 148 w' w.heap.size (fun _ => True) (.slice (some ⟨g5, 0, none⟩) l0.length c5) (rowsB l0 g5 i)) ∧ Aside0 (Below w.heap.size w w'))
 case atStart => exact ⟨0, rfl, ⟨Nat.zero_le _, rfl⟩, HS, HB2⟩
 case round =>
  clear HS HB2
  obtain ⟨i, rfl, HI, HS, HB⟩ := hrel
  obtain ⟨kq1, rfl⟩ : ∃ x, gk = x + 1 := ⟨gk - 1, by have := HI.out; omega⟩
  by_cases q1 : i < l0.length
  ·obtain ⟨ad, ead, hz⟩ := rd_cells HR0.out q1
   obtain ⟨z0, z1, z2, z3, z4, z5⟩ := hz _ HB.out
   cases ead
   have p5 : (0 ≤ (i : Int)) = True := eq_true (by omega)
   have p6 : ((i : Int) < (l0.length : Int)) = True := eq_true (by omega)
   have p7 : decide ((i : Int) < (l0.length : Int)) = true := decide_eq_true (by omega)
   have p8 : decide (i < l0.length) = true := decide_eq_true q1
   have HQ := Am q1
   obtain ⟨n, hn⟩ : ∃ n, l0.getD i z69 = n := ⟨_, rfl⟩
   have HN := Am hn
   rw [hn] at z0 z1 z2 z3 z4 z5
   clear hz q1 hn
   by_cases hlf : n.f4 = -1
   ·have pl : (n.f4 != -1) = false := by simpa using hlf
    have pl2 : (n.f4 == -1) = true := by simpa using hlf
    have HLF := Am hlf
    clear hlf
    go_wp2_with (first | ((with_reducible refine Gd 5 rfl ?_); refine bE 5 (cs := #[.int .i64 0, .int .i64 0, .int .i64 0, .int .i64 0, .int .i64 0, .int .i64 0]) (t := 69) ?_; intro gb hg_ w_gb hk_ hb_; have GE_gb := Am (show w.heap.size ≤ gb from hg_ ▸ HB.out.size); have HK_gb := Am hk_; have HB_ := Am (bel_t HB.out hb_); have BB_gb := Am hb_; clear hg_ hk_ hb_ HB; have HB := HB_; clear HB_; obtain ⟨y0, y1, y2, y3, y4, y5, f0, f1, f2, f3, f4, f5⟩ := box69 HK_gb.out; have hS2 := Kd.R_below HS.out BB_gb.out; have hne := row_ne hS2 (Nat.lt_of_le_of_lt (Nat.zero_le _) HQ.out) HK_gb.out rfl; have hne2 : ¬ (g5 = gb) := fun e => hne e.symm; obtain ⟨⟨a0, x0⟩, ⟨a1, x1⟩, ⟨a2, x2⟩, ⟨a3, x3⟩, ⟨a4, x4⟩, ⟨a5, x5⟩, k0, k1, k2, k3, k4, k5, -⟩ := put148 hS2 HQ.out z148; clear hS2))
    clear y0 y1 y2 y3 y4 y5 f0 f1 f2 f3 f4 f5 x0 x1 x2 x3 x4 x5 k0 k1 k2 k3 k4 k5 z0 z1 z2 z3 z4 z5
    obtain ⟨-, -, -, -, -, -, -, -, -, -, -, -, hR2, hG2⟩ := put148 (set69_R (Kd.R_below HS.out BB_gb.out) HK_gb.out ne148 n) HQ.out ⟨n.f0, n.f1, n.f2, n.f3, none, none⟩
    have hnod : (rowsB l0 g5 i).set i ⟨n.f0, n.f1, n.f2, n.f3, none, none⟩ = rowsB l0 g5 (i + 1) := by rw [← rowsB_succ _ _ _ HQ.out, HN.out, nodB, if_pos HLF.out, if_pos HLF.out]
    rw [hnod] at hR2
    have HR2 := Am hR2
    have HB2 := Am (grown_below hG2 (set69_bel HB.out GE_gb.out n) HG5.out)
    clear hR2 hG2 hnod
    go_roundg kq1
    case measure => omega
    case rel => exact ⟨i + 1, by have := HQ.out; have := HL.out; first | rfl | (rw [Go.IntWalk.wrap64_in _ (by omega)]; rfl), ⟨by have := HQ.out; omega, by have := HI.out.2; omega⟩, HR2, HB2⟩
   ·have pl : (n.f4 != -1) = true := by simpa using hlf
    have pl2 : (n.f4 == -1) = false := by simpa using hlf
    obtain ⟨ka, kb, e4, e5, la, lb⟩ := HRG.out i HQ.out (by rw [HN.out]; exact hlf)
    rw [HN.out] at e4 e5
    have HLF := Am hlf
    have LA := Am la
    have LB := Am lb
    have E4 := Am e4
    have E5 := Am e5
    clear la lb hlf e4 e5
    go_wp2_with (first | ((with_reducible refine Gd 5 rfl ?_); refine bE 5 (cs := #[.int .i64 0, .int .i64 0, .int .i64 0, .int .i64 0, .int .i64 0, .int .i64 0]) (t := 69) ?_; intro gb hg_ w_gb hk_ hb_; have GE_gb := Am (show w.heap.size ≤ gb from hg_ ▸ HB.out.size); have HK_gb := Am hk_; have HB_ := Am (bel_t HB.out hb_); have BB_gb := Am hb_; clear hg_ hk_ hb_ HB; have HB := HB_; clear HB_; obtain ⟨y0, y1, y2, y3, y4, y5, f0, f1, f2, f3, f4, f5⟩ := box69 HK_gb.out; have hS2 := Kd.R_below HS.out BB_gb.out; have hne := row_ne hS2 (Nat.lt_of_le_of_lt (Nat.zero_le _) HQ.out) HK_gb.out rfl; have hne2 : ¬ (g5 = gb) := fun e => hne e.symm; obtain ⟨⟨a0, x0⟩, ⟨a1, x1⟩, ⟨a2, x2⟩, ⟨a3, x3⟩, ⟨a4, x4⟩, ⟨a5, x5⟩, k0, k1, k2, k3, k4, k5, -⟩ := put148 hS2 HQ.out z148; clear hS2))
    clear y0 y1 y2 y3 y4 y5 f0 f1 f2 f3 f4 f5 x0 x1 x2 x3 x4 x5 k0 k1 k2 k3 k4 k5 z0 z1 z2 z3 z4 z5
    have hS2 := Kd.R_below HS.out BB_gb.out
    have hne := row_ne hS2 (Nat.lt_of_le_of_lt (Nat.zero_le _) HQ.out) HK_gb.out rfl
    obtain ⟨-, -, -, -, -, -, -, -, -, -, -, -, hR2, hG2⟩ := put148 (set69_R hS2 HK_gb.out ne148 n) HQ.out ⟨n.f0, n.f1, n.f2, n.f3, none, none⟩
    have hK2 := set69_blk HK_gb.out n
    rw [cs69, E4.out, E5.out] at hK2
    have hK3 := blk_grown hK2 hG2 (fun e => hne (by injection e))
    refine sT 18 [] (S := fun W' => W'.heap[gb]? = some (.cells #[.int .i64 n.f0, .int .i64 n.f1, .int .i64 n.f2, .int .i64 n.f3, .int .i64 ka, .int .i64 kb] 69 (0, 0))) (blk_below hK3 ((Below.refl _ _).drew)) fun hHeld => ?_
    refine gen_any (fun W => W.heap[gb]? = some (.cells #[.int .i64 n.f0, .int .i64 n.f1, .int .i64 n.f2, .int .i64 n.f3, .int .i64 ka, .int .i64 kb] 69 (0, 0)) ∧ Kd.R k148 148 W w.heap.size (fun _ => True) (.slice (some ⟨g5, 0, none⟩) l0.length c5) ((rowsB l0 g5 i).set i ⟨n.f0, n.f1, n.f2, n.f3, none, none⟩) ∧ Below w.heap.size w W) ⟨hHeld, Kd.R_below hR2 ((Below.refl _ _).drew), bel_t (grown_below hG2 (set69_bel HB.out GE_gb.out n) HG5.out) ((Below.refl _ _).drew)⟩ (fun w9 hh => ?_)
    clear hHeld hK2 hK3 hR2 hG2 hS2 hne2 HK_gb BB_gb HB HS
    have hHeld := hh.1
    have HS := Am hh.2.1
    have HB := Am hh.2.2
    clear hh
    have pa : (0 ≤ (ka : Int)) = True := eq_true (by omega)
    have pb : ((ka : Int) < (l0.length : Int)) = True := eq_true (by have := LA.out; omega)
    have pa' : (0 ≤ (kb : Int)) = True := eq_true (by omega)
    have pb' : ((kb : Int) < (l0.length : Int)) = True := eq_true (by have := LB.out; omega)
    have pc : (ka < l0.length) = True := eq_true LA.out
    have pc' : (kb < l0.length) = True := eq_true LB.out
    have pc2 : (i < l0.length) = True := eq_true HQ.out
    refine pu 0 34 ?_
    refine pu 1 35 ?_
    refine pu 2 36 ?_
    refine pu 3 37 ?_
    refine pu 4 38 ?_
    refine pu 5 39 ?_
    refine ta 6 40 hHeld (hy := by intro w' hs; obtain ⟨y0, y1, y2, y3, y4, y5, -⟩ := box69 hs; go_simp; with_reducible rfl) ?_
    refine pu 7 41 ?_
    refine pu 8 42 ?_
    refine pu 9 43 ?_
    refine ta 10 44 hHeld (hy := by intro w' hs; obtain ⟨y0, y1, y2, y3, y4, y5, -⟩ := box69 hs; go_simp; with_reducible rfl) ?_
    refine pu 11 45 ?_
    refine pu 12 46 ?_
    refine pu 13 47 ?_
    obtain ⟨⟨u1, hu1⟩, hf1, hR1, hG1⟩ := put148_4 HS.out HQ.out (some ⟨g5, ka * 6, none⟩)
    refine on0 14 (fun K hK => ?_)
    refine sk ?_
    refine hK.out _ _ (blk_grown hHeld hG1 (fun e => hne (by injection e))) (fun hHeld => ?_)
    clear hK K
    have HS1 := Am hR1
    have HB1 := Am (grown_below hG1 HB.out HG5.out)
    clear hR1 hG1 hu1 hf1 HS HB
    obtain ⟨⟨u2, hu2⟩, hf2, hR2, hG2⟩ := put148_5 HS1.out HQ.out (some ⟨g5, kb * 6, none⟩)
    refine gen_any (fun W => W = _) rfl (fun w10 hw10 => ?_)
    rw [← hw10] at hu2 hf2 hR2 hG2 HS1 HB1 hHeld
    clear hw10
    refine pu 15 48 ?_
    refine pu 16 49 ?_
    refine on0 17 (fun K hK => ?_)
    refine sk ?_
    refine hK.out _ _ (blk_grown hHeld hG2 (fun e => hne (by injection e))) (fun hHeld => ?_)
    clear hK K
    have hlr := rowsB_len l0 g5 i (Nat.le_of_lt HQ.out)
    have hnod : ∀ (L : List S148) (hL : L.length = l0.length) (x : S148), ((L.set i x).set i { (L.set i x).getD i z148 with f4 := some ⟨g5, ka * 6, none⟩ }).set i { ((L.set i x).set i { (L.set i x).getD i z148 with f4 := some ⟨g5, ka * 6, none⟩ }).getD i z148 with f5 := some ⟨g5, kb * 6, none⟩ } = L.set i { x with f4 := some ⟨g5, ka * 6, none⟩, f5 := some ⟨g5, kb * 6, none⟩ } := by
     intro L hL x
     have hi := HQ.out
     simp [List.getD, List.getElem?_set, hL, hi]
    rw [hnod _ hlr] at hR2
    have hnod2 : (rowsB l0 g5 i).set i ⟨n.f0, n.f1, n.f2, n.f3, some ⟨g5, ka * 6, none⟩, some ⟨g5, kb * 6, none⟩⟩ = rowsB l0 g5 (i + 1) := by
     rw [← rowsB_succ _ _ _ HQ.out, HN.out, nodB, if_neg HLF.out, if_neg HLF.out, E4.out, E5.out]
     rfl
    rw [hnod2] at hR2
    have HS2 := Am hR2
    have HB2 := Am (grown_below hG2 HB1.out HG5.out)
    clear hR2 hG2 hu2 hf2 HS1 HB1 hHeld pa pb pa' pb' pc pc' pc2 hnod hnod2 hlr
    refine done_ (by kernel_rfl) ?_
    go_wp2
    go_roundg kq1
    case measure => omega
    case rel => exact ⟨i + 1, by have := HQ.out; have := HL.out; first | rfl | (rw [Go.IntWalk.wrap64_in _ (by omega)]; rfl), ⟨by have := HQ.out; omega, by have := HI.out.2; omega⟩, HS2, HB2⟩
  ·have p7 : decide ((i : Int) < (l0.length : Int)) = false := decide_eq_false (by omega)
   have p8 : decide (i < l0.length) = false := decide_eq_false q1
   obtain rfl : i = l0.length := by have := HI.out; omega
   have p5 : (0 < l0.length) = True := eq_true HL.out.1
   have p6 : ¬ (l0 = []) := fun e => absurd HL.out.1 (by rw [e]; simp)
   go_wp2
   go_ret
   refine ⟨_, rfl, ⟨c5, ?_⟩, HB.out⟩
   have := HS.out
   rw [show rowsB l0 g5 l0.length = l0.map (nodB g5) by simp [rowsB]] at this
   exact this
end
section
open Go.Proofs.YtaabbaemfnecgaaGreat.V
theorem R_C69 {w : World} {base n : Nat} {ok : Nat → Prop} {v : Value} {xs : List S69} (h : Kd.R k69 69 w base ok v xs) : ∃ A c, v = .slice A xs.length c ∧ xs.length ≤ c ∧ Kd.C k69 w A xs.length xs := by
 obtain ⟨A, c, rfl⟩ := Kd.R_slice h
 obtain ⟨-, h2, h3⟩ := Kd.R_reads' h
 exact ⟨A, c, rfl, h2, h3⟩
theorem inR_b {t : List S69} (h : inR t = true) : ∀ i, i < t.length → ¬ ((t.getD i z69).f4 = -1) → ∃ a b : Nat, (t.getD i z69).f4 = a ∧ (t.getD i z69).f5 = b ∧ a < t.length ∧ b < t.length := fun i hi h4 => inR_at h hi (fun e => h4 e.1)
def larchref19_Check.f (k : Nat) (l0 : List S69) : Option Int := (larchref16_Check.f k l0).bind fun e => if e = 0 then ((larchref16_Crown.f k l0).bind fun c => if c.2 = true then ((inO l0 (l0.length + 1) [z165]).bind fun o => if o = true then (if c.1 = -1 then some 0 else if 0 ≤ c.1 ∧ c.1 < l0.length then
 (if (l0.getD c.1.toNat z69).f2 = 1 then ((larchref16_Part.f k l0 c.1).bind fun u => if 0 < u.length ∧ u.length ≤ 100000 ∧ inR u = true then (rsums u (u.length + 1) [(0, 0)] (-1)).bind fun b => some (if b = true then 0 else 3) else none) else some 3) else none) else some 3) else some 3) else some e
theorem larchref19_Check.mono : ∀ a0 k, LeO (larchref19_Check.f k a0) (larchref19_Check.f (k + 1) a0) := by
 intro a0 k
 unfold larchref19_Check.f
 exact LeO.bind (larchref16_Check.mono _ _) (fun _ => LeO.ite (LeO.bind (larchref16_Crown.mono _ _) (fun _ => LeO.ite (LeO.bind (LeO.refl _) (fun _ => LeO.ite (LeO.ite (LeO.refl _) (LeO.ite (LeO.ite (LeO.bind (larchref16_Part.mono _ _ _) (fun _ => LeO.refl _)) (LeO.refl _)) (LeO.refl _))) (LeO.refl _))) (LeO.refl _))) (LeO.refl _))
theorem larchref19_Check.calls (k : Nat) (A0 : Option Addr) (c0 : Nat) (l0 : List (S69)) (r : Int) (w : World) (hr0 : Kd.C k69 w A0 l0.length l0) (hc0 : l0.length ≤ c0) (h : larchref19_Check.f k l0 = some r) :
  Calls Tryz.prog 21 #[.slice A0 l0.length c0] w (RB w (.int .i64 r)) := by
 have HR0 := Am hr0
 have HC0 := Am hc0
 clear hr0 hc0
 unfold larchref19_Check.f at h
 obtain ⟨e, he, h⟩ := Option.bind_eq_some_iff.mp h
 go_enter Tryz.func21, Tryz.ntmps21
 go_wp2_with (fail)
 refine (larchref16_Check.calls k A0 c0 l0 e _ HR0.out HC0.out he).mono ?_
 rintro _ w1 ⟨rfl, hb⟩
 have HB := Am hb
 clear hb he
 by_cases q0 : e = 0
 rotate_left
 ·rw [if_neg q0] at h
  obtain rfl : e = r := by injection h
  have d1 : (e != 0) = true := by simpa using q0
  clear h q0
  go_wp2
  go_ret
  exact ⟨rfl, HB.out⟩
 subst q0
 rw [if_pos rfl] at h
 obtain ⟨⟨at_, ok⟩, hc, h⟩ := Option.bind_eq_some_iff.mp h
 dsimp only at h
 go_wp2_with (fail)
 refine (larchref16_Crown.calls k A0 c0 l0 at_ ok _ (Kd.C_below HR0.out HB.out) HC0.out hc).mono ?_
 rintro _ w2 ⟨rfl, hb⟩
 have HB2 := Am (bel_t HB.out hb)
 clear hb hc HB
 cases ok with
 | false =>
  rw [if_neg (by simp)] at h
  obtain rfl : 3 = r := by injection h
  clear h
  go_wp2
  go_ret
  exact ⟨rfl, HB2.out⟩
 | true =>
 rw [if_pos rfl] at h
 obtain ⟨o, ho, h⟩ := Option.bind_eq_some_iff.mp h
 go_wp2_with (fail)
 refine (inOrder_calls _ A0 c0 l0 o _ (Kd.C_below HR0.out HB2.out) HC0.out ho).mono ?_
 rintro _ w3 ⟨rfl, hb⟩
 have HB3 := Am (bel_t HB2.out hb)
 clear hb ho HB2
 cases o with
 | false =>
  rw [if_neg (by simp)] at h
  obtain rfl : 3 = r := by injection h
  clear h
  go_wp2
  go_ret
  exact ⟨rfl, HB3.out⟩
 | true =>
 rw [if_pos rfl] at h
 by_cases q1 : at_ = -1
 ·rw [if_pos q1] at h
  obtain rfl : 0 = r := by injection h
  subst q1
  clear h
  go_wp2
  go_ret
  exact ⟨rfl, HB3.out⟩
 rw [if_neg q1] at h
 by_cases q2 : 0 ≤ at_ ∧ at_ < l0.length
 rotate_left
 ·rw [if_neg q2] at h; cases h
 rw [if_pos q2] at h
 obtain ⟨n, rfl⟩ : ∃ n : Nat, at_ = n := ⟨at_.toNat, by omega⟩
 rw [Int.toNat_natCast] at h
 have p0 : ((n : Int) == -1) = false := by rw [beq_eq_false_iff_ne]; exact q1
 have p1 : (0 ≤ (n : Int)) = True := eq_true q2.1
 have p2 : ((n : Int) < (l0.length : Int)) = True := eq_true q2.2
 obtain ⟨ad, ead, hz⟩ := rd_cells HR0.out (show n < l0.length by omega)
 obtain ⟨z0, z1, z2, z3, z4, z5⟩ := hz _ HB3.out
 cases ead
 obtain ⟨x, hx⟩ : ∃ x, (l0.getD n z69).f2 = x := ⟨_, rfl⟩
 rw [hx] at h z2
 by_cases q3 : x = 1
 rotate_left
 ·rw [if_neg q3] at h
  obtain rfl : 3 = r := by injection h
  have d1 : (x != 1) = true := by simpa using q3
  clear h q1 q2 q3 hx hz
  go_wp2
  go_ret
  exact ⟨rfl, HB3.out⟩
 subst q3
 rw [if_pos rfl] at h
 obtain ⟨u, hu, h⟩ := Option.bind_eq_some_iff.mp h
 clear q1 q2 hx hz
 go_wp2_with (fail)
 refine (larchref16_Part.calls k (some ad) c0 l0 n u _ (Kd.C_below HR0.out HB3.out) HC0.out hu).mono ?_
 rintro _ w4 ⟨v, rfl, hR, hb⟩
 have HB4 := Am (bel_t HB3.out hb)
 clear hb hu HB3 z0 z1 z2 z3 z4 z5
 by_cases q4 : 0 < u.length ∧ u.length ≤ 100000 ∧ inR u = true
 rotate_left
 ·rw [if_neg q4] at h; cases h
 rw [if_pos q4] at h
 obtain ⟨b, hs, h⟩ := Option.bind_eq_some_iff.mp h
 obtain ⟨A1, c1, rfl, hc1, hC1⟩ := R_C69 (n := 0) hR
 go_wp2_with (fail)
 refine (build_calls A1 c1 u _ hC1 hc1 ⟨q4.1, q4.2.1⟩ (inR_b q4.2.2)).mono ?_
 rintro _ w5 ⟨g, rfl, hbt, hb⟩
 have HB5 := Am (bel_t HB4.out hb)
 clear hb HB4 hR hC1
 go_wp2_with (fail)
 refine (sums_calls _ u b g _ _ hbt hs q4.1).mono ?_
 rintro _ w6 ⟨rfl, hb⟩
 have HB6 := Am (bel_t HB5.out hb)
 clear hb HB5 hbt hs q4
 cases b with
 | true =>
  obtain rfl : 0 = r := by injection h
  clear h
  go_wp2
  go_ret
  exact ⟨rfl, HB6.out⟩
 | false =>
  obtain rfl : 3 = r := by injection h
  clear h
  go_wp2
  go_ret
  exact ⟨rfl, HB6.out⟩
end
section
open Go.Proofs.YtaabbaemfnecgaaGreat.V
theorem box45 {W : World} {g : Nat} {a b c : Value} (h : W.heap[g]? = some (.cells #[a, b, c] 45 (0, 0))) : W.cell? ⟨g, 0, none⟩ = some a ∧ W.cell? ⟨g, 1, none⟩ = some b ∧ W.cell? ⟨g, 2, none⟩ = some c ∧ W.frozen? ⟨g, 0, none⟩ = false ∧ W.frozen? ⟨g, 1, none⟩ = false ∧ W.frozen? ⟨g, 2, none⟩ = false :=
 ⟨(blk_cell h 0).trans rfl, (blk_cell h 1).trans rfl, (blk_cell h 2).trans rfl, blk_frozen h 0, blk_frozen h 1, blk_frozen h 2⟩
def RnS (w : World) (ge gd : Nat) (a b c d : Value) (B g : Nat) (t : List S69) (W : World) : Prop := Below w.heap.size w W ∧ W.heap[ge]? = some (.cells #[.int .i64 0, .int .i64 0, .bool false] 45 (0, 0)) ∧ W.heap[gd]? = some (.cells #[a, b, c, d] 107 (0, 0)) ∧ Bt W B g t
theorem RnS.bel {w : World} {ge gd : Nat} {a b c d : Value} {B g : Nat} {t : List S69} {W W' : World} (h : RnS w ge gd a b c d B g t W) (hb : Below W.heap.size W W') : RnS w ge gd a b c d B g t W' := ⟨bel_t h.1 hb, blkB hb h.2.1, blkB hb h.2.2.1, h.2.2.2.below hb⟩
def larchref19_Next.f (k : Nat) (l0 : List S69) (a1 : Int) : Option (Int × Int × Bool × Int) := (larchref19_Check.f k l0).bind fun e => if e = 0 then (if 0 < l0.length ∧ l0.length ≤ 100000 ∧ inR l0 = true then ((pathI l0 a1 l0.length 0).bind fun l => if l.length ≤ 1000000 then ((chI l0 l l.length 2).bind fun d => match d with
  | none => some (0, 0, false, 4)
  | some q => (larchref16_Rows.f k l0 0).bind fun rs => (whereI l0 q.2.1 (l0.length + 1) [0] 0).bind fun n => if 0 ≤ n ∧ n < rs.length then some (rs.getD n.toNat 0, q.2.2.1, q.2.2.2, 0) else none) else none) else none) else some (0, 0, false, e)
theorem larchref19_Next.calls (k : Nat) (A0 : Option Addr) (c0 : Nat) (l0 : List (S69)) (a1 : Int) (r1 r2 : Int) (r3 : Bool) (r4 : Int) (w : World) (hr0 : Kd.C k69 w A0 l0.length l0) (hc0 : l0.length ≤ c0) (h : larchref19_Next.f k l0 a1 = some (r1, r2, r3, r4)) :
  Calls Tryz.prog 22 #[.slice A0 l0.length c0, .int .i64 a1] w (RB w (.tuple #[.agg #[.int .i64 r1, .int .i64 r2, .bool r3], .int .i64 r4])) := by
 have HR0 := Am hr0
 have HC0 := Am hc0
 have HB := Br w
 clear hr0 hc0
 unfold larchref19_Next.f at h
 obtain ⟨e, he, h⟩ := Option.bind_eq_some_iff.mp h
 have HE := Am he
 clear he
 go_enter Tryz.func22, Tryz.ntmps22
 go_wp2_with (first | ((with_reducible refine Gd 4 rfl ?_); refine bF 4 HB.out (cs := #[.int .i64 0, .int .i64 0, .bool false]) (t := 45) ?_; clear HB; intro ge w_ge GX_ge GE_ge HK_ge HB BB_ge))
 refine (larchref19_Check.calls k A0 c0 l0 e _ (Kd.C_below HR0.out HB.out) HC0.out HE.out).mono ?_
 rintro _ w1 ⟨rfl, hb⟩
 have HK1 := Am (blkB hb HK_ge.out)
 have HB1 := Am (bel_t HB.out hb)
 clear hb HB HK_ge BB_ge HE
 by_cases q0 : e = 0
 rotate_left
 ·rw [if_neg q0] at h
  obtain ⟨rfl, rfl, rfl, rfl⟩ : (0 : Int) = r1 ∧ (0 : Int) = r2 ∧ false = r3 ∧ e = r4 := by injection h with h; injection h with h1 h; injection h with h2 h; injection h with h3 h4; exact ⟨h1, h2, h3, h4⟩
  have d1 : (e != 0) = true := by simpa using q0
  obtain ⟨x0, x1, x2, e0, e1, e2⟩ := box45 HK1.out
  clear h q0
  go_wp2
  refine bodyPost_ret (results_ct rfl _ _ ge 45 #[.int .i64 0, .int .i64 0, .bool false] (0, 0) _ rfl (bp3 HK1.out) Tryz.underlying45 rfl (by kernel_rfl)) rfl ?_
  exact dd82
 subst q0
 rw [if_pos rfl] at h
 by_cases q1 : 0 < l0.length ∧ l0.length ≤ 100000 ∧ inR l0 = true
 rotate_left
 ·rw [if_neg q1] at h; cases h
 rw [if_pos q1] at h
 obtain ⟨l, hl, h⟩ := Option.bind_eq_some_iff.mp h
 by_cases q2 : l.length ≤ 1000000
 rotate_left
 ·rw [if_neg q2] at h; cases h
 rw [if_pos q2] at h
 obtain ⟨d, hd, h⟩ := Option.bind_eq_some_iff.mp h
 have HPT := Am hl
 have HCH := Am hd
 have HLN := Am q1
 have HLL := Am q2
 clear q1 q2 hl hd
 go_wp2_with (fail)
 refine (build_calls A0 c0 l0 _ (Kd.C_below HR0.out HB1.out) HC0.out ⟨HLN.out.1, HLN.out.2.1⟩ (inR_b HLN.out.2.2)).mono ?_
 rintro _ w2 ⟨g, rfl, hbt, hb⟩
 have HK2 := Am (blkB hb HK1.out)
 have HB2 := Am (bel_t HB1.out hb)
 have HT2 := Am hbt
 clear hb HB1 HK1 hbt
 go_wp2_with (fail)
 refine (choose_calls _ _ l0 a1 l d g _ _ HT2.out HLN.out.1 HPT.out HLL.out HCH.out).mono ?_
 rintro _ w3 ⟨rfl, hb⟩
 have HK3 := Am (blkB hb HK2.out)
 have HB3 := Am (bel_t HB2.out hb)
 have HT3 := Am (HT2.out.below hb)
 clear hb HB2 HK2 HT2 HPT HCH
 cases d with
 | none =>
  obtain ⟨rfl, rfl, rfl, rfl⟩ : (0 : Int) = r1 ∧ (0 : Int) = r2 ∧ false = r3 ∧ (4 : Int) = r4 := by injection h with h; injection h with h1 h; injection h with h2 h; injection h with h3 h4; exact ⟨h1, h2, h3, h4⟩
  clear h
  simp only [todoV]
  go_wp2_with (first | ((with_reducible refine Gd 8 rfl ?_); refine bF 8 HB3.out (cs := #[.pointer none, .pointer none, .int .i64 0, .bool false]) (t := 107) ?_; clear HB3; intro gd w_gd GX_gd GE_gd HK_gd HB3 BB_gd; obtain ⟨y0, y1, y2, y3, f0, f1, f2, f3⟩ := box107 HK_gd.out; have HK4 := Am (blkB BB_gd.out HK3.out); obtain ⟨x0, x1, x2, e0, e1, e2⟩ := box45 HK4.out; have hng : ¬ (ge = gd) := blk_ne HK4.out HK_gd.out (by decide); have hng2 : ¬ (gd = ge) := fun e => hng e.symm))
  refine bodyPost_ret (results_ct rfl _ _ ge 45 #[.int .i64 0, .int .i64 0, .bool false] (0, 0) _ rfl (by apply bp3; (with_reducible repeat (first | exact HK4.out | refine blk_far ?_ hng _))) Tryz.underlying45 rfl (by kernel_rfl)) rfl ?_
  exact ⟨rfl, by with_reducible repeat (first | exact HB3.out | refine below_set ?_ GE_ge.out | refine below_set ?_ GE_gd.out)⟩
 | some q =>
  obtain ⟨u, x, kd, m⟩ := q
  dsimp only at h
  obtain ⟨rs, hrs, h⟩ := Option.bind_eq_some_iff.mp h
  obtain ⟨n, hn, h⟩ := Option.bind_eq_some_iff.mp h
  by_cases q3 : 0 ≤ n ∧ n < rs.length
  rotate_left
  ·rw [if_neg q3] at h; cases h
  rw [if_pos q3] at h
  obtain ⟨i, rfl⟩ : ∃ i : Nat, n = i := ⟨n.toNat, by omega⟩
  rw [Int.toNat_natCast] at h
  obtain ⟨h1, rfl, rfl, rfl⟩ : rs.getD i 0 = r1 ∧ kd = r2 ∧ m = r3 ∧ (0 : Int) = r4 := by injection h with h; injection h with h1 h; injection h with h2 h; injection h with h3 h4; exact ⟨h1, h2, h3, h4⟩
  have HRS := Am hrs
  have HWH := Am hn
  have HI := Am (show i < rs.length by omega)
  have HR1 := Am h1
  clear h hrs hn q3 h1
  simp only [todoV]
  go_wp2_with (first | ((with_reducible refine Gd 8 rfl ?_); refine bF 8 HB3.out (cs := #[.pointer none, .pointer none, .int .i64 0, .bool false]) (t := 107) ?_; clear HB3; intro gd w_gd GX_gd GE_gd HK_gd HB3 BB_gd; obtain ⟨y0, y1, y2, y3, f0, f1, f2, f3⟩ := box107 HK_gd.out; have HK4 := Am (blkB BB_gd.out HK3.out); obtain ⟨x0, x1, x2, e0, e1, e2⟩ := box45 HK4.out; have hng : ¬ (ge = gd) := blk_ne HK4.out HK_gd.out (by decide); have hng2 : ¬ (gd = ge) := fun e => hng e.symm))
  have HS0 : Aside0 (RnS w ge gd (.pointer (some ⟨g, u * 6, none⟩)) (.pointer (some ⟨g, x * 6, none⟩)) (.int .i64 kd) (.bool m) w1.heap.size g l0 ((((w_gd.setCell ⟨gd, 0, none⟩ (.pointer (some ⟨g, u * 6, none⟩))).setCell ⟨gd, 1, none⟩ (.pointer (some ⟨g, x * 6, none⟩))).setCell ⟨gd, 2, none⟩ (.int .i64 kd)).setCell ⟨gd, 3, none⟩ (.bool m))) := Am ⟨by with_reducible repeat (first | exact HB3.out | refine below_set ?_ GE_gd.out), by with_reducible repeat (first | exact HK4.out | refine blk_far ?_ hng _), bp4 HK_gd.out, HT3.out.below (by with_reducible repeat (first | refine below_set ?_ GX_gd.out | exact BB_gd.out))⟩
  clear y0 y1 y2 y3 f0 f1 f2 f3 x0 x1 x2 e0 e1 e2 HB3 HT3 HK3 HK4 HK_gd BB_gd
  refine sT 9 [] (S := RnS w ge gd (.pointer (some ⟨g, u * 6, none⟩)) (.pointer (some ⟨g, x * 6, none⟩)) (.int .i64 kd) (.bool m) w1.heap.size g l0) (HS0.out.bel ((Below.refl _ _).drew)) fun hHeld => ?_
  refine gen_any (RnS w ge gd (.pointer (some ⟨g, u * 6, none⟩)) (.pointer (some ⟨g, x * 6, none⟩)) (.int .i64 kd) (.bool m) w1.heap.size g l0) hHeld (fun w7 hHeld => ?_)
  rename_i hHeld0
  clear hHeld0 HS0
  refine pu 0 28 ?_
  refine pu 2 30 ?_
  refine pu 3 31 ?_
  refine ta 4 32 hHeld (hy := by intro w' hs; obtain ⟨y0, y1, y2, y3, -, -, -, -⟩ := box107 hs.2.2.1; exact gz) ?_
  refine on 1 29 fun K hK => ?_
  refine gO Tryz.func62 #[.slice A0 l0.length c0, .int .i64 0] ?_
  refine (larchref16_Rows.calls k A0 c0 l0 0 rs _ (Kd.C_below HR0.out hHeld.1) HC0.out HRS.out).mono ?_
  rintro _ w8 ⟨v8, rfl, hR8, hbn⟩
  obtain ⟨A8, c8, rfl⟩ := Kd.R_slice hR8
  obtain ⟨ap, eap, hpx⟩ := Kd.at_int (Kd.R_reads' hR8).2.2 (i : Int) (by omega) (by have := HI.out; omega)
  cases eap
  rw [show rd rs (i : Int) = r1 from HR1.out, Int.toNat_natCast] at hpx
  have HPX := Am hpx
  refine ⟨_, rfl, ?_⟩
  refine hK.out _ _ (hHeld.bel hbn) (fun hHeld => ?_)
  clear hK K hbn hR8 hpx
  refine nm 29 ?_
  refine gen_any (fun W => (RnS w ge gd (.pointer (some ⟨g, u * 6, none⟩)) (.pointer (some ⟨g, x * 6, none⟩)) (.int .i64 kd) (.bool m) w1.heap.size g l0) W ∧ W.cell? (ap.add i) = some (.int .i64 r1)) ⟨hHeld, HPX.out⟩ (fun w9 hh => ?_)
  clear hHeld HPX
  have HCE := Am hh.2
  have hHeld := hh.1
  clear hh
  refine on 5 33 fun K hK => ?_
  refine gO Tryz.func63 #[.pointer (some ⟨g, 0, none⟩), .pointer (some ⟨g, x * 6, none⟩)] ?_
  refine (where_calls _ l0 x i g _ _ hHeld.2.2.2 HWH.out).mono ?_
  rintro _ w10 ⟨rfl, hbn⟩
  have HCF := Am ((hbn.cell (blt _ _ HCE.out)).trans HCE.out)
  refine ⟨_, rfl, ?_⟩
  refine hK.out _ _ (hHeld.bel hbn) (fun hHeld => ?_)
  clear hK K hbn HCE
  refine nm 33 ?_
  have p1 : (0 ≤ (i : Int)) = True := eq_true (by omega)
  have p2 : ((i : Int) < (rs.length : Int)) = True := eq_true (by have := HI.out; omega)
  have hcf := HCF.out
  refine pu 6 34 ?_
  refine on 7 35 fun K hK => ?_
  refine value_ (v := .int .i64 r1) (w1 := w10) (by rfl) rfl (by exact gz) ?_
  refine hK.out _ _ hHeld (fun hHeld => ?_)
  clear hK K
  refine nm 35 ?_
  refine pu 8 10 ?_
  refine done_ (by kernel_rfl) ?_
  have hbw := hHeld.1
  have hke := hHeld.2.1
  obtain ⟨x0, x1, x2, e0, e1, e2⟩ := box45 hHeld.2.1
  obtain ⟨y0, y1, y2, y3, f0, f1, f2, f3⟩ := box107 hHeld.2.2.1
  have hng : ¬ (ge = gd) := blk_ne hHeld.2.1 hHeld.2.2.1 (by decide)
  have hng2 : ¬ (gd = ge) := fun e => hng e.symm
  clear hcf p1 p2
  go_wp2
  refine bodyPost_ret (results_ct rfl _ _ ge 45 #[.int .i64 r1, .int .i64 kd, .bool m] (0, 0) _ rfl (bp3 hke) Tryz.underlying45 rfl (by kernel_rfl)) rfl ?_
  exact dd35
end
section
attribute [local go_sem] max2_int min2_int max_two min_two max_three min_three max_four min_four
def seq_Next.f (k : Nat) (l0 : List (S69)) (a1 : Int) : Option (Int × Int × Bool × Int) := (seq_Check.f k l0).bind fun t426 => (if t426 = 0 then ((seq_next.f k l0 a1).bind fun bt427 => (if bt427.2.2.2 = true then (some (bt427.1, bt427.2.1, bt427.2.2.1, 0)) else (some (0, 0, false, 4)))) else (some (0, 0, false, t426)))
theorem seq_Next.calls (k : Nat) (A0 : Option Addr) (c0 : Nat) (l0 : List (S69)) (a1 : Int) (r1 : Int) (r2 : Int) (r3 : Bool) (r4 : Int) (w : World) (hr0 : Kd.C k69 w A0 l0.length l0) (hc0 : l0.length ≤ c0) (h : seq_Next.f k l0 a1 = some (r1, r2, r3, r4)) :
  Calls Tryz.prog 23 #[.slice A0 l0.length c0, .int .i64 a1] w (RB w (.tuple #[.int .i64 r1, .agg #[.int .i64 r2, .bool r3], .int .i64 r4])) := by
 have HR0 := Am hr0
 have HC0 := Am hc0
 clear hr0 hc0
 have HB := Br w
 have H := h
 unfold seq_Next.f at H
 clear h
 obtain ⟨t426, A3, H⟩ := bo H
 by_cases c4 : t426 = 0
 ·rw [if_pos c4] at H
  obtain ⟨c4b0, c4b1⟩ := eq2 c4
  clear c4
  obtain ⟨⟨t427, t428, t429, t430⟩, A5, H⟩ := bo H
  dsimp only at H
  by_cases c6 : t430 = true
  ·subst c6
   rw [if_pos rfl] at H
   simp only [Option.some.injEq, Prod.mk.injEq] at H
   obtain ⟨rfl, rfl, rfl, rfl⟩ := H
   go_enter Tryz.func23, Tryz.ntmps23
   try go_wp2_with (first | ((with_reducible refine Gd 5 rfl ?_); refine bE 5 (cs := #[.int .i64 0, .bool false]) (t := 49) ?_; intro gb425 hg w7 hbox hb; obtain ⟨n0_, BK425, GW425, GE425⟩ := bx hg hbox hb; clear HB; have HB := n0_; clear n0_ hb hbox hg) | ((with_reducible refine Gc 20 rfl ?_); refine gL 12 Tryz.func20 #[.slice A0 l0.length c0] ?_; (with_reducible refine (seq_Check.calls k _ _ l0 t426 _ (kc (Kd.C_below HR0.out HB.out)) HC0.out A3.out).mono ?_); rintro e w8 ⟨rfl, hb⟩; refine ⟨_, rfl, ?_⟩; replace BK425 := Am (blk_below (bk BK425.out) hb); replace HB := Am (below_step bs hb); (try clear hb)) | ((with_reducible refine Gc 64 rfl ?_); refine gL 20 Tryz.func64 #[.slice A0 l0.length c0, .int .i64 a1] ?_; (with_reducible refine (seq_next.calls k _ _ l0 a1 t427 t428 t429 true _ (kc (Kd.C_below HR0.out HB.out)) HC0.out A5.out).mono ?_); rintro e w9 ⟨rfl, hb⟩; refine ⟨_, rfl, ?_⟩; replace BK425 := Am (blk_below (bk BK425.out) hb); replace HB := Am (below_step bs hb); (try clear hb)) | ((with_reducible refine Gd 9 rfl ?_); refine bE 9 (cs := #[.int .i64 0, .bool false]) (t := 49) ?_; intro gb431 hg w10 hbox hb; have BK431 := Am (hbox); have GW431 := Am ((bz' hg : w.heap.size ≤ gb431)); have GE431 := Am ((bz' hg : w.heap.size ≤ gb431)); replace HB := Am (below_step bs hb); have NB425_431 := Am ((by rw [hg]; exact Nat.ne_of_lt (blk_lt (g := gb425) (o := .cells #[.int .i64 0, .bool false] 49 (0, 0)) (bk BK425.out)) : gb425 ≠ gb431)); have NB431_425 := Am ((by rw [hg]; exact Nat.ne_of_gt (blk_lt (g := gb425) (o := .cells #[.int .i64 0, .bool false] 49 (0, 0)) (bk BK425.out)) : gb431 ≠ gb425)); replace BK425 := Am (blk_below (bk BK425.out) hb); clear hb hbox hg; have hnb11 := NB431_425.out; have hnc11 := NB425_431.out; obtain ⟨z12_0, z12_1, f12_0, f12_1⟩ := cf2 BK431.out))
   have n0_ : Aside0 (((w10.setCell ⟨gb431, 0, none⟩ (.int .i64 t428)).setCell ⟨gb431, 1, none⟩ (.bool t429)).heap[gb425]? = some (.cells #[.int .i64 0, .bool false] 49 (0, 0))) := ⟨by (with_reducible repeat (first | refine blk_drewN ?_ _ | refine blk_drew ?_ | refine blk_alloc ?_ _)); refine blk_far ?_ NB425_431.out _; (with_reducible repeat (first | refine blk_drewN ?_ _ | refine blk_drew ?_ | refine blk_alloc ?_ _)); refine blk_far ?_ NB425_431.out _; (with_reducible repeat (first | refine blk_drewN ?_ _ | refine blk_drew ?_ | refine blk_alloc ?_ _)); exact BK425.out⟩
   have n1_ : Aside0 (((w10.setCell ⟨gb431, 0, none⟩ (.int .i64 t428)).setCell ⟨gb431, 1, none⟩ (.bool t429)).heap[gb431]? = some (.cells #[.int .i64 t428, .bool t429] 49 (0, 0))) := ⟨bp2 BK431.out⟩
   have n2_ : Aside0 (Below w.heap.size w ((w10.setCell ⟨gb431, 0, none⟩ (.int .i64 t428)).setCell ⟨gb431, 1, none⟩ (.bool t429))) := ⟨bs⟩
   (try clear BK425)
   (try clear BK431)
   (try clear HB)
   generalize ((w10.setCell ⟨gb431, 0, none⟩ (.int .i64 t428)).setCell ⟨gb431, 1, none⟩ (.bool t429)) = w13 at n0_ n1_ n2_ ⊢
   have BK425 := n0_
   have BK431 := n1_
   have HB := n2_
   clear n0_ n1_ n2_
   replace BK425 := Am (blk_drew BK425.out)
   replace BK431 := Am (blk_drew BK431.out)
   replace HB := Am (bd HB.out)
   refine sT 5 [] (S := fun w' => w'.cell? ⟨gb431, 0, none⟩ = some (.int .i64 t428) ∧ w'.cell? ⟨gb431, 1, none⟩ = some (.bool t429)) ⟨(blk_cell BK431.out 0).trans rfl, (blk_cell BK431.out 1).trans rfl⟩ fun hHeld => ?_
   generalize w13.drew = w14 at BK425 BK431 HB hHeld ⊢
   refine pu 0 27 ?_
   refine pu 2 4 ?_
   refine ta 1 28 hHeld ?_
   refine on0 3 (fun K hK => ?_)
   have hs15 : w14.cell? ⟨gb425, 0, none⟩ = some (.int .i64 0) := (blk_cell BK425.out 0).trans rfl
   have hfs15 := blk_frozen BK425.out 0
   have hns15_1 := NB431_425.out
   have hms15_1 := NB425_431.out
   have hs16 : w14.cell? ⟨gb425, 1, none⟩ = some (.bool false) := (blk_cell BK425.out 1).trans rfl
   have hfs16 := blk_frozen BK425.out 1
   have hns16_1 := NB431_425.out
   have hms16_1 := NB425_431.out
   refine sk ?_
   refine hK.out _ _ ⟨((cell_far (p := ⟨gb425, _, none⟩) NB431_425.out _).trans (((cell_far (p := ⟨gb425, _, none⟩) NB431_425.out _).trans (hHeld.1)))), ((cell_far (p := ⟨gb425, _, none⟩) NB431_425.out _).trans (((cell_far (p := ⟨gb425, _, none⟩) NB431_425.out _).trans (hHeld.2))))⟩ (fun hHeld => ?_)
   clear hK K
   refine pu 4 6 ?_
   refine done_ (by kernel_rfl) ?_
   try go_wp2
   refine bodyPost_ret (results_list (rs := [.tmp 4, .cell 5 49, .tmp 6]) rfl (by simp) (.tmp (.cell gb425 49 #[.int .i64 t428, .bool t429] (0, 0) _ rfl (bp2 BK425.out) Tryz.underlying49 rfl (by kernel_rfl) (.tmp .nil)))) rfl ?_
   exact ⟨er, bs⟩
  ·replace c6 := Bool.eq_false_iff.mpr c6
   subst c6
   rw [if_neg nf] at H
   simp only [Option.some.injEq, Prod.mk.injEq] at H
   obtain ⟨rfl, rfl, rfl, rfl⟩ := H
   go_enter Tryz.func23, Tryz.ntmps23
   go_wp2_with (first | ((with_reducible refine Gd 5 rfl ?_); refine bE 5 (cs := #[.int .i64 0, .bool false]) (t := 49) ?_; intro gb425 hg w17 hbox hb; obtain ⟨n0_, BK425, GW425, GE425⟩ := bx hg hbox hb; clear HB; have HB := n0_; clear n0_ hb hbox hg) | ((with_reducible refine Gc 20 rfl ?_); refine gL 12 Tryz.func20 #[.slice A0 l0.length c0] ?_; (with_reducible refine (seq_Check.calls k _ _ l0 t426 _ (kc (Kd.C_below HR0.out HB.out)) HC0.out A3.out).mono ?_); rintro e w18 ⟨rfl, hb⟩; refine ⟨_, rfl, ?_⟩; replace BK425 := Am (blk_below (bk BK425.out) hb); replace HB := Am (below_step bs hb); (try clear hb)) | ((with_reducible refine Gc 64 rfl ?_); refine gL 20 Tryz.func64 #[.slice A0 l0.length c0, .int .i64 a1] ?_; (with_reducible refine (seq_next.calls k _ _ l0 a1 t427 t428 t429 false _ (kc (Kd.C_below HR0.out HB.out)) HC0.out A5.out).mono ?_); rintro e w19 ⟨rfl, hb⟩; refine ⟨_, rfl, ?_⟩; replace BK425 := Am (blk_below (bk BK425.out) hb); replace HB := Am (below_step bs hb); (try clear hb)) | ((with_reducible refine Gd 9 rfl ?_); refine bE 9 (cs := #[.int .i64 0, .bool false]) (t := 49) ?_; intro gb431 hg w20 hbox hb; have BK431 := Am (hbox); have GW431 := Am ((bz' hg : w.heap.size ≤ gb431)); have GE431 := Am ((bz' hg : w.heap.size ≤ gb431)); replace HB := Am (below_step bs hb); have NB425_431 := Am ((by rw [hg]; exact Nat.ne_of_lt (blk_lt (g := gb425) (o := .cells #[.int .i64 0, .bool false] 49 (0, 0)) (bk BK425.out)) : gb425 ≠ gb431)); have NB431_425 := Am ((by rw [hg]; exact Nat.ne_of_gt (blk_lt (g := gb425) (o := .cells #[.int .i64 0, .bool false] 49 (0, 0)) (bk BK425.out)) : gb431 ≠ gb425)); replace BK425 := Am (blk_below (bk BK425.out) hb); clear hb hbox hg; have hnb21 := NB431_425.out; have hnc21 := NB425_431.out; obtain ⟨z22_0, z22_1, f22_0, f22_1⟩ := cf2 BK431.out; obtain ⟨z23_0, z23_1, f23_0, f23_1⟩ := cf2 BK425.out))
   refine bodyPost_ret (results_list (rs := [.tmp 4, .cell 5 49, .tmp 6]) rfl (by simp) (.tmp (.cell gb425 49 #[.int .i64 0, .bool false] (0, 0) _ rfl (by (with_reducible repeat (first | refine blk_drewN ?_ _ | refine blk_drew ?_ | refine blk_alloc ?_ _)); refine blk_put (cs := #[.int .i64 0, .bool false]) ?_ 1 _ rfl; (with_reducible repeat (first | refine blk_drewN ?_ _ | refine blk_drew ?_ | refine blk_alloc ?_ _)); refine blk_put (cs := #[.int .i64 0, .bool false]) ?_ 0 _ rfl; (with_reducible repeat (first | refine blk_drewN ?_ _ | refine blk_drew ?_ | refine blk_alloc ?_ _)); refine blk_far ?_ NB425_431.out _; (with_reducible repeat (first | refine blk_drewN ?_ _ | refine blk_drew ?_ | refine blk_alloc ?_ _)); refine blk_far ?_ NB425_431.out _; (with_reducible repeat (first | refine blk_drewN ?_ _ | refine blk_drew ?_ | refine blk_alloc ?_ _)); exact BK425.out) Tryz.underlying49 rfl (by kernel_rfl) (.tmp .nil)))) rfl ?_
   exact ⟨er, bs⟩
 ·rw [if_neg c4] at H
  obtain ⟨c4b0, c4b1⟩ := ne2 c4
  simp only [Option.some.injEq, Prod.mk.injEq] at H
  obtain ⟨rfl, rfl, rfl, rfl⟩ := H
  go_enter Tryz.func23, Tryz.ntmps23
  go_wp2_with (first | ((with_reducible refine Gd 5 rfl ?_); refine bE 5 (cs := #[.int .i64 0, .bool false]) (t := 49) ?_; intro gb425 hg w24 hbox hb; obtain ⟨n0_, BK425, GW425, GE425⟩ := bx hg hbox hb; clear HB; have HB := n0_; clear n0_ hb hbox hg) | ((with_reducible refine Gc 20 rfl ?_); refine gL 12 Tryz.func20 #[.slice A0 l0.length c0] ?_; (with_reducible refine (seq_Check.calls k _ _ l0 t426 _ (kc (Kd.C_below HR0.out HB.out)) HC0.out A3.out).mono ?_); rintro e w25 ⟨rfl, hb⟩; refine ⟨_, rfl, ?_⟩; replace BK425 := Am (blk_below (bk BK425.out) hb); replace HB := Am (below_step bs hb); (try clear hb); obtain ⟨z26_0, z26_1, f26_0, f26_1⟩ := cf2 BK425.out))
  refine bodyPost_ret (results_list (rs := [.tmp 4, .cell 5 49, .tmp 6]) rfl (by simp) (.tmp (.cell gb425 49 #[.int .i64 0, .bool false] (0, 0) _ rfl (bp2 BK425.out) Tryz.underlying49 rfl (by kernel_rfl) (.tmp .nil)))) rfl ?_
  exact ⟨er, bs⟩
def larchlaw19_SeqNexts.j0 : Nat → List (S69) → Int → Bool → Option (Bool)
 | 0, _, _, _ => none
 | k + 1, x0, x1, x18 => if x18 = true then (some false) else ((larchref19_Next.f k x0 x1).bind fun bt435 => ((seq_Next.f k x0 x1).bind fun bt440 => (if bt440.1 = bt435.1 then (if bt440.2.1 = bt435.2.1 then (if (bt440.2.2.1 == bt435.2.2.1) = true then (some (bt435.2.2.2 == bt440.2.2.2)) else (some false)) else (some false)) else (some false))))
def larchlaw19_SeqNexts.f (k : Nat) (l0 : List (S69)) (a1 : Int) : Option (Bool) := (larchlaw19_known.f k).bind fun t432 => (if t432 = true then ((seq_Check.f k l0).bind fun t433 => ((larchref19_Check.f k l0).bind fun t434 => (larchlaw19_SeqNexts.j0 k l0 a1 (t433 != t434)))) else (larchlaw19_SeqNexts.j0 k l0 a1 true))
theorem larchlaw19_SeqNexts.calls (k : Nat) (A0 : Option Addr) (c0 : Nat) (l0 : List (S69)) (a1 : Int) (r : Bool) (w : World) (hr0 : Kd.C k69 w A0 l0.length l0) (hc0 : l0.length ≤ c0) (h : larchlaw19_SeqNexts.f k l0 a1 = some r) :
  Calls Tryz.prog 4 #[.slice A0 l0.length c0, .int .i64 a1] w (RB w (.bool r)) := by
 have HR0 := Am hr0
 have HC0 := Am hc0
 clear hr0 hc0
 have HB := Br w
 have H := h
 unfold larchlaw19_SeqNexts.f at H
 clear h
 have HC3 := Am H
 clear H
 go_enter Tryz.func4, Tryz.ntmps4
 go_upto_region 1 with (fail)
 go_cut [18] (fun v18 wc => ∃ (kq : Nat) (x18_2 : Bool), v18 = .bool x18_2 ∧ Aside0 (larchlaw19_SeqNexts.j0 kq l0 a1 x18_2 = some r) ∧ Aside0 (kq ≤ k) ∧ Aside0 (Below w.heap.size w wc))
 case first =>
  have H := HC3.out
  clear HC3
  obtain ⟨t432, A4, H⟩ := bo H
  by_cases c5 : t432 = true
  ·subst c5
   rw [if_pos rfl] at H
   obtain ⟨t433, A6, H⟩ := bo H
   obtain ⟨t434, A7, H⟩ := bo H
   have H' := Am H
   clear H
   go_wp2_with (first | ((with_reducible refine Gc 11 rfl ?_); refine gL 10 Tryz.func11 #[] ?_; (with_reducible refine (larchlaw19_known.calls k  true _ A4.out).mono ?_); rintro e w8 ⟨rfl, hb⟩; refine ⟨_, rfl, ?_⟩; replace HB := Am (below_step bq hb); (try clear hb)) | (go_at_call 20; (with_reducible refine (seq_Check.calls k _ _ l0 t433 _ (kc (Kd.C_below HR0.out HB.out)) HC0.out A6.out).mono ?_); rintro e w9 ⟨rfl, hb⟩; replace HB := Am (below_step bq hb); (try clear hb)) | (go_at_call 21; (with_reducible refine (larchref19_Check.calls k _ _ l0 t434 _ (kc (Kd.C_below HR0.out HB.out)) HC0.out A7.out).mono ?_); rintro e w10 ⟨rfl, hb⟩; replace HB := Am (below_step bq hb); (try clear hb)))
   go_meet
   case rel => exact ⟨_, ((t433 != t434)), (by first | rfl | (simp; done) | (simp [*]; done)), H', ⟨by first | omega | exact Nat.le_refl _⟩, ⟨bq⟩⟩
  ·replace c5 := Bool.eq_false_iff.mpr c5
   subst c5
   rw [if_neg nf] at H
   have H' := Am H
   clear H
   go_wp2_with (first | ((with_reducible refine Gc 11 rfl ?_); refine gL 10 Tryz.func11 #[] ?_; (with_reducible refine (larchlaw19_known.calls k  false _ A4.out).mono ?_); rintro e w11 ⟨rfl, hb⟩; refine ⟨_, rfl, ?_⟩; replace HB := Am (below_step bq hb); (try clear hb)))
   exact dd68
 case rest =>
  clear HC3
  obtain ⟨kq, x18_2, rfl, HA, HJ2, HB⟩ := hcut
  cases kq with
  | zero => exact absurd HA.out (by simp [larchlaw19_SeqNexts.j0])
  | succ kj2 =>
   have H := HA.out
   clear HA
   simp only [larchlaw19_SeqNexts.j0] at H
   by_cases c12 : x18_2 = true
   ·subst c12
    exact dd87
   ·replace c12 := Bool.eq_false_iff.mpr c12
    subst c12
    rw [if_neg nf] at H
    obtain ⟨⟨t435, t436, t437, t438⟩, A13, H⟩ := bo H
    dsimp only at H
    obtain ⟨⟨t440, t441, t442, t443⟩, A14, H⟩ := bo H
    dsimp only at H
    by_cases c15 : t440 = t435
    ·rw [if_pos c15] at H
     obtain ⟨c15b0, c15b1⟩ := eq2 c15
     clear c15
     by_cases c16 : t441 = t436
     ·rw [if_pos c16] at H
      obtain ⟨c16b0, c16b1⟩ := eq2 c16
      clear c16
      by_cases c17 : (t442 == t437) = true
      ·rw [if_pos c17] at H
       have c17b0 : (t442 == t437) = true := c17
       (try (have c17b1 : decide (t442 = t437) = true := by simpa using c17))
       (try (have c17b2 : (t442 == t437) = true := by simpa using c17))
       clear c17
       exact dd3
      ·rw [if_neg c17] at H
       have c17b0 : (t442 == t437) = false := by simpa using c17
       (try (have c17b1 : decide (t442 = t437) = false := by simpa using c17))
       (try (have c17b2 : (t442 == t437) = false := by simpa using c17))
       (try (have c17b3 : ¬ (t442 = t437) := by simpa using c17))
       clear c17
       exact dd3
     ·rw [if_neg c16] at H
      obtain ⟨c16b0, c16b1⟩ := ne2 c16
      exact dd3
    ·rw [if_neg c15] at H
     obtain ⟨c15b0, c15b1⟩ := ne2 c15
     exact dd3
end
theorem up_to {α : Type} {f : Nat → Option α} (h : ∀ k, LeO (f k) (f (k + 1))) {k k' : Nat} (hk : k ≤ k') {r : α} (hr : f k = some r) : f k' = some r := by
 induction hk with
 | refl => exact hr
 | step _ ih => exact h _ _ ih
def fmN (n : S69) (len : Nat) : Bool := formedB n.f0 n.f1 n.f2 n.f3 n.f4 n.f5 len
theorem fmN_iff (n : S69) (len : Nat) : fmN n len = true ↔ (0 ≤ n.f2 ∧ n.f2 ≤ 1000000) ∧ (n.f1 = 0 ∨ (n.f1 = 1 ∧ n.f0 = 0 ∧ n.f3 = 0)) ∧ ((n.f4 = -1 ∧ n.f5 = -1) ∨ (n.f3 = 0 ∧ 1 ≤ n.f4 ∧ n.f4 < len ∧ 1 ≤ n.f5 ∧ n.f5 < len ∧ n.f4 ≠ n.f5)) := by
 unfold fmN formedB childB
 by_cases h1 : n.f2 < 0 ∨ 1000000 < n.f2 ∨ (n.f1 ≠ 0 ∧ n.f1 ≠ 1)
 ·rw [if_pos h1]; constructor
  ·intro h; exact absurd h (by simp)
  ·intro h; omega
 ·rw [if_neg h1]
  by_cases h2 : n.f1 = 1 ∧ (n.f0 ≠ 0 ∨ n.f3 ≠ 0)
  ·rw [if_pos h2]; constructor
   ·intro h; exact absurd h (by simp)
   ·intro h; omega
  ·rw [if_neg h2]
   by_cases h3 : n.f4 = -1 ∧ n.f5 = -1
   ·rw [if_pos h3]; constructor
    ·intro _; omega
    ·intro _; rfl
   ·rw [if_neg h3]
    simp only [Bool.and_eq_true, decide_eq_true_eq]
    omega
structure Good (t : List S69) (T : Tr) : Prop where
 len : t.length ≤ 100000
 form : ∀ i, i < t.length → fmN (t.getD i z69) t.length = true
 tree : mkT t t.length 0 = some T
 nodup : (plT T).Nodup
 all : (plT T).length = t.length
theorem formT_of {t : List S69} (h : ∀ i, i < t.length → fmN (t.getD i z69) t.length = true) : FormT t := fun i hi => by
 have := (fmN_iff _ _).1 (h i hi)
 omega
theorem Good.pos {t : List S69} {T : Tr} (h : Good t T) : 0 < t.length := by
 have := h.tree
 cases ht : t.length with
 | zero => rw [ht] at this; simp [mkT] at this
 | succ n => omega
theorem sizeN_pl : ∀ T, sizeN T = (plT T).length
 | .nil => rfl
 | .node _ _ l r => by rw [sizeN, plT, List.length_cons, List.length_append, sizeN_pl l, sizeN_pl r]; omega
theorem mkT_size {t : List S69} : ∀ {k i : Nat} {T : Tr}, mkT t k i = some T → mkT t (sizeN T) i = some T := by
 intro k
 induction k with
 | zero => intro i T h; simp [mkT] at h
 | succ k ih =>
  intro i T h
  rw [mkT] at h
  split at h
  case isFalse => exact absurd h (by simp)
  rename_i hi
  split at h
  ·rename_i h4
   obtain ⟨l, hl, h⟩ := Option.bind_eq_some_iff.1 h
   obtain ⟨r, hr, h⟩ := Option.bind_eq_some_iff.1 h
   obtain rfl := Option.some.inj h
   rw [sizeN, show 1 + sizeN l + sizeN r = (sizeN l + sizeN r) + 1 by omega, mkT, if_pos hi, if_pos h4, mkT_le t (Nat.le_add_right _ _) (ih hl), Option.bind_some, mkT_le t (Nat.le_add_left _ _) (ih hr), Option.bind_some]
  ·rename_i h4
   obtain rfl := Option.some.inj h
   rw [sizeN, sizeN, show 1 + 0 + 0 = 0 + 1 by omega, mkT, if_pos hi, if_neg h4]
theorem order_f (k : Nat) (t : List S69) (hlen : t.length ≤ 100000) (a : Int) : table_order.f k t a = table_order.l0 k t (List.replicate t.length false) [] ([a] : List Int).reverse := by
 unfold table_order.f
 rw [if_pos (by omega), if_pos (by omega), Int.toNat_natCast]
 rfl
theorem cntT_replicate : ∀ n, cntT (List.replicate n false) = 0
 | 0 => rfl
 | n + 1 => by rw [List.replicate_succ, cntT, cntT_replicate n]; simp
theorem order_f_total (t : List S69) (hlen : t.length ≤ 100000) (hf : FormT t) (a : Int) (h0 : 0 ≤ a) (ha : a < t.length) (k : Nat) (hk : t.length + 1 ≤ k) : ∃ res, table_order.f k t a = some res := by
 rw [order_f _ _ hlen]
 exact order_total t hlen hf k _ [] [a] List.length_replicate (fun i hi => by rw [List.mem_singleton] at hi; subst hi; exact ⟨h0, ha⟩) (cntT_replicate _) (by simp) (by simp; omega) (by omega)
theorem getD_replicate_false (n i : Nat) : (List.replicate n false).getD i false = false := by
 simp only [List.getD, List.getElem?_replicate]
 split <;> rfl
theorem order_f_tree {t : List S69} (hlen : t.length ≤ 100000) (hf : FormT t) {K : Nat} {a : Int} {T : Tr} (h0 : 0 ≤ a) (hT : mkT t K a.toNat = some T) (hn : (plT T).Nodup) (hl : (plT T).length ≤ 1000000) (k : Nat) (hk : (plT T).length < k) : table_order.f k t a = some (plT T) := by
 rw [order_f _ _ hlen]
 have hp := plF_mk h0 hT (plF.eq_1 t K)
 rw [List.append_nil] at hp
 rw [order_tree t hlen hf K k _ [] [a] (plT T) List.length_replicate hp hn (fun _ _ => getD_replicate_false _ _) hk (by simpa using hl)]
 rfl
theorem good_of_order {t : List S69} (hlen : t.length ≤ 100000) (hpos : 0 < t.length) (hf : ∀ i, i < t.length → fmN (t.getD i z69) t.length = true) {k : Nat} {res : List Int} (h : table_order.f k t 0 = some res) (hr : res.length = t.length) : ∃ T, Good t T := by
 rw [order_f _ _ hlen] at h
 rcases order_inv t (formT_of hf) k _ [] [0] res List.length_replicate (by simp) h with e | ⟨ps, hp, e, hn, _⟩
 ·rw [e] at hr; simp at hr; omega
 ·obtain ⟨T, q, _, hT, hq, rfl⟩ := plF_cons hp
  rw [plF] at hq
  injection hq with hq
  subst hq
  rw [List.append_nil] at e hn
  rw [List.nil_append] at e
  have hT2 := mkT_size hT
  rw [sizeN_pl, ← e, hr] at hT2
  exact ⟨T, hlen, hf, hT2, hn, by rw [← e]; exact hr⟩
theorem formed_f (n : S69) (len : Nat) : table_formed.f n.f0 n.f1 n.f2 n.f3 n.f4 n.f5 len = some (fmN n len) := rfl
theorem check_l0 (t : List S69) (hlen : t.length ≤ 100000) (hpos : 0 < t.length) : ∀ (d i k : Nat), i + d = t.length → t.length + 2 + d ≤ k → (∀ j, j < i → fmN (t.getD j z69) t.length = true) →
  ∃ r, table_Check.l0 k t t t.length i = some r ∧ (r = 0 → ∃ T, Good t T) := by
 intro d
 induction d with
 | zero =>
  intro i k hi hk hpre
  cases k with
  | zero => omega
  | succ k =>
   have hf : ∀ j, j < t.length → fmN (t.getD j z69) t.length = true := fun j hj => hpre j (by omega)
   obtain ⟨res, hr⟩ := order_f_total t hlen (formT_of hf) 0 (by omega) (by omega) k (by omega)
   rw [table_Check.l0, if_neg (by omega), hr, Option.bind_some]
   by_cases e : (res.length : Int) = t.length
   ·exact ⟨0, if_pos e, fun _ => good_of_order hlen hpos hf hr (by omega)⟩
   ·exact ⟨3, if_neg e, fun h => absurd h (by decide)⟩
 | succ d ih =>
  intro i k hi hk hpre
  cases k with
  | zero => omega
  | succ k =>
   rw [table_Check.l0, if_pos (by omega), if_pos (by omega), if_pos (by omega)]
   simp only [rd_T69, formed_f, Option.bind_some, Int.toNat_natCast]
   by_cases e : fmN (t.getD i z69) t.length = true
   ·exact dd60
   ·rw [if_neg e]
    exact ⟨3, rfl, fun h => absurd h (by decide)⟩
theorem check_total (t : List S69) : ∃ k r, table_Check.f k t = some r ∧ (r = 0 → ∃ T, Good t T) := by
 unfold table_Check.f
 by_cases h1 : (t.length : Int) > 100000
 ·exact ⟨0, 2, by rw [if_pos h1], fun h => absurd h (by decide)⟩
 ·by_cases h2 : (t.length : Int) = 0
  ·exact ⟨0, 3, by rw [if_neg h1, if_pos h2], fun h => absurd h (by decide)⟩
  ·obtain ⟨r, h, h'⟩ := check_l0 t (by omega) (by omega) t.length 0 (t.length + 2 + t.length) (by omega) (Nat.le_refl _) (fun j hj => absurd hj (by omega))
   exact ⟨_, r, by rw [if_neg h1, if_neg h2]; exact h, h'⟩
theorem check_l0_good {t : List S69} {T : Tr} (hg : Good t T) : ∀ (d i k : Nat), i + d = t.length → t.length + 2 + d ≤ k → table_Check.l0 k t t t.length i = some 0 := by
 have hlen := hg.len
 intro d
 induction d with
 | zero =>
  intro i k hi hk
  cases k with
  | zero => omega
  | succ k =>
   rw [table_Check.l0, if_neg (by omega), order_f_tree hg.len (formT_of hg.form) (by omega) hg.tree hg.nodup (by rw [hg.all]; omega) k (by rw [hg.all]; omega), Option.bind_some, if_pos (by rw [hg.all])]
 | succ d ih =>
  intro i k hi hk
  cases k with
  | zero => omega
  | succ k =>
   rw [table_Check.l0, if_pos (by omega), if_pos (by omega), if_pos (by omega)]
   simp only [rd_T69, formed_f, Option.bind_some, Int.toNat_natCast]
   rw [if_pos (hg.form i (by omega)), Go.IntWalk.wrap64_in _ (by omega)]
   exact ih (i + 1) k (by omega) (by omega)
theorem check_good {t : List S69} {T : Tr} (hg : Good t T) : ∃ k, table_Check.f k t = some 0 := by
 have h1 := hg.len
 have h2 := hg.pos
 refine ⟨t.length + 2 + t.length, ?_⟩
 unfold table_Check.f
 rw [if_neg (by omega), if_neg (by omega)]
 exact check_l0_good hg t.length 0 _ (by omega) (Nat.le_refl _)
end Go.Proofs.YtaabbaemfnecgaaGreat.T
