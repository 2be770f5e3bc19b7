/- A part of the proof: see YtaabbaemfnecgaaGreatLawSeqNexts. -/
import Derived.Test.YtaabbaemfnecgaaGreatC4
set_option linter.unusedVariables false
set_option linter.unusedSimpArgs false
set_option maxHeartbeats 32000000
set_option maxRecDepth 100000
namespace Go.Proofs.YtaabbaemfnecgaaGreat.T
open Go.RowKit Go.Proofs.YtaabbaemfnecgaaGreatW.PrintWords Go.Proofs.YtaabbaemfnecgaaGreatW.PrintLast Go.Proofs.YtaabbaemfnecgaaGreatW.PrintMore
attribute [local go_sem] Tryz.underlying69
section
open Go.Proofs.YtaabbaemfnecgaaGreat.V
def pickL (t : List S69) (par : List Int) (P : Int → Int → Bool) : List Int → Nat → List Int → Option (List Int)
 | [], _, out => some out
 | p :: ps, i, out => if 0 ≤ p ∧ p < t.length ∧ p < par.length ∧ par.getD p.toNat 0 < t.length then
   pickL t par P ps (i + 1) (if P p (if i = 0 then -1 else par.getD p.toNat 0) then out ++ [p] else out)
  else none
def pickF (P : List S69 → Int → Int → Bool) (k : Nat) (l0 : List S69) : Option (List Int × Int) := (weigh_keys.f k l0).bind fun r => if r.2.2 = 0 then (if r.1.length ≤ 1000000 then (pickL l0 r.2.1 (P l0) r.1 0 []).bind fun o => some (o, 0) else none) else some ([], r.2.2)
theorem pickF_mono (P : List S69 → Int → Int → Bool) : ∀ a0 k, LeO (pickF P k a0) (pickF P (k + 1) a0) := by
 intro a0 k
 unfold pickF
 exact LeO.bind (weigh_keys.mono _ _) (fun _ => LeO.refl _)
theorem picked_calls (P : List S69 → Int → Int → Bool) (g : Nat) (lb : Value) (eg : ∀ args w, (callFunc g args).run Tryz.prog w = .ok (.enter g args) w) (k : Nat) (A0 : Option Addr) (c0 : Nat) (l0 : List (S69)) (r1 : List Int) (r2 : Int) (w : World) (hr0 : Kd.C k69 w A0 l0.length l0) (hc0 : l0.length ≤ c0) (h : pickF P k l0 = some (r1, r2))
  (hcl : ∀ (p : Nat) (q : Int) (W : World), Below w.heap.size w W → p < l0.length → q < l0.length → Calls Tryz.prog g #[.int .i64 p, .int .i64 q, lb] W (RB W (.bool (P l0 p q)))) :
  Calls Tryz.prog 136 #[.slice A0 l0.length c0, .func (.func g) #[] #[lb]] w fun e w' => ∃ v0_ : Value, e = .returned (.tuple #[v0_, .int .i64 r2]) ∧ Kd.R (Kd.int .i64) 3 w' w.heap.size (fun _ => True) v0_ r1 ∧ Below w.heap.size w w' := by
 have HR0 := Am hr0
 have HC0 := Am hc0
 have HCL := Am hcl
 clear hr0 hc0 hcl
 unfold pickF at h
 obtain ⟨⟨ord, par, ec⟩, hc, h⟩ := Option.bind_eq_some_iff.mp h
 have HK := Am hc
 clear hc
 dsimp only at h
 by_cases q0 : ec = 0
 ·subst q0
  rw [if_pos rfl] at h
  by_cases q1 : ord.length ≤ 1000000
  rotate_left
  ·rw [if_neg q1] at h; cases h
  rw [if_pos q1] at h
  obtain ⟨res, hE, h⟩ := Option.bind_eq_some_iff.mp h
  obtain ⟨rfl, rfl⟩ : res = r1 ∧ 0 = r2 := by injection h with h; injection h with h1 h2; exact ⟨h1, h2⟩
  have HLO := Am q1
  have HE := Am hE
  clear h q1 hE
  go_enter Tryz.func136, Tryz.ntmps136
  go_wp2_with (fail)
  refine (weigh_keys.calls k A0 c0 l0 ord par 0 _ HR0.out HC0.out HK.out).mono ?_
  rintro _ w1 ⟨v0, v1, rfl, h0, h1, hb⟩
  obtain ⟨A1, c1, rfl⟩ := Kd.R_slice h0
  obtain ⟨A2, c2, rfl⟩ := Kd.R_slice h1
  have HO := Am (Kd.R_reads' h0).2.2
  have HP := Am (Kd.R_reads' h1).2.2
  have HB := Am hb
  clear hb h0 h1 HK
  go_wp2
  go_loopg [9, 24] (ord.length + 1) (fun kq v9 v24 w' => ∃ (i : Nat) (out : List Int), v24 = .int .i64 i ∧ Aside0 (i ≤ ord.length ∧ kq + i = ord.length + 1 ∧ out.length ≤ i) ∧ Aside0 (Kd.R (Kd.int .i64) 3 w' w1.heap.size (fun _ => True) v9 out) ∧ Aside0 (Below w1.heap.size w1 w') ∧ Aside0 (pickL l0 par (P l0) (ord.drop i) i out = some res))
  case atStart => exact ⟨0, [], rfl, ⟨Nat.zero_le _, rfl, Nat.le_refl _⟩, ⟨Kd.R_nil _ _ _ _ _⟩, ⟨Below.refl _ _⟩, HE⟩
  case round =>
   clear HE
   obtain ⟨i, out, rfl, HI, HR, HW, HE⟩ := hrel
   obtain ⟨kq1, rfl⟩ : ∃ x, gk = x + 1 := ⟨gk - 1, by have := HI.out; omega⟩
   by_cases q1 : i < ord.length
   ·obtain ⟨p, hp⟩ : ∃ p, ord.getD i 0 = p := ⟨_, rfl⟩
    have hd : ord.drop i = p :: ord.drop (i + 1) := by rw [← hp, List.getD, List.getElem?_eq_getElem q1, Option.getD_some]; exact List.drop_eq_getElem_cons q1
    have hE := HE.out
    rw [hd, pickL] at hE
    by_cases qp : 0 ≤ p ∧ p < l0.length ∧ p < par.length ∧ par.getD p.toNat 0 < l0.length
    rotate_left
    ·rw [if_neg qp] at hE; cases hE
    rw [if_pos qp] at hE
    obtain ⟨j, rfl⟩ : ∃ j : Nat, p = j := ⟨p.toNat, by omega⟩
    rw [Int.toNat_natCast] at hE qp
    have hj : j < l0.length ∧ j < par.length := by omega
    obtain ⟨ap, eap, hp0⟩ := Kd.at_int (Kd.C_below HO.out HW.out) (i : Int) (by omega) (by omega)
    cases eap
    rw [show rd ord (i : Int) = j from by rw [← hp]; rfl, Int.toNat_natCast] at hp0
    obtain ⟨aq, eaq, hq0⟩ := Kd.at_int (Kd.C_below HP.out HW.out) (j : Int) (by omega) (by omega)
    cases eaq
    rw [show rd par (j : Int) = par.getD j 0 from rfl, Int.toNat_natCast] at hq0
    obtain ⟨qv, hqv⟩ : ∃ qv, par.getD j 0 = qv := ⟨_, rfl⟩
    rw [hqv] at hq0 hE qp
    have HJ := Am hj
    have HQV := Am qp.2.2.2
    have HQ := Am q1
    have HE2 := Am hE
    have p1 : decide ((i : Int) < (ord.length : Int)) = true := decide_eq_true (by omega)
    have p2 : decide (i < ord.length) = true := decide_eq_true q1
    have p3 : (0 ≤ (i : Int)) = True := eq_true (by omega)
    have p4 : ((i : Int) < (ord.length : Int)) = True := eq_true (by omega)
    have p5 : (0 ≤ (j : Int)) = True := eq_true (by omega)
    have p7 : ((j : Int) < (par.length : Int)) = True := eq_true (by omega)
    clear hd hE HE hj hp hqv q1 qp
    by_cases q2 : i = 0
    ·have hE := HE2.out
     rw [if_pos q2] at hE
     have p9 : ((i : Int) == 0) = true := by simpa using q2
     clear q2 HE2
     go_wp2_with (fail)
     refine (HCL.out j (-1) _ (bel_t HB.out HW.out) HJ.out.1 (by omega)).mono ?_
     rintro _ w3 ⟨rfl, hb3⟩
     have HR3 := Am (Kd.R_below HR.out hb3)
     have HW3 := Am (bel_t HW.out hb3)
     clear hb3 HR HW hp0 hq0
     cases q3 : P l0 (j : Int) (-1) with
     | true =>
      exact dd11
     | false =>
      exact dd42
    ·have hE := HE2.out
     rw [if_neg q2] at hE
     have p9 : ((i : Int) == 0) = false := by simpa using q2
     clear q2 HE2
     go_wp2_with (fail)
     refine (HCL.out j qv _ (bel_t HB.out HW.out) HJ.out.1 HQV.out).mono ?_
     rintro _ w3 ⟨rfl, hb3⟩
     have HR3 := Am (Kd.R_below HR.out hb3)
     have HW3 := Am (bel_t HW.out hb3)
     clear hb3 HR HW hp0 hq0
     cases q3 : P l0 (j : Int) qv with
     | true =>
      exact dd11
     | false =>
      exact dd42
   ·have p1 : decide ((i : Int) < (ord.length : Int)) = false := decide_eq_false (by omega)
    have p2 : decide (i < ord.length) = false := decide_eq_false q1
    have hE := HE.out
    rw [List.drop_eq_nil_of_le (by omega), pickL] at hE
    exact dd61
 ·rw [if_neg q0] at h
  obtain ⟨rfl, rfl⟩ : [] = r1 ∧ ec = r2 := by injection h with h; injection h with h1 h2; exact ⟨h1, h2⟩
  have q1 : (ec == 0) = false := by simpa using q0
  have q2 : (ec != 0) = true := by simpa using q0
  clear h q0
  go_enter Tryz.func136, Tryz.ntmps136
  exact dd48
def redB (t : List S69) (p q : Int) : Bool := decide (0 ≤ q) && ((t.getD p.toNat z69).f2 == 0 && (t.getD q.toNat z69).f2 == 0)
def overB (t : List S69) (p q : Int) : Bool := decide (1 < (t.getD p.toNat z69).f2)
theorem over_clos {A0 : Option Addr} {c0 : Nat} {l0 : List S69} {w : World} (hr0 : Kd.C k69 w A0 l0.length l0) {b : Nat} (hb : w.heap[b]? = some (.cells #[.slice A0 l0.length c0] 22 (0, 0))) (p : Nat) (q : Int) (W : World) (hW : Below w.heap.size w W) (hp : p < l0.length) (hq : q < l0.length) :
  Calls Tryz.prog 138 #[.int .i64 p, .int .i64 q, .pointer (some ⟨b, 0, none⟩)] W (RB W (.bool (overB l0 p q))) := by
 have hx : W.cell? ⟨b, 0, none⟩ = some (.slice A0 l0.length c0) := (blk_cell (blkB hW hb) 0).trans rfl
 obtain ⟨ad, ead, hz⟩ := rd_cells hr0 hp
 obtain ⟨z0, z1, z2, z3, z4, z5⟩ := hz _ hW
 cases ead
 have p5 : (0 ≤ (p : Int)) = True := eq_true (by omega)
 have p6 : ((p : Int) < (l0.length : Int)) = True := eq_true (by omega)
 have HR0 := Am hr0
 have HQ := Am hq
 have HW := Am hW
 clear hr0 hb hz hp hq hW
 unfold overB
 rw [Int.toNat_natCast]
 generalize l0.getD p z69 = n at z0 z1 z2 z3 z4 z5 ⊢
 cases q1 : decide (1 < n.f2) with
 | true =>
  exact dd88
 | false =>
  exact dd88
theorem red_clos {A0 : Option Addr} {c0 : Nat} {l0 : List S69} {w : World} (hr0 : Kd.C k69 w A0 l0.length l0) {b : Nat} (hb : w.heap[b]? = some (.cells #[.slice A0 l0.length c0] 22 (0, 0))) (p : Nat) (q : Int) (W : World) (hW : Below w.heap.size w W) (hp : p < l0.length) (hq : q < l0.length) :
  Calls Tryz.prog 137 #[.int .i64 p, .int .i64 q, .pointer (some ⟨b, 0, none⟩)] W (RB W (.bool (redB l0 p q))) := by
 have hx : W.cell? ⟨b, 0, none⟩ = some (.slice A0 l0.length c0) := (blk_cell (blkB hW hb) 0).trans rfl
 obtain ⟨ad, ead, hz⟩ := rd_cells hr0 hp
 obtain ⟨z0, z1, z2, z3, z4, z5⟩ := hz _ hW
 cases ead
 have p5 : (0 ≤ (p : Int)) = True := eq_true (by omega)
 have p6 : ((p : Int) < (l0.length : Int)) = True := eq_true (by omega)
 have HR0 := Am hr0
 have HQ := Am hq
 have HW := Am hW
 clear hr0 hb hz hp hq hW
 unfold redB
 rw [Int.toNat_natCast]
 generalize l0.getD p z69 = n at z0 z1 z2 z3 z4 z5 ⊢
 by_cases q1 : 0 ≤ q
 ·rw [decide_eq_true q1, Bool.true_and]
  obtain ⟨j, rfl⟩ : ∃ j : Nat, q = j := ⟨q.toNat, by omega⟩
  rw [Int.toNat_natCast]
  have p1 : decide ((j : Int) ≥ 0) = true := decide_eq_true q1
  have p2 : decide (0 ≤ (j : Int)) = true := decide_eq_true q1
  have p3 : (0 ≤ (j : Int)) = True := eq_true q1
  have p4 : ((j : Int) < (l0.length : Int)) = True := eq_true HQ.out
  obtain ⟨ad', ead', hz'⟩ := rd_cells HR0.out (i := j) (by have := HQ.out; omega)
  obtain ⟨y0, y1, y2, y3, y4, y5⟩ := hz' _ HW.out
  cases ead'
  clear hz' q1
  generalize l0.getD j z69 = n' at y0 y1 y2 y3 y4 y5 ⊢
  cases q2 : (n.f2 == 0) with
  | true =>
   rw [Bool.true_and]
   cases q3 : (n'.f2 == 0) with
   | true =>
    exact dd50
   | false =>
    exact dd50
  | false =>
   rw [Bool.false_and]
   exact dd50
 ·rw [decide_eq_false q1, Bool.false_and]
  have p1 : decide (q ≥ 0) = false := decide_eq_false q1
  have p2 : decide (0 ≤ q) = false := decide_eq_false q1
  clear q1
  exact dd50
def weigh_Reds.f (k : Nat) (l0 : List S69) : Option (List Int × Int) := pickF redB k l0
theorem weigh_Reds.mono : ∀ a0 k, LeO (weigh_Reds.f k a0) (weigh_Reds.f (k + 1) a0) := pickF_mono _
theorem weigh_Reds.calls (k : Nat) (A0 : Option Addr) (c0 : Nat) (l0 : List (S69)) (r1 : List Int) (r2 : Int) (w : World) (hr0 : Kd.C k69 w A0 l0.length l0) (hc0 : l0.length ≤ c0) (h : weigh_Reds.f k l0 = some (r1, r2)) :
  Calls Tryz.prog 75 #[.slice A0 l0.length c0] w fun e w' => ∃ v0_ : Value, e = .returned (.tuple #[v0_, .int .i64 r2]) ∧ Kd.R (Kd.int .i64) 3 w' w.heap.size (fun _ => True) v0_ r1 ∧ Below w.heap.size w w' := by
 have HR0 := Am hr0
 have HC0 := Am hc0
 have HH := Am h
 clear hr0 hc0 h
 have HB := Br w
 go_enter Tryz.func75, Tryz.ntmps75
 go_wp2_with (first | ((with_reducible refine Gd 1 rfl ?_); refine bE 1 (cs := #[.slice A0 l0.length c0]) (t := 22) ?_; intro gb hg_ w_gb hk_ hb_; have GE_gb := Am (show w.heap.size ≤ gb from hg_ ▸ HB.out.size); have HK_gb := Am hk_; have HB_ := Am (bel_t HB.out hb_); have BB_gb := Am hb_; clear hg_ hk_ hb_ HB; have HB := HB_; clear HB_; have hx_ : w_gb.cell? ⟨gb, 0, none⟩ = some (.slice A0 l0.length c0) := (blk_cell HK_gb.out 0).trans rfl))
 refine (picked_calls redB 137 _ (fun args w => rfl) k A0 c0 l0 r1 r2 _ (Kd.C_below HR0.out HB.out) HC0.out HH.out (fun p q W hW hp hq => red_clos (Kd.C_below HR0.out HB.out) HK_gb.out p q W hW hp hq)).mono ?_
 exact dd54
def weigh_Overs.f (k : Nat) (l0 : List S69) : Option (List Int × Int) := pickF overB k l0
theorem weigh_Overs.mono : ∀ a0 k, LeO (weigh_Overs.f k a0) (weigh_Overs.f (k + 1) a0) := pickF_mono _
theorem weigh_Overs.calls (k : Nat) (A0 : Option Addr) (c0 : Nat) (l0 : List (S69)) (r1 : List Int) (r2 : Int) (w : World) (hr0 : Kd.C k69 w A0 l0.length l0) (hc0 : l0.length ≤ c0) (h : weigh_Overs.f k l0 = some (r1, r2)) :
  Calls Tryz.prog 76 #[.slice A0 l0.length c0] w fun e w' => ∃ v0_ : Value, e = .returned (.tuple #[v0_, .int .i64 r2]) ∧ Kd.R (Kd.int .i64) 3 w' w.heap.size (fun _ => True) v0_ r1 ∧ Below w.heap.size w w' := by
 have HR0 := Am hr0
 have HC0 := Am hc0
 have HH := Am h
 clear hr0 hc0 h
 have HB := Br w
 go_enter Tryz.func76, Tryz.ntmps76
 go_wp2_with (first | ((with_reducible refine Gd 1 rfl ?_); refine bE 1 (cs := #[.slice A0 l0.length c0]) (t := 22) ?_; intro gb hg_ w_gb hk_ hb_; have GE_gb := Am (show w.heap.size ≤ gb from hg_ ▸ HB.out.size); have HK_gb := Am hk_; have HB_ := Am (bel_t HB.out hb_); have BB_gb := Am hb_; clear hg_ hk_ hb_ HB; have HB := HB_; clear HB_; have hx_ : w_gb.cell? ⟨gb, 0, none⟩ = some (.slice A0 l0.length c0) := (blk_cell HK_gb.out 0).trans rfl))
 refine (picked_calls overB 138 _ (fun args w => rfl) k A0 c0 l0 r1 r2 _ (Kd.C_below HR0.out HB.out) HC0.out HH.out (fun p q W hW hp hq => over_clos (Kd.C_below HR0.out HB.out) HK_gb.out p q W hW hp hq)).mono ?_
 exact dd54
end
section
open Go.Proofs.YtaabbaemfnecgaaGreat.V
theorem underlying129 : Tryz.prog.underlying 129 = some (.map 3 4) := by kernel_rfl
theorem zero4 : (Tryz.prog.info? 4).map (fun i => i.zero) = some (some (.bool false)) := by kernel_rfl
def firstIn (path all : List Int) : Int := match path.find? (fun p => decide (p ∈ all)) with
 | some p => p
 | none => -1
def weigh_First.f (k : Nat) (l0 : List S69) (a1 : Int) : Option (Int × Int) := (weigh_Reds.f k l0).bind fun r => if r.2 = 0 then ((weigh_Overs.f k l0).bind fun o => (table_Search.f k l0 a1).bind fun p => if r.1.length ≤ 1000000 ∧ o.1.length ≤ 1000000 ∧ p.1.length ≤ 1000000 then some (firstIn p.1 (r.1 ++ o.1), 0) else none) else some (0, r.2)
theorem weigh_First.mono : ∀ a0 a1 k, LeO (weigh_First.f k a0 a1) (weigh_First.f (k + 1) a0 a1) := by
 intro a0 a1 k
 unfold weigh_First.f
 exact LeO.bind (weigh_Reds.mono _ _) (fun _ => LeO.ite (LeO.bind (weigh_Overs.mono _ _) (fun _ => LeO.bind (table_Search.mono _ _ _) (fun _ => LeO.refl _))) (LeO.refl _))
theorem updM_B {f : Int → Option Value} {L : List Int} (h : ∀ x, (f x).getD (.bool false) = .bool (decide (x ∈ L))) (k : Int) : ∀ x, (updM f k (.bool true) x).getD (.bool false) = .bool (decide (x ∈ L ++ [k])) := fun x => by
 unfold updM
 by_cases hx : x = k
 ·rw [if_pos hx]; simp [hx]
 ·rw [if_neg hx, h]; simp [hx]
theorem first_hit {path all : List Int} {i : Nat} (hi : i < path.length) (h : path.getD i 0 ∈ all) (hn : ∀ j, j < i → path.getD j 0 ∉ all) : firstIn path all = path.getD i 0 := by
 have : path.find? (fun p => decide (p ∈ all)) = some (path.getD i 0) := by
  rw [List.find?_eq_some_iff_getElem]
  refine ⟨by simpa using h, i, hi, by rw [List.getD, List.getElem?_eq_getElem hi]; rfl, fun j hj => ?_⟩
  have := hn j hj
  rw [List.getD, List.getElem?_eq_getElem (by omega)] at this
  simpa using this
 unfold firstIn
 rw [this]
theorem first_none {path all : List Int} (hn : ∀ j, j < path.length → path.getD j 0 ∉ all) : firstIn path all = -1 := by
 have : path.find? (fun p => decide (p ∈ all)) = none := by
  rw [List.find?_eq_none]
  intro p hp
  obtain ⟨j, hj, rfl⟩ := List.mem_iff_getElem.1 hp
  have := hn j hj
  rw [List.getD, List.getElem?_eq_getElem hj] at this
  simpa using this
 unfold firstIn
 rw [this]
theorem weigh_First.calls (k : Nat) (A0 : Option Addr) (c0 : Nat) (l0 : List (S69)) (a1 : Int) (r1 : Int) (r2 : Int) (w : World) (hr0 : Kd.C k69 w A0 l0.length l0) (hc0 : l0.length ≤ c0) (h : weigh_First.f k l0 a1 = some (r1, r2)) :
  Calls Tryz.prog 38 #[.slice A0 l0.length c0, .int .i64 a1] w (RB w (.tuple #[.int .i64 r1, .int .i64 r2])) := by
 have HR0 := Am hr0
 have HC0 := Am hc0
 clear hr0 hc0
 unfold weigh_First.f at h
 obtain ⟨⟨rs, er⟩, hc, h⟩ := Option.bind_eq_some_iff.mp h
 have HRD := Am hc
 clear hc
 dsimp only at h
 by_cases q0 : er = 0
 ·subst q0
  rw [if_pos rfl] at h
  obtain ⟨⟨os, eo⟩, ho, h⟩ := Option.bind_eq_some_iff.mp h
  obtain ⟨⟨path, ep⟩, hp, h⟩ := Option.bind_eq_some_iff.mp h
  dsimp only at h
  by_cases q1 : rs.length ≤ 1000000 ∧ os.length ≤ 1000000 ∧ path.length ≤ 1000000
  rotate_left
  ·rw [if_neg q1] at h; cases h
  rw [if_pos q1] at h
  obtain ⟨rfl, rfl⟩ : firstIn path (rs ++ os) = r1 ∧ 0 = r2 := by injection h with h; injection h with h1 h2; exact ⟨h1, h2⟩
  have HOV := Am ho
  have HSE := Am hp
  have HLN := Am q1
  clear ho hp h q1
  go_enter Tryz.func38, Tryz.ntmps38
  go_wp2_with (fail)
  refine (weigh_Reds.calls k A0 c0 l0 rs 0 _ HR0.out HC0.out HRD.out).mono ?_
  rintro _ w1 ⟨v0, rfl, h0, hb⟩
  have HO0 := Am h0
  have HB := Am hb
  clear hb h0 HRD
  obtain ⟨A1, c1, rfl⟩ := Kd.R_slice HO0.out
  go_wp2_with (fail)
  refine (weigh_Overs.calls k A0 c0 l0 os eo _ (Kd.C_below HR0.out HB.out) HC0.out HOV.out).mono ?_
  rintro _ w2 ⟨v1, rfl, h1, hb⟩
  obtain ⟨A2, c2, rfl⟩ := Kd.R_slice h1
  have HO1 := Am (Kd.R_reads' h1).2.2
  have HO2 := Am (Kd.R_below HO0.out hb)
  have HB2 := Am (bel_t HB.out hb)
  clear hb h1 HOV HO0 HB
  go_wp2_with (first | ((with_reducible refine gate_ (.makeMap 129 none) rfl ?_); refine wp_makeM 129 rfl rfl ?_; intro bm w3 hbm hm3 hb3; have HM3 := Am hm3; have HB3 := Am (bel_t HB2.out hb3); have HO3 := Am (Kd.R_below HO2.out hb3); have HP3 := Am (Kd.C_below HO1.out hb3); have HBM := Am (show w.heap.size ≤ bm from by have := HB2.out.size; omega); clear hbm hm3 hb3 HO2 HO1 HB2) | ((with_reducible refine gate_builtin (b := .append) (xs := #[.tmp 31, .tmp 32]) rfl ?_); at_builtin; refine Kd.R_append_rows (Kd.int .i64) (w0 := w) w.heap.size rfl (.tmp 31) (.tmp 32) 60 3 (.int .i64 0) 8 rfl Tryz.underlying60 info3 rfl (by decide) (by omega) _ rs os A2 os.length c2 (fun _ => True) (fun _ => False) rfl rfl HO3.out HP3.out (fun _ _ h => h) (fun _ hk => hk.elim) (fun _ _ => trivial) HB3.out HB3.out.size ?aL ?_; (case aL => have := HLN.out; omega); intro v4 w4 ho4 hb4 hg4 hat4; have HO4 := Am ho4; have HB4 := Am hb4; have HM4 := Am (MapI.kept HM3.out HO3.out hg4); clear ho4 hb4 hg4 hat4; obtain ⟨A4, c4, rfl⟩ := Kd.R_slice HO4.out; obtain ⟨all, hall⟩ : ∃ all, rs ++ os = all := ⟨_, rfl⟩; have HAL := Am (show all.length ≤ 2000000 by (rw [← hall, List.length_append]; have := HLN.out; omega)); have HALL := Am hall; rw [hall] at HO4 ⊢; clear hall))
  go_wp2
  go_loopg [35] (all.length + 1) (fun kq v35 w' => ∃ (i : Nat) (f : Int → Option Value), v35 = .int .i64 i ∧ Aside0 (i ≤ all.length ∧ kq + i = all.length + 1) ∧ Aside0 (MapI w' bm f ∧ ∀ x, (f x).getD (.bool false) = .bool (decide (x ∈ all.take i))) ∧ Aside0 (Kd.R (Kd.int .i64) 3 w' w.heap.size (fun _ => True) (.slice A4 all.length c4) all) ∧ Aside0 (Below w.heap.size w w'))
  case atStart => exact ⟨0, fun _ => none, rfl, ⟨Nat.zero_le _, rfl⟩, ⟨HM4.out, fun x => by simp⟩, HO4, HB4⟩
  case round =>
   clear HM4 HO4 HB4
   obtain ⟨i, f, rfl, HI, HM, HC, HB⟩ := hrel
   obtain ⟨kq1, rfl⟩ : ∃ x, gk = x + 1 := ⟨gk - 1, by have := HI.out; omega⟩
   by_cases q1 : i < all.length
   ·obtain ⟨p, hp⟩ : ∃ p, all.getD i 0 = p := ⟨_, rfl⟩
    have htk : all.take (i + 1) = all.take i ++ [p] := by rw [← hp, List.take_succ_eq_append_getElem q1, List.getD, List.getElem?_eq_getElem q1, Option.getD_some]
    obtain ⟨ap, eap, hp0⟩ := Kd.at_int (Kd.R_reads' HC.out).2.2 (i : Int) (by omega) (by omega)
    cases eap
    rw [show rd all (i : Int) = p from by rw [← hp]; rfl, Int.toNat_natCast] at hp0
    have HTK := Am htk
    have HQ := Am q1
    have p1 : decide ((i : Int) < (all.length : Int)) = true := decide_eq_true (by omega)
    have p2 : decide (i < all.length) = true := decide_eq_true q1
    have p3 : (0 ≤ (i : Int)) = True := eq_true (by omega)
    have p4 : ((i : Int) < (all.length : Int)) = True := eq_true (by omega)
    clear hp htk q1
    go_wp2_with (first | ((with_reducible refine gate_ (.mapUpdate 129 (.tmp 39) (.tmp 40) (.const (.bool true))) rfl ?_); refine wp_put 129 underlying129 rfl rfl (.tmp 39) (.tmp 40) (.const (.bool true)) rfl bm rfl p rfl (.bool true) rfl HM.out.1 ?_; intro w5 hm5 hg5; have HM5 := Am (And.intro hm5 (updM_B HM.out.2 p)); have HR5 := Am (R_mapg HC.out HM.out.1 hg5); have HW5 := Am (HB.out.trans (below_from hg5 HBM.out HB.out.size)); clear hm5 hg5 hp0))
    go_roundg kq1
    case measure => omega
    case rel => exact ⟨i + 1, _, by have := HQ.out; have := HAL.out; first | rfl | (rw [Go.IntWalk.wrap64_in _ (by omega)]; rfl), ⟨by have := HQ.out; omega, by have := HI.out.2; omega⟩, ⟨HM5.out.1, by rw [HTK.out]; exact HM5.out.2⟩, HR5, HW5⟩
   ·have p1 : decide ((i : Int) < (all.length : Int)) = false := decide_eq_false (by omega)
    have p2 : decide (i < all.length) = false := decide_eq_false q1
    have htk : all.take i = all := List.take_of_length_le (by omega)
    rw [htk] at HM
    clear HC htk q1
    go_wp2_with (fail)
    refine (table_Search.calls k A0 c0 l0 a1 path ep _ (Kd.C_below HR0.out HB.out) HC0.out HSE.out).mono ?_
    rintro _ w6 ⟨v6, rfl, h6, hb⟩
    obtain ⟨A6, c6, rfl⟩ := Kd.R_slice h6
    have HP6 := Am (Kd.R_reads' h6).2.2
    have HM6 := Am (And.intro (HM.out.1.below hb) HM.out.2)
    have HB6 := Am (bel_t HB.out hb)
    clear h6 hb HSE HM HB HB3 HO3 HP3 HM3
    go_wp2
    go_loopg [50] (path.length + 1) (fun kq v50 w' => ∃ i : Nat, v50 = .int .i64 i ∧ Aside0 (i ≤ path.length ∧ kq + i = path.length + 1) ∧ Aside0 (w' = w6) ∧ Aside0 (∀ j, j < i → path.getD j 0 ∉ all))
    case atStart => exact ⟨0, rfl, ⟨Nat.zero_le _, rfl⟩, ⟨rfl⟩, ⟨fun j hj => absurd hj (by omega)⟩⟩
    case round =>
     obtain ⟨i, rfl, HI, HW, HN⟩ := hrel
     obtain ⟨kq1, rfl⟩ : ∃ x, gk = x + 1 := ⟨gk - 1, by have := HI.out; omega⟩
     have hw := HW.out
     subst hw
     by_cases q1 : i < path.length
     ·obtain ⟨p, hp⟩ : ∃ p, path.getD i 0 = p := ⟨_, rfl⟩
      obtain ⟨ap, eap, hp0⟩ := Kd.at_int HP6.out (i : Int) (by omega) (by omega)
      cases eap
      rw [show rd path (i : Int) = p from by rw [← hp]; rfl, Int.toNat_natCast] at hp0
      have HPP := Am hp
      have HQ := Am q1
      have p1 : decide ((i : Int) < (path.length : Int)) = true := decide_eq_true (by omega)
      have p2 : decide (i < path.length) = true := decide_eq_true q1
      have p3 : (0 ≤ (i : Int)) = True := eq_true (by omega)
      have p4 : ((i : Int) < (path.length : Int)) = True := eq_true (by omega)
      clear hp q1
      cases q3 : decide (p ∈ all) with
      | true =>
       go_wp2_with (first | ((with_reducible refine gate_ (.lookup 129 (.tmp 54) (.tmp 55) false) rfl ?_); refine wp_get 129 underlying129 zero4 rfl (.tmp 54) (.tmp 55) rfl bm rfl p rfl HM6.out.1 ?_; rw [HM6.out.2, q3]))
       go_ret2
       refine ⟨?_, HB6.out⟩
       rw [HALL.out, first_hit HQ.out (by rw [HPP.out]; exact of_decide_eq_true q3) HN.out, HPP.out]
       rfl
      | false =>
       go_wp2_with (first | ((with_reducible refine gate_ (.lookup 129 (.tmp 54) (.tmp 55) false) rfl ?_); refine wp_get 129 underlying129 zero4 rfl (.tmp 54) (.tmp 55) rfl bm rfl p rfl HM6.out.1 ?_; rw [HM6.out.2, q3]))
       go_roundg kq1
       case measure => omega
       case rel => exact ⟨i + 1, by have := HQ.out; have := HLN.out; first | rfl | (rw [Go.IntWalk.wrap64_in _ (by omega)]; rfl), ⟨by have := HQ.out; omega, by have := HI.out.2; omega⟩, ⟨rfl⟩, ⟨fun j hj => by
        by_cases e : j = i
        ·rw [e, HPP.out]; exact of_decide_eq_false q3
        ·exact HN.out j (by omega)⟩⟩
     ·have p1 : decide ((i : Int) < (path.length : Int)) = false := decide_eq_false (by omega)
      have p2 : decide (i < path.length) = false := decide_eq_false q1
      obtain rfl : i = path.length := by have := HI.out; omega
      clear q1
      go_wp2
      go_ret2
      refine ⟨?_, HB6.out⟩
      rw [HALL.out, first_none HN.out]
      rfl
 ·rw [if_neg q0] at h
  obtain ⟨rfl, rfl⟩ : 0 = r1 ∧ er = r2 := by injection h with h; injection h with h1 h2; exact ⟨h1, h2⟩
  have q1 : (er == 0) = false := by simpa using q0
  have q2 : (er != 0) = true := by simpa using q0
  clear h q0
  go_enter Tryz.func38, Tryz.ntmps38
  go_wp2_with (fail)
  refine (weigh_Reds.calls k A0 c0 l0 rs er _ HR0.out HC0.out HRD.out).mono ?_
  rintro _ w1 ⟨v0, rfl, h0, hb⟩
  have HB := Am hb
  clear hb h0
  go_wp2
  go_ret2
  exact ⟨rfl, HB.out⟩
end
end Go.Proofs.YtaabbaemfnecgaaGreat.T
