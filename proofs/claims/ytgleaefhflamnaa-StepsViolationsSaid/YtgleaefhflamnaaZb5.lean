/- A part of the proof: see YtgleaefhflamnaaLawStepsViolations. -/
import Derived.Test.YtgleaefhflamnaaZb4
set_option linter.unusedVariables false
set_option linter.unusedSimpArgs false
namespace Go.Proofs.Ytgleaefhflamnaa.T
open Go.RowKit Go.Proofs.YtgleaefhflamnaaW.PrintWords Go.Proofs.YtgleaefhflamnaaW.PrintLast Go.Proofs.YtgleaefhflamnaaW.PrintMore
theorem doT_does (m rt : Bool) {X : Tr} {kind : Int} (hk : 1 ≤ kind ∧ kind ≤ 12) (h12 : kind ≠ 12) (hX : Ok X) (hc : canT m rt X kind = true) : Does X (doT m X kind) := by
 have hd : kind = 1 ∨ kind = 2 ∨ kind = 3 ∨ kind = 4 ∨ kind = 5 ∨ kind = 6 ∨ kind = 7 ∨ kind = 8 ∨ kind = 9 ∨ kind = 10 ∨ kind = 11 := by omega
 rcases hd with rfl | rfl | rfl | rfl | rfl | rfl | rfl | rfl | rfl | rfl | rfl
 ·exact do1_does m hX hc
 ·exact do2_does m hX hc
 ·exact do3_does m hX hc
 ·exact do4_does m hX hc
 ·exact do5_does m hX hc
 ·exact do6_does m hX hc
 ·exact do7_does m hX hc
 ·exact do8_does m hX hc
 ·exact do9_does m hX hc
 ·exact do10_does m hX hc
 ·exact do11_does m hX hc
theorem can12 {m rt : Bool} {X : Tr} (hc : canT m rt X 12 = true) : rt = true ∧ wt X ≠ 1 := by
 have : (rt && wt X != 1) = true := hc
 simpa using this
theorem sums_set (x : Int) {Y : Tr} (h : Y ≠ .nil) (a : Int) : sums (setW Y x) a = sums Y (a + (x - wt Y)) := by
 cases Y with
 | nil => exact absurd rfl h
 | node n p l r =>
  cases l with
  | nil => simp only [setW, sums, wt]; congr 1; omega
  | node _ _ _ _ => simp only [setW, sums, wt]; rw [show a + (x - n.f2) + n.f2 = a + x by omega]
theorem size_set (x : Int) (Y : Tr) : sizeT (setW Y x) = sizeT Y := by cases Y <;> rfl
theorem all_set {x : Int} {T : Tr} (h : allT (fun n => n.f1 = 0) T) : allT (fun n => n.f1 = 0) (setW T x) := by
 cases T with
 | nil => exact h
 | node n p l r => exact h
theorem setW_as (x y : Int) (T : Tr) : setW (asT x T) y = asT y T := by cases T <;> rfl
/-- What stands in the place of X behind a move. -/
structure Gives (rt : Bool) (X R : Tr) : Prop where
 size : sizeT R = sizeT X
 ok : Ok R
 all : allT (fun n => n.f1 = 0) X → allT (fun n => n.f1 = 0) R
 plain : rt = false → ∀ a, sums R a = sums X a
 root : rt = true → wt R = 1 ∧ ∃ d, ∀ a, sums R a = sums X (a + d)
theorem ok_set_top {Y : Tr} (h : Ok (setW Y 1)) : Y ≠ .nil := by
 cases Y with
 | nil => exact h.elim
 | node _ _ _ _ => simp
theorem gives_root (m : Bool) {X : Tr} {kind : Int} (hk : 1 ≤ kind ∧ kind ≤ 12) (hX : Ok X) (hc : canT m true X kind = true) : Gives true X (setW (doT m X kind) 1) := by
 by_cases h12 : kind = 12
 ·subst h12
  have e : doT m X 12 = asT 1 X := rfl
  rw [e, setW_as]
  refine ⟨size_as 1, ok_as (by omega) hX, fun h => all_as h, fun h => absurd h (by simp), fun _ => ⟨wt_as 1 (ok_ne hX), 1 - wt X, fun a => ?_⟩⟩
  rw [sums_as 1 (ok_ne hX)]
  congr 1
  omega
 ·have h := doT_does m true hk h12 hX hc
  have hn := ok_set_top h.ok1
  refine ⟨by rw [size_set, h.size], h.ok1, fun ha => all_set (h.all ha), fun h => absurd h (by simp), fun _ => ⟨?_, 1 - wt (doT m X kind), fun a => ?_⟩⟩
  ·cases hd : doT m X kind with
   | nil => exact absurd hd hn
   | node _ _ _ _ => rfl
  ·rw [sums_set 1 hn, h.sums]
theorem gives_plain (m : Bool) {X : Tr} {kind : Int} (hk : 1 ≤ kind ∧ kind ≤ 12) (hX : Ok X) (hc : canT m false X kind = true) (hb : ¬ 1000000 < wt (doT m X kind)) : Gives false X (doT m X kind) := by
 have h12 : kind ≠ 12 := by rintro rfl; exact absurd (can12 hc).1 (by simp)
 have h := doT_does m false hk h12 hX hc
 exact ⟨h.size, h.ok (by omega), h.all, fun _ => h.sums, fun h => absurd h (by simp)⟩
/-- Another tree in the place of one. -/
def replT (c : Nat) (R : Tr) : Tr → Tr
 | .nil => .nil
 | .node n p l r => .node n p (if plc l = c then R else replT c R l) (if plc r = c then R else replT c R r)
theorem plc_nil (c : Nat) : ¬ plc .nil = (c : Int) := by simp only [plc]; omega
theorem mkR_eq (t : List S34) (c : Nat) (R : Tr) : ∀ (k i : Nat) (T : Tr), mkT t k i = some T → mkR t c R k i = some (replT c R T) := by
 intro k
 induction k with
 | zero => intro i T h; simp [mkT] at h
 | succ k ih =>
  intro i T h
  rw [mkT] at h
  rw [mkR]
  split at h
  case isFalse => exact absurd h (by simp)
  rename_i hi
  rw [if_pos hi]
  split at h
  ·rename_i h4
   obtain ⟨l, hl, h⟩ := Option.bind_eq_some_iff.1 h
   obtain ⟨r, hr, h⟩ := Option.bind_eq_some_iff.1 h
   obtain rfl := Option.some.inj h
   have e : ∀ (j : Nat) (S : Tr), mkT t k j = some S → (if j = c then some R else mkR t c R k j) = some (if plc S = c then R else replT c R S) := by
    intro j S hS
    rw [mkT_plc hS]
    by_cases ej : j = c
    ·rw [if_pos ej, if_pos (by omega)]
    ·rw [if_neg ej, if_neg (by omega), ih j S hS]
   rw [if_pos h4, e _ _ hl, Option.bind_some, e _ _ hr, Option.bind_some, replT]
  ·rename_i h4
   obtain rfl := Option.some.inj h
   rw [if_neg h4, replT, if_neg (plc_nil c), replT]
theorem ok_mkT {t : List S34} (hf : ∀ i, i < t.length → fmN (t.getD i z34) t.length = true) : ∀ {k i : Nat} {T : Tr}, mkT t k i = some T → Ok T := by
 intro k
 induction k with
 | zero => intro i T h; simp [mkT] at h
 | succ k ih =>
  intro i T h
  by_cases hl : (t.getD i z34).f4 = -1 ∧ (t.getD i z34).f5 = -1
  ·obtain ⟨hi, rfl⟩ := mkT_leaf hf h hl
   have := (fmN_iff _ _).1 (hf i hi)
   exact ⟨this.1, this.2.1, .inl ⟨rfl, rfl, hl⟩⟩
  ·obtain ⟨k', l, r, hk, hi, h1, h2, rfl⟩ := mkT_inner hf h hl
   obtain rfl : k = k' := by omega
   have := (fmN_iff _ _).1 (hf i hi)
   exact ⟨this.1, this.2.1, .inr ⟨by omega, ih h1, ih h2⟩⟩
theorem sub_ex {t : List S34} : ∀ {k i : Nat} {T : Tr}, mkT t k i = some T → ∀ p ∈ plT T, ∃ X, mkT t k p.toNat = some X ∧ (∀ P, allT P T → allT P X) := by
 intro k
 induction k with
 | zero => intro i T h; simp [mkT] at h
 | succ k ih =>
  intro i T h p hp
  have h0 := h
  rw [mkT] at h
  split at h
  case isFalse => exact absurd h (by simp)
  rename_i hi
  split at h
  ·obtain ⟨l, hl, h⟩ := Option.bind_eq_some_iff.1 h
   obtain ⟨r, hr, h⟩ := Option.bind_eq_some_iff.1 h
   obtain rfl := Option.some.inj h
   simp only [plT, List.mem_cons, List.mem_append] at hp
   rcases hp with rfl | hp | hp
   ·exact ⟨_, by rw [Int.toNat_natCast]; exact h0, fun _ h => h⟩
   ·obtain ⟨X, h1, h2⟩ := ih hl p hp
    exact ⟨X, mkT_mono _ _ _ _ h1, fun P h => h2 P h.2.1⟩
   ·obtain ⟨X, h1, h2⟩ := ih hr p hp
    exact ⟨X, mkT_mono _ _ _ _ h1, fun P h => h2 P h.2.2⟩
  ·obtain rfl := Option.some.inj h
   simp only [plT, List.append_nil, List.mem_cons, List.not_mem_nil, or_false] at hp
   subst hp
   exact ⟨_, by rw [Int.toNat_natCast]; exact h0, fun _ h => h⟩
theorem repl_ok {c : Nat} {R : Tr} (hR : Ok R) : ∀ {T : Tr}, Ok T → Ok (replT c R T)
 | .nil, h => h
 | .node n p l r, h => by
  rw [replT]
  refine ⟨h.1, h.2.1, ?_⟩
  rcases h.2.2 with ⟨rfl, rfl, h4, h5⟩ | ⟨h3, hl, hr⟩
  ·refine .inl ⟨?_, ?_, h4, h5⟩ <;> rw [if_neg (plc_nil c)] <;> rfl
  ·refine .inr ⟨h3, ?_, ?_⟩
   ·split
    ·exact hR
    ·exact repl_ok hR hl
   ·split
    ·exact hR
    ·exact repl_ok hR hr
/-- What is alike of a tree and of what stands in its place is alike of the whole. -/
theorem repl_sums {t : List S34} {c K : Nat} {X R : Tr} (hX : mkT t K c = some X) (hRn : R ≠ .nil) (hs : ∀ a, sums R a = sums X a) : ∀ (k i : Nat) (T : Tr), mkT t k i = some T → ∀ a, sums (replT c R T) a = sums T a := by
 intro k
 induction k with
 | zero => intro i T h; simp [mkT] at h
 | succ k ih =>
  intro i T h
  rw [mkT] at h
  split at h
  case isFalse => exact absurd h (by simp)
  rename_i hi
  split at h
  ·obtain ⟨l, hl, h⟩ := Option.bind_eq_some_iff.1 h
   obtain ⟨r, hr, h⟩ := Option.bind_eq_some_iff.1 h
   obtain rfl := Option.some.inj h
   have e : ∀ (j : Nat) (S : Tr), mkT t k j = some S → ∀ a, sums (if plc S = c then R else replT c R S) a = sums S a := by
    intro j S hS a
    split
    ·rename_i hp
     rw [mkT_plc hS] at hp
     obtain rfl : j = c := by omega
     rw [hs, mkT_fun t hS hX]
    ·exact ih j S hS a
   have hne : ∀ (j : Nat) (S : Tr), mkT t k j = some S → (if plc S = c then R else replT c R S) ≠ .nil := by
    intro j S hS
    split
    ·exact hRn
    ·cases S with
     | nil => exact absurd hS (fun h => mkT_nil h)
     | node _ _ _ _ => simp [replT]
   intro a
   rw [replT]
   have hl2 := e _ _ hl
   have hr2 := e _ _ hr
   have hn2 := hne _ _ hl
   generalize (if plc l = (c : Int) then R else replT c R l) = l' at *
   generalize (if plc r = (c : Int) then R else replT c R r) = r' at *
   cases l' with
   | nil => exact absurd rfl hn2
   | node n1 p1 x1 y1 =>
    cases l with
    | nil => exact absurd hl (fun h => mkT_nil h)
    | node n2 p2 x2 y2 => simp only [sums]; rw [hl2, hr2]
  ·obtain rfl := Option.some.inj h
   intro a
   rw [replT, if_neg (plc_nil c)]
   rfl
theorem repl_size {t : List S34} {c K : Nat} {X R : Tr} (hX : mkT t K c = some X) (hs : sizeT R = sizeT X) : ∀ (k i : Nat) (T : Tr), mkT t k i = some T → sizeT (replT c R T) = sizeT T := by
 intro k
 induction k with
 | zero => intro i T h; simp [mkT] at h
 | succ k ih =>
  intro i T h
  rw [mkT] at h
  split at h
  case isFalse => exact absurd h (by simp)
  rename_i hi
  split at h
  ·obtain ⟨l, hl, h⟩ := Option.bind_eq_some_iff.1 h
   obtain ⟨r, hr, h⟩ := Option.bind_eq_some_iff.1 h
   obtain rfl := Option.some.inj h
   have e : ∀ (j : Nat) (S : Tr), mkT t k j = some S → sizeT (if plc S = c then R else replT c R S) = sizeT S := by
    intro j S hS
    split
    ·rename_i hp
     rw [mkT_plc hS] at hp
     obtain rfl : j = c := by omega
     rw [hs, mkT_fun t hS hX]
    ·exact ih j S hS
   rw [replT, sizeT, e _ _ hl, e _ _ hr, sizeT]
  ·obtain rfl := Option.some.inj h
   rw [replT, if_neg (plc_nil c)]
   rfl
theorem repl_all {P : S34 → Prop} {c : Nat} {R : Tr} (hR : allT P R) : ∀ {T : Tr}, allT P T → allT P (replT c R T)
 | .nil, h => h
 | .node n p l r, h => by
  rw [replT]
  refine ⟨h.1, ?_, ?_⟩
  ·split
   ·exact hR
   ·exact repl_all hR h.2.1
  ·split
   ·exact hR
   ·exact repl_all hR h.2.2
/-- In the place of the tree of the keys. -/
def newX (c : Nat) (R X0 : Tr) : Tr := if plc X0 = c then R else replT c R X0
end Go.Proofs.Ytgleaefhflamnaa.T
namespace Go.Proofs.Ytgleaefhflamnaa.T
open Go.RowKit Go.Proofs.YtgleaefhflamnaaW.PrintWords Go.Proofs.YtgleaefhflamnaaW.PrintLast Go.Proofs.YtgleaefhflamnaaW.PrintMore
theorem rdp_l {a b : Int} (h : a ≠ 0) : rdp a b = 0 := by unfold rdp; rw [if_neg (by omega)]
theorem rdp_r {a b : Int} (h : b ≠ 0) : rdp a b = 0 := by unfold rdp; rw [if_neg (by omega)]
theorem rdp_00 : rdp 0 0 = 1 := rfl
set_option maxHeartbeats 4000000 in
theorem do1_bad (m : Bool) {X : Tr} (hX : Ok X) (hc : can1 m X = true) (p : Int) (hp : 0 ≤ p) : bad (do1 m X) + rdp p (wt (do1 m X)) ≤ bad X + rdp p (wt X) := by
 simp only [can1, Bool.and_eq_true, Bool.or_eq_true, decide_eq_true_eq, beq_iff_eq] at hc
 have ne_L : lT m X ≠ .nil := wt_pos_ne (by omega)
 have k_X := ok_split m hX (.inl ne_L)
 have ok_L := k_X.1
 have ok_R := k_X.2
 have w_L := ok_wt ok_L
 have n_L := ok_ne ok_L
 have w_R := ok_wt ok_R
 have n_R := ok_ne ok_R
 have w_X := ok_wt hX
 have n_X := ok_ne hX
 have hw : wrap64 (wt X - 1) = wt X - 1 := Go.IntWalk.wrap64_in _ (by omega)
 have hw1 : wrap64 (wt X + 1) = wt X + 1 := Go.IntWalk.wrap64_in _ (by omega)
 have hw_L : wrap64 (wt (lT m X) - 1) = wt (lT m X) - 1 := Go.IntWalk.wrap64_in _ (by omega)
 have hw_R : wrap64 (wt (rT m X) - 1) = wt (rT m X) - 1 := Go.IntWalk.wrap64_in _ (by omega)
 unfold do1
 try unfold lessT
 try simp only [hw, hw1, hw_L, hw_R]
 rw [bad_split m n_X]
 try rw [bad_as m _ n_L]
 try rw [bad_as m _ n_R]
 simp only [bad_put, wt_put]
 try rw [bad_as m _ n_L]
 try rw [bad_as m _ n_R]
 try rw [bad_split m n_L]
 try rw [bad_split m n_R]
 try simp only [wt_as _ n_L, wt_as _ n_R]
 try simp only [hc]
 try simp (disch := omega) only [rdp_l, rdp_r, rdp_00]
 unfold rdp
 omega
set_option maxHeartbeats 4000000 in
theorem do2_bad (m : Bool) {X : Tr} (hX : Ok X) (hc : can2 m X = true) (p : Int) (hp : 0 ≤ p) : bad (do2 m X) + rdp p (wt (do2 m X)) < bad X + rdp p (wt X) := by
 simp only [can2, Bool.and_eq_true, Bool.or_eq_true, decide_eq_true_eq, beq_iff_eq] at hc
 have ne_L : lT m X ≠ .nil := wt_pos_ne (by omega)
 have k_X := ok_split m hX (.inl ne_L)
 have ok_L := k_X.1
 have ok_R := k_X.2
 have ne_LL : lT m (lT m X) ≠ .nil := wt_pos_ne (by omega)
 have k_L := ok_split m ok_L (.inl ne_LL)
 have ok_LL := k_L.1
 have ok_LR := k_L.2
 have w_L := ok_wt ok_L
 have n_L := ok_ne ok_L
 have w_R := ok_wt ok_R
 have n_R := ok_ne ok_R
 have w_LL := ok_wt ok_LL
 have n_LL := ok_ne ok_LL
 have w_LR := ok_wt ok_LR
 have n_LR := ok_ne ok_LR
 have w_X := ok_wt hX
 have n_X := ok_ne hX
 have hw : wrap64 (wt X - 1) = wt X - 1 := Go.IntWalk.wrap64_in _ (by omega)
 have hw1 : wrap64 (wt X + 1) = wt X + 1 := Go.IntWalk.wrap64_in _ (by omega)
 unfold do2
 try unfold lessT
 try simp only [hw, hw1]
 rw [bad_split m n_X]
 rw [bad_split m n_L]
 simp only [bad_put, wt_put]
 try simp only [hc]
 try simp (disch := omega) only [rdp_l, rdp_r, rdp_00]
 unfold rdp
 omega
set_option maxHeartbeats 4000000 in
theorem do3_bad (m : Bool) {X : Tr} (hX : Ok X) (hc : can3 m X = true) (p : Int) (hp : 0 ≤ p) : bad (do3 m X) + rdp p (wt (do3 m X)) < bad X + rdp p (wt X) := by
 simp only [can3, Bool.and_eq_true, Bool.or_eq_true, decide_eq_true_eq, beq_iff_eq] at hc
 have ne_L : lT m X ≠ .nil := wt_pos_ne (by omega)
 have k_X := ok_split m hX (.inl ne_L)
 have ok_L := k_X.1
 have ok_R := k_X.2
 have ne_LR : rT m (lT m X) ≠ .nil := wt_pos_ne (by omega)
 have k_L := ok_split m ok_L (.inr ne_LR)
 have ok_LL := k_L.1
 have ok_LR := k_L.2
 have ne_LRL : lT m (rT m (lT m X)) ≠ .nil := inner_lT m ok_LR (by simp only [hc])
 have k_LR := ok_split m ok_LR (.inl ne_LRL)
 have ok_LRL := k_LR.1
 have ok_LRR := k_LR.2
 have w_L := ok_wt ok_L
 have n_L := ok_ne ok_L
 have w_R := ok_wt ok_R
 have n_R := ok_ne ok_R
 have w_LL := ok_wt ok_LL
 have n_LL := ok_ne ok_LL
 have w_LR := ok_wt ok_LR
 have n_LR := ok_ne ok_LR
 have w_LRL := ok_wt ok_LRL
 have n_LRL := ok_ne ok_LRL
 have w_LRR := ok_wt ok_LRR
 have n_LRR := ok_ne ok_LRR
 have w_X := ok_wt hX
 have n_X := ok_ne hX
 have hw : wrap64 (wt X - 1) = wt X - 1 := Go.IntWalk.wrap64_in _ (by omega)
 have hw1 : wrap64 (wt X + 1) = wt X + 1 := Go.IntWalk.wrap64_in _ (by omega)
 unfold do3
 try unfold lessT
 try simp only [hw, hw1]
 rw [bad_split m n_X]
 rw [bad_split m n_L]
 rw [bad_split m n_LR]
 simp only [bad_put, wt_put]
 try simp only [hc]
 try simp (disch := omega) only [rdp_l, rdp_r, rdp_00]
 unfold rdp
 omega
set_option maxHeartbeats 4000000 in
theorem do4_bad (m : Bool) {X : Tr} (hX : Ok X) (hc : can4 m X = true) (p : Int) (hp : 0 ≤ p) : bad (do4 m X) + rdp p (wt (do4 m X)) ≤ bad X + rdp p (wt X) := by
 simp only [can4, Bool.and_eq_true, Bool.or_eq_true, decide_eq_true_eq, beq_iff_eq] at hc
 have ne_L : lT m X ≠ .nil := wt_pos_ne (by omega)
 have k_X := ok_split m hX (.inl ne_L)
 have ok_L := k_X.1
 have ok_R := k_X.2
 have w_L := ok_wt ok_L
 have n_L := ok_ne ok_L
 have w_R := ok_wt ok_R
 have n_R := ok_ne ok_R
 have w_X := ok_wt hX
 have n_X := ok_ne hX
 have hw : wrap64 (wt X - 1) = wt X - 1 := Go.IntWalk.wrap64_in _ (by omega)
 have hw1 : wrap64 (wt X + 1) = wt X + 1 := Go.IntWalk.wrap64_in _ (by omega)
 have hw_L : wrap64 (wt (lT m X) - 1) = wt (lT m X) - 1 := Go.IntWalk.wrap64_in _ (by omega)
 have hw_R : wrap64 (wt (rT m X) - 1) = wt (rT m X) - 1 := Go.IntWalk.wrap64_in _ (by omega)
 unfold do4
 try unfold lessT
 try simp only [hw, hw1, hw_L, hw_R]
 rw [bad_split m n_X]
 try rw [bad_as m _ n_L]
 try rw [bad_as m _ n_R]
 simp only [bad_put, wt_put]
 try rw [bad_as m _ n_L]
 try rw [bad_as m _ n_R]
 try rw [bad_split m n_L]
 try rw [bad_split m n_R]
 try simp only [wt_as _ n_L, wt_as _ n_R]
 try simp only [hc]
 try simp (disch := omega) only [rdp_l, rdp_r, rdp_00]
 unfold rdp
 omega
set_option maxHeartbeats 4000000 in
theorem do5_bad (m : Bool) {X : Tr} (hX : Ok X) (hc : can5 m X = true) (p : Int) (hp : 0 ≤ p) : bad (do5 m X) + rdp p (wt (do5 m X)) < bad X + rdp p (wt X) := by
 simp only [can5, Bool.and_eq_true, Bool.or_eq_true, decide_eq_true_eq, beq_iff_eq] at hc
 have ne_L : lT m X ≠ .nil := wt_pos_ne (by omega)
 have k_X := ok_split m hX (.inl ne_L)
 have ok_L := k_X.1
 have ok_R := k_X.2
 have ne_RL : lT m (rT m X) ≠ .nil := wt_pos_ne (by omega)
 have k_R := ok_split m ok_R (.inl ne_RL)
 have ok_RL := k_R.1
 have ok_RR := k_R.2
 have w_L := ok_wt ok_L
 have n_L := ok_ne ok_L
 have w_R := ok_wt ok_R
 have n_R := ok_ne ok_R
 have w_RL := ok_wt ok_RL
 have n_RL := ok_ne ok_RL
 have w_RR := ok_wt ok_RR
 have n_RR := ok_ne ok_RR
 have w_X := ok_wt hX
 have n_X := ok_ne hX
 have hw : wrap64 (wt X - 1) = wt X - 1 := Go.IntWalk.wrap64_in _ (by omega)
 have hw1 : wrap64 (wt X + 1) = wt X + 1 := Go.IntWalk.wrap64_in _ (by omega)
 have hw_L : wrap64 (wt (lT m X) - 1) = wt (lT m X) - 1 := Go.IntWalk.wrap64_in _ (by omega)
 have hw_RL : wrap64 (wt (lT m (rT m X)) - 1) = wt (lT m (rT m X)) - 1 := Go.IntWalk.wrap64_in _ (by omega)
 unfold do5
 try unfold lessT
 try simp only [hw, hw1, hw_L, hw_RL]
 rw [bad_split m n_X]
 rw [bad_split m n_R]
 try rw [bad_as m _ n_L]
 try rw [bad_as m _ n_RL]
 simp only [bad_put, wt_put]
 try rw [bad_as m _ n_L]
 try rw [bad_as m _ n_RL]
 try rw [bad_split m n_L]
 try rw [bad_split m n_RL]
 try simp only [wt_as _ n_L, wt_as _ n_RL]
 try simp only [hc]
 try simp (disch := omega) only [rdp_l, rdp_r, rdp_00]
 unfold rdp
 omega
set_option maxHeartbeats 4000000 in
theorem do6_bad (m : Bool) {X : Tr} (hX : Ok X) (hc : can6 m X = true) (p : Int) (hp : 0 ≤ p) : bad (do6 m X) + rdp p (wt (do6 m X)) < bad X + rdp p (wt X) := by
 simp only [can6, Bool.and_eq_true, Bool.or_eq_true, decide_eq_true_eq, beq_iff_eq] at hc
 have ne_L : lT m X ≠ .nil := wt_pos_ne (by omega)
 have k_X := ok_split m hX (.inl ne_L)
 have ok_L := k_X.1
 have ok_R := k_X.2
 have ne_RL : lT m (rT m X) ≠ .nil := wt_pos_ne (by omega)
 have k_R := ok_split m ok_R (.inl ne_RL)
 have ok_RL := k_R.1
 have ok_RR := k_R.2
 have w_L := ok_wt ok_L
 have n_L := ok_ne ok_L
 have w_R := ok_wt ok_R
 have n_R := ok_ne ok_R
 have w_RL := ok_wt ok_RL
 have n_RL := ok_ne ok_RL
 have w_RR := ok_wt ok_RR
 have n_RR := ok_ne ok_RR
 have w_X := ok_wt hX
 have n_X := ok_ne hX
 have hw : wrap64 (wt X - 1) = wt X - 1 := Go.IntWalk.wrap64_in _ (by omega)
 have hw1 : wrap64 (wt X + 1) = wt X + 1 := Go.IntWalk.wrap64_in _ (by omega)
 have hw_L : wrap64 (wt (lT m X) - 1) = wt (lT m X) - 1 := Go.IntWalk.wrap64_in _ (by omega)
 have hw_RL : wrap64 (wt (lT m (rT m X)) - 1) = wt (lT m (rT m X)) - 1 := Go.IntWalk.wrap64_in _ (by omega)
 unfold do6
 try unfold lessT
 try simp only [hw, hw1, hw_L, hw_RL]
 rw [bad_split m n_X]
 rw [bad_split m n_R]
 try rw [bad_as m _ n_L]
 try rw [bad_as m _ n_RL]
 simp only [bad_put, wt_put]
 try rw [bad_as m _ n_L]
 try rw [bad_as m _ n_RL]
 try rw [bad_split m n_L]
 try rw [bad_split m n_RL]
 try simp only [wt_as _ n_L, wt_as _ n_RL]
 try simp only [hc]
 try simp (disch := omega) only [rdp_l, rdp_r, rdp_00]
 unfold rdp
 omega
set_option maxHeartbeats 4000000 in
theorem do7_bad (m : Bool) {X : Tr} (hX : Ok X) (hc : can7 m X = true) (p : Int) (hp : 0 ≤ p) : bad (do7 m X) + rdp p (wt (do7 m X)) < bad X + rdp p (wt X) := by
 simp only [can7, Bool.and_eq_true, Bool.or_eq_true, decide_eq_true_eq, beq_iff_eq] at hc
 have ne_L : lT m X ≠ .nil := wt_pos_ne (by omega)
 have k_X := ok_split m hX (.inl ne_L)
 have ok_L := k_X.1
 have ok_R := k_X.2
 have ne_RL : lT m (rT m X) ≠ .nil := wt_pos_ne (by omega)
 have k_R := ok_split m ok_R (.inl ne_RL)
 have ok_RL := k_R.1
 have ok_RR := k_R.2
 have ne_A : lT m (lT m (rT m X)) ≠ .nil := wt_pos_ne (by omega)
 have k_RL := ok_split m ok_RL (.inl ne_A)
 have ok_A := k_RL.1
 have ok_B := k_RL.2
 have ne_AL : lT m (lT m (lT m (rT m X))) ≠ .nil := inner_lT m ok_A (by simp only [hc])
 have k_A := ok_split m ok_A (.inl ne_AL)
 have ok_AL := k_A.1
 have ok_AR := k_A.2
 have w_L := ok_wt ok_L
 have n_L := ok_ne ok_L
 have w_R := ok_wt ok_R
 have n_R := ok_ne ok_R
 have w_RL := ok_wt ok_RL
 have n_RL := ok_ne ok_RL
 have w_RR := ok_wt ok_RR
 have n_RR := ok_ne ok_RR
 have w_A := ok_wt ok_A
 have n_A := ok_ne ok_A
 have w_B := ok_wt ok_B
 have n_B := ok_ne ok_B
 have w_AL := ok_wt ok_AL
 have n_AL := ok_ne ok_AL
 have w_AR := ok_wt ok_AR
 have n_AR := ok_ne ok_AR
 have w_X := ok_wt hX
 have n_X := ok_ne hX
 have hw : wrap64 (wt X - 1) = wt X - 1 := Go.IntWalk.wrap64_in _ (by omega)
 have hw1 : wrap64 (wt X + 1) = wt X + 1 := Go.IntWalk.wrap64_in _ (by omega)
 have hw_L : wrap64 (wt (lT m X) - 1) = wt (lT m X) - 1 := Go.IntWalk.wrap64_in _ (by omega)
 unfold do7
 try unfold lessT
 try simp only [hw, hw1, hw_L]
 rw [bad_split m n_X]
 rw [bad_split m n_R]
 rw [bad_split m n_RL]
 rw [bad_split m n_A]
 try rw [bad_as m _ n_L]
 simp only [bad_put, wt_put]
 try rw [bad_as m _ n_L]
 try rw [bad_split m n_L]
 try simp only [wt_as _ n_L]
 try simp only [hc]
 try simp (disch := omega) only [rdp_l, rdp_r, rdp_00]
 unfold rdp
 omega
set_option maxHeartbeats 4000000 in
theorem do8_bad (m : Bool) {X : Tr} (hX : Ok X) (hc : can8 m X = true) (p : Int) (hp : 0 ≤ p) : bad (do8 m X) + rdp p (wt (do8 m X)) < bad X + rdp p (wt X) := by
 simp only [can8, Bool.and_eq_true, Bool.or_eq_true, decide_eq_true_eq, beq_iff_eq] at hc
 have ne_L : lT m X ≠ .nil := wt_pos_ne (by omega)
 have k_X := ok_split m hX (.inl ne_L)
 have ok_L := k_X.1
 have ok_R := k_X.2
 have ne_RL : lT m (rT m X) ≠ .nil := wt_pos_ne (by omega)
 have k_R := ok_split m ok_R (.inl ne_RL)
 have ok_RL := k_R.1
 have ok_RR := k_R.2
 have ne_B : rT m (lT m (rT m X)) ≠ .nil := wt_pos_ne (by omega)
 have k_RL := ok_split m ok_RL (.inr ne_B)
 have ok_A := k_RL.1
 have ok_B := k_RL.2
 have w_L := ok_wt ok_L
 have n_L := ok_ne ok_L
 have w_R := ok_wt ok_R
 have n_R := ok_ne ok_R
 have w_RL := ok_wt ok_RL
 have n_RL := ok_ne ok_RL
 have w_RR := ok_wt ok_RR
 have n_RR := ok_ne ok_RR
 have w_A := ok_wt ok_A
 have n_A := ok_ne ok_A
 have w_B := ok_wt ok_B
 have n_B := ok_ne ok_B
 have w_X := ok_wt hX
 have n_X := ok_ne hX
 have hw : wrap64 (wt X - 1) = wt X - 1 := Go.IntWalk.wrap64_in _ (by omega)
 have hw1 : wrap64 (wt X + 1) = wt X + 1 := Go.IntWalk.wrap64_in _ (by omega)
 have hw_L : wrap64 (wt (lT m X) - 1) = wt (lT m X) - 1 := Go.IntWalk.wrap64_in _ (by omega)
 have hw_B : wrap64 (wt (rT m (lT m (rT m X))) - 1) = wt (rT m (lT m (rT m X))) - 1 := Go.IntWalk.wrap64_in _ (by omega)
 unfold do8
 try unfold lessT
 try simp only [hw, hw1, hw_L, hw_B]
 rw [bad_split m n_X]
 rw [bad_split m n_R]
 rw [bad_split m n_RL]
 try rw [bad_as m _ n_L]
 try rw [bad_as m _ n_B]
 simp only [bad_put, wt_put]
 try rw [bad_as m _ n_L]
 try rw [bad_as m _ n_B]
 try rw [bad_split m n_L]
 try rw [bad_split m n_B]
 try simp only [wt_as _ n_L, wt_as _ n_B]
 try simp only [hc]
 try simp (disch := omega) only [rdp_l, rdp_r, rdp_00]
 unfold rdp
 omega
set_option maxHeartbeats 4000000 in
theorem do9_bad (m : Bool) {X : Tr} (hX : Ok X) (hc : can9 m X = true) (p : Int) (hp : 0 ≤ p) : bad (do9 m X) + rdp p (wt (do9 m X)) < bad X + rdp p (wt X) := by
 simp only [can9, Bool.and_eq_true, Bool.or_eq_true, decide_eq_true_eq, beq_iff_eq] at hc
 have ne_L : lT m X ≠ .nil := wt_pos_ne (by omega)
 have k_X := ok_split m hX (.inl ne_L)
 have ok_L := k_X.1
 have ok_R := k_X.2
 have ne_RR : rT m (rT m X) ≠ .nil := wt_pos_ne (by omega)
 have k_R := ok_split m ok_R (.inr ne_RR)
 have ok_RL := k_R.1
 have ok_RR := k_R.2
 have w_L := ok_wt ok_L
 have n_L := ok_ne ok_L
 have w_R := ok_wt ok_R
 have n_R := ok_ne ok_R
 have w_RL := ok_wt ok_RL
 have n_RL := ok_ne ok_RL
 have w_RR := ok_wt ok_RR
 have n_RR := ok_ne ok_RR
 have w_X := ok_wt hX
 have n_X := ok_ne hX
 have hw : wrap64 (wt X - 1) = wt X - 1 := Go.IntWalk.wrap64_in _ (by omega)
 have hw1 : wrap64 (wt X + 1) = wt X + 1 := Go.IntWalk.wrap64_in _ (by omega)
 have hw_L : wrap64 (wt (lT m X) - 1) = wt (lT m X) - 1 := Go.IntWalk.wrap64_in _ (by omega)
 have hw_RR : wrap64 (wt (rT m (rT m X)) - 1) = wt (rT m (rT m X)) - 1 := Go.IntWalk.wrap64_in _ (by omega)
 unfold do9
 try unfold lessT
 try simp only [hw, hw1, hw_L, hw_RR]
 rw [bad_split m n_X]
 rw [bad_split m n_R]
 try rw [bad_as m _ n_L]
 try rw [bad_as m _ n_RR]
 simp only [bad_put, wt_put]
 try rw [bad_as m _ n_L]
 try rw [bad_as m _ n_RR]
 try rw [bad_split m n_L]
 try rw [bad_split m n_RR]
 try simp only [wt_as _ n_L, wt_as _ n_RR]
 try simp only [hc]
 try simp (disch := omega) only [rdp_l, rdp_r, rdp_00]
 unfold rdp
 omega
set_option maxHeartbeats 4000000 in
theorem do10_bad (m : Bool) {X : Tr} (hX : Ok X) (hc : can10 m X = true) (p : Int) (hp : 0 ≤ p) : bad (do10 m X) + rdp p (wt (do10 m X)) < bad X + rdp p (wt X) := by
 simp only [can10, Bool.and_eq_true, Bool.or_eq_true, decide_eq_true_eq, beq_iff_eq] at hc
 have ne_L : lT m X ≠ .nil := wt_pos_ne (by omega)
 have k_X := ok_split m hX (.inl ne_L)
 have ok_L := k_X.1
 have ok_R := k_X.2
 have ne_RL : lT m (rT m X) ≠ .nil := wt_pos_ne (by omega)
 have k_R := ok_split m ok_R (.inl ne_RL)
 have ok_RL := k_R.1
 have ok_RR := k_R.2
 have ne_A : lT m (lT m (rT m X)) ≠ .nil := inner_lT m ok_RL (by simp only [hc])
 have k_RL := ok_split m ok_RL (.inl ne_A)
 have ok_A := k_RL.1
 have ok_B := k_RL.2
 have w_L := ok_wt ok_L
 have n_L := ok_ne ok_L
 have w_R := ok_wt ok_R
 have n_R := ok_ne ok_R
 have w_RL := ok_wt ok_RL
 have n_RL := ok_ne ok_RL
 have w_RR := ok_wt ok_RR
 have n_RR := ok_ne ok_RR
 have w_A := ok_wt ok_A
 have n_A := ok_ne ok_A
 have w_B := ok_wt ok_B
 have n_B := ok_ne ok_B
 have w_X := ok_wt hX
 have n_X := ok_ne hX
 have hw : wrap64 (wt X - 1) = wt X - 1 := Go.IntWalk.wrap64_in _ (by omega)
 have hw1 : wrap64 (wt X + 1) = wt X + 1 := Go.IntWalk.wrap64_in _ (by omega)
 have hw_L : wrap64 (wt (lT m X) - 1) = wt (lT m X) - 1 := Go.IntWalk.wrap64_in _ (by omega)
 unfold do10
 try unfold lessT
 try simp only [hw, hw1, hw_L]
 rw [bad_split m n_X]
 rw [bad_split m n_R]
 rw [bad_split m n_RL]
 try rw [bad_as m _ n_L]
 simp only [bad_put, wt_put]
 try rw [bad_as m _ n_L]
 try rw [bad_split m n_L]
 try simp only [wt_as _ n_L]
 try simp only [hc]
 try simp (disch := omega) only [rdp_l, rdp_r, rdp_00]
 unfold rdp
 omega
set_option maxHeartbeats 4000000 in
theorem do11_bad (m : Bool) {X : Tr} (hX : Ok X) (hc : can11 m X = true) (p : Int) (hp : 0 ≤ p) : bad (do11 m X) + rdp p (wt (do11 m X)) < bad X + rdp p (wt X) := by
 simp only [can11, Bool.and_eq_true, Bool.or_eq_true, decide_eq_true_eq, beq_iff_eq] at hc
 have ne_L : lT m X ≠ .nil := wt_pos_ne (by omega)
 have k_X := ok_split m hX (.inl ne_L)
 have ok_L := k_X.1
 have ok_R := k_X.2
 have w_L := ok_wt ok_L
 have n_L := ok_ne ok_L
 have w_R := ok_wt ok_R
 have n_R := ok_ne ok_R
 have w_X := ok_wt hX
 have n_X := ok_ne hX
 have hw : wrap64 (wt X - 1) = wt X - 1 := Go.IntWalk.wrap64_in _ (by omega)
 have hw1 : wrap64 (wt X + 1) = wt X + 1 := Go.IntWalk.wrap64_in _ (by omega)
 have hw_L : wrap64 (wt (lT m X) - 1) = wt (lT m X) - 1 := Go.IntWalk.wrap64_in _ (by omega)
 have hw_R : wrap64 (wt (rT m X) - 1) = wt (rT m X) - 1 := Go.IntWalk.wrap64_in _ (by omega)
 unfold do11
 try unfold lessT
 try simp only [hw, hw1, hw_L, hw_R]
 rw [bad_split m n_X]
 try rw [bad_as m _ n_L]
 try rw [bad_as m _ n_R]
 simp only [bad_put, wt_put]
 try rw [bad_as m _ n_L]
 try rw [bad_as m _ n_R]
 try rw [bad_split m n_L]
 try rw [bad_split m n_R]
 try simp only [wt_as _ n_L, wt_as _ n_R]
 try simp only [hc]
 try simp (disch := omega) only [rdp_l, rdp_r, rdp_00]
 unfold rdp
 omega
end Go.Proofs.Ytgleaefhflamnaa.T
namespace Go.Proofs.Ytgleaefhflamnaa.T
open Go.RowKit Go.Proofs.YtgleaefhflamnaaW.PrintWords Go.Proofs.YtgleaefhflamnaaW.PrintLast Go.Proofs.YtgleaefhflamnaaW.PrintMore
attribute [local go_sem] max2_int min2_int max_two min_two max_three min_three max_four min_four   -- for this text's walks alone
set_option linter.unusedVariables false
set_option linter.unusedSimpArgs false
-- BREAK Derived.Test.YtgleaefhflamnaaHN
-- steps_Do.f, .mono, .calls stand in the module named above.
def larchlaw18_some.f  : Option ((List (S34)) × Int) := some ((([(⟨0, 1, 1, 0, 1, 6⟩ : S34), (⟨0, 1, 1, 0, 2, 5⟩ : S34), (⟨2, 0, 1, 0, 3, 4⟩ : S34), (⟨1, 0, 2, 0, (-1), (-1)⟩ : S34), (⟨2, 0, 2, 0, (-1), (-1)⟩ : S34), (⟨0, 1, 1, 0, (-1), (-1)⟩ : S34), (⟨0, 1, 1, 0, (-1), (-1)⟩ : S34)] : List (S34))), 2)
set_option maxHeartbeats 8000000 in
set_option maxRecDepth 100000 in
theorem larchlaw18_some.calls  (r1 : List (S34)) (r2 : Int) (w : World) (h : larchlaw18_some.f  = some (r1, r2)) :
  Calls Try.prog 40 #[] w fun e w' => ∃ v0_ : Value, e = .returned (.tuple #[v0_, .int .i64 r2]) ∧ Kd.R k34 34 w' w.heap.size (fun _ => True) v0_ r1 ∧ Below w.heap.size w w' := by
 have hu34 := Try.underlying34
 have HB := Am (Below.refl w.heap.size w)
 have H : (some ((([(⟨0, 1, 1, 0, 1, 6⟩ : S34), (⟨0, 1, 1, 0, 2, 5⟩ : S34), (⟨2, 0, 1, 0, 3, 4⟩ : S34), (⟨1, 0, 2, 0, (-1), (-1)⟩ : S34), (⟨2, 0, 2, 0, (-1), (-1)⟩ : S34), (⟨0, 1, 1, 0, (-1), (-1)⟩ : S34), (⟨0, 1, 1, 0, (-1), (-1)⟩ : S34)] : List (S34))), 2)) = some (r1, r2) := h
 clear h
 obtain ⟨y190, hy190⟩ : ∃ y_ : List (S34), y_ = (([(⟨0, 1, 1, 0, 1, 6⟩ : S34), (⟨0, 1, 1, 0, 2, 5⟩ : S34), (⟨2, 0, 1, 0, 3, 4⟩ : S34), (⟨1, 0, 2, 0, (-1), (-1)⟩ : S34), (⟨2, 0, 2, 0, (-1), (-1)⟩ : S34), (⟨0, 1, 1, 0, (-1), (-1)⟩ : S34), (⟨0, 1, 1, 0, (-1), (-1)⟩ : S34)] : List (S34))) := ⟨_, rfl⟩
 replace H : (some (y190, 2)) = some (r1, r2) := by first | (rw [hy190]; with_reducible exact H) | (have H2_ := (Option.bind_some _ _).symm.trans H; rw [hy190]; with_reducible exact H2_) | (have H2_ := (Option.bind_some _ _).symm.trans H; with_reducible exact H2_) | with_reducible exact H | (rw [hy190]; exact H) | exact H
 have Ny190 := Am hy190
 clear hy190
 simp only [Option.some.injEq, Prod.mk.injEq] at H
 obtain ⟨rfl, rfl⟩ := H
 go_enter Try.func40, Try.ntmps40
 go_wp2_with (first | ((with_reducible refine gate_dst (N := 2) rfl ?_); refine box_event ?hg (N := 2) ?hd (cs := #[.int .i64 0, .int .i64 0, .int .i64 0, .int .i64 0, .int .i64 0, .int .i64 0]) (t := 34) ?hr ?_; (case hd => rfl); (case hg => rfl); (case hr => first | (go_simp; done) | (go_simp; rfl)); intro gb187 hg w1 hbox hb; have n0_ := Am (below_step (by repeat (first | (with_reducible first | exact HB.out | apply ba | apply bn | apply bd) | exact HB.out)) hb); have n1_ := Am (hbox); have n2_ := Am ((by rw [hg]; exact (below_size (by repeat (first | (with_reducible first | exact HB.out | apply ba | apply bn | apply bd) | exact HB.out))) : w.heap.size ≤ gb187)); have n3_ := Am ((by rw [hg]; exact (below_size (by repeat (first | (with_reducible first | exact HB.out | apply ba | apply bn | apply bd) | exact HB.out))) : w.heap.size ≤ gb187)); clear HB; have HB := n0_; have BK187 := n1_; have GW187 := n2_; have GE187 := n3_; clear n0_ n1_ n2_ n3_; clear hb hbox hg; have hcz2_0 : w1.cell? ⟨gb187, 0, none⟩ = some (.int .i64 0) := (blk_cell BK187.out 0).trans rfl; have hcz2_1 : w1.cell? ⟨gb187, 1, none⟩ = some (.int .i64 0) := (blk_cell BK187.out 1).trans rfl; have hcz2_2 : w1.cell? ⟨gb187, 2, none⟩ = some (.int .i64 0) := (blk_cell BK187.out 2).trans rfl; have hcz2_3 : w1.cell? ⟨gb187, 3, none⟩ = some (.int .i64 0) := (blk_cell BK187.out 3).trans rfl; have hcz2_4 : w1.cell? ⟨gb187, 4, none⟩ = some (.int .i64 0) := (blk_cell BK187.out 4).trans rfl; have hcz2_5 : w1.cell? ⟨gb187, 5, none⟩ = some (.int .i64 0) := (blk_cell BK187.out 5).trans rfl; have hfz2_0 := blk_frozen BK187.out 0; have hfz2_1 := blk_frozen BK187.out 1; have hfz2_2 := blk_frozen BK187.out 2; have hfz2_3 := blk_frozen BK187.out 3; have hfz2_4 := blk_frozen BK187.out 4; have hfz2_5 := blk_frozen BK187.out 5) | ((with_reducible refine gate_dst (N := 3) rfl ?_); refine box_event ?hg (N := 3) ?hd (cs := #[.int .i64 0, .int .i64 0, .int .i64 0, .int .i64 0, .int .i64 0, .int .i64 0]) (t := 34) ?hr ?_; (case hd => rfl); (case hg => rfl); (case hr => first | (go_simp; done) | (go_simp; rfl)); intro gb188 hg w3 hbox hb; have n0_ := Am (blk_below (g := gb187) (o := .cells #[.int .i64 0, .int .i64 1, .int .i64 1, .int .i64 0, .int .i64 (-1), .int .i64 (-1)] 34 (0, 0)) (by (with_reducible repeat (first | refine blk_drewN ?_ _ | refine blk_drew ?_ | refine blk_alloc ?_ _)); refine blk_put (cs := #[.int .i64 0, .int .i64 1, .int .i64 1, .int .i64 0, .int .i64 (-1), .int .i64 0]) ?_ 5 _ rfl; (with_reducible repeat (first | refine blk_drewN ?_ _ | refine blk_drew ?_ | refine blk_alloc ?_ _)); refine blk_put (cs := #[.int .i64 0, .int .i64 1, .int .i64 1, .int .i64 0, .int .i64 0, .int .i64 0]) ?_ 4 _ rfl; (with_reducible repeat (first | refine blk_drewN ?_ _ | refine blk_drew ?_ | refine blk_alloc ?_ _)); refine blk_put (cs := #[.int .i64 0, .int .i64 1, .int .i64 1, .int .i64 0, .int .i64 0, .int .i64 0]) ?_ 3 _ rfl; (with_reducible repeat (first | refine blk_drewN ?_ _ | refine blk_drew ?_ | refine blk_alloc ?_ _)); refine blk_put (cs := #[.int .i64 0, .int .i64 1, .int .i64 0, .int .i64 0, .int .i64 0, .int .i64 0]) ?_ 2 _ rfl; (with_reducible repeat (first | refine blk_drewN ?_ _ | refine blk_drew ?_ | refine blk_alloc ?_ _)); refine blk_put (cs := #[.int .i64 0, .int .i64 0, .int .i64 0, .int .i64 0, .int .i64 0, .int .i64 0]) ?_ 1 _ rfl; (with_reducible repeat (first | refine blk_drewN ?_ _ | refine blk_drew ?_ | refine blk_alloc ?_ _)); refine blk_put (cs := #[.int .i64 0, .int .i64 0, .int .i64 0, .int .i64 0, .int .i64 0, .int .i64 0]) ?_ 0 _ rfl; (with_reducible repeat (first | refine blk_drewN ?_ _ | refine blk_drew ?_ | refine blk_alloc ?_ _)); exact BK187.out) hb); have n1_ := Am (below_step (by repeat (first | (with_reducible first | exact HB.out | apply ba | apply bn | apply bd | refine below_set ?_ GE187.out) | exact HB.out)) hb); have n2_ := Am (hbox); have n3_ := Am ((by rw [hg]; exact (below_size (by repeat (first | (with_reducible first | exact HB.out | apply ba | apply bn | apply bd | refine below_set ?_ GE187.out) | exact HB.out))) : w.heap.size ≤ gb188)); have n4_ := Am ((by rw [hg]; exact (below_size (by repeat (first | (with_reducible first | exact HB.out | apply ba | apply bn | apply bd | refine below_set ?_ GE187.out) | exact HB.out))) : w.heap.size ≤ gb188)); have n5_ := Am ((by rw [hg]; exact Nat.ne_of_lt (blk_lt (g := gb187) (o := .cells #[.int .i64 0, .int .i64 1, .int .i64 1, .int .i64 0, .int .i64 (-1), .int .i64 (-1)] 34 (0, 0)) (by (with_reducible repeat (first | refine blk_drewN ?_ _ | refine blk_drew ?_ | refine blk_alloc ?_ _)); refine blk_put (cs := #[.int .i64 0, .int .i64 1, .int .i64 1, .int .i64 0, .int .i64 (-1), .int .i64 0]) ?_ 5 _ rfl; (with_reducible repeat (first | refine blk_drewN ?_ _ | refine blk_drew ?_ | refine blk_alloc ?_ _)); refine blk_put (cs := #[.int .i64 0, .int .i64 1, .int .i64 1, .int .i64 0, .int .i64 0, .int .i64 0]) ?_ 4 _ rfl; (with_reducible repeat (first | refine blk_drewN ?_ _ | refine blk_drew ?_ | refine blk_alloc ?_ _)); refine blk_put (cs := #[.int .i64 0, .int .i64 1, .int .i64 1, .int .i64 0, .int .i64 0, .int .i64 0]) ?_ 3 _ rfl; (with_reducible repeat (first | refine blk_drewN ?_ _ | refine blk_drew ?_ | refine blk_alloc ?_ _)); refine blk_put (cs := #[.int .i64 0, .int .i64 1, .int .i64 0, .int .i64 0, .int .i64 0, .int .i64 0]) ?_ 2 _ rfl; (with_reducible repeat (first | refine blk_drewN ?_ _ | refine blk_drew ?_ | refine blk_alloc ?_ _)); refine blk_put (cs := #[.int .i64 0, .int .i64 0, .int .i64 0, .int .i64 0, .int .i64 0, .int .i64 0]) ?_ 1 _ rfl; (with_reducible repeat (first | refine blk_drewN ?_ _ | refine blk_drew ?_ | refine blk_alloc ?_ _)); refine blk_put (cs := #[.int .i64 0, .int .i64 0, .int .i64 0, .int .i64 0, .int .i64 0, .int .i64 0]) ?_ 0 _ rfl; (with_reducible repeat (first | refine blk_drewN ?_ _ | refine blk_drew ?_ | refine blk_alloc ?_ _)); exact BK187.out)) : gb187 ≠ gb188)); have n6_ := Am ((by rw [hg]; exact Nat.ne_of_gt (blk_lt (g := gb187) (o := .cells #[.int .i64 0, .int .i64 1, .int .i64 1, .int .i64 0, .int .i64 (-1), .int .i64 (-1)] 34 (0, 0)) (by (with_reducible repeat (first | refine blk_drewN ?_ _ | refine blk_drew ?_ | refine blk_alloc ?_ _)); refine blk_put (cs := #[.int .i64 0, .int .i64 1, .int .i64 1, .int .i64 0, .int .i64 (-1), .int .i64 0]) ?_ 5 _ rfl; (with_reducible repeat (first | refine blk_drewN ?_ _ | refine blk_drew ?_ | refine blk_alloc ?_ _)); refine blk_put (cs := #[.int .i64 0, .int .i64 1, .int .i64 1, .int .i64 0, .int .i64 0, .int .i64 0]) ?_ 4 _ rfl; (with_reducible repeat (first | refine blk_drewN ?_ _ | refine blk_drew ?_ | refine blk_alloc ?_ _)); refine blk_put (cs := #[.int .i64 0, .int .i64 1, .int .i64 1, .int .i64 0, .int .i64 0, .int .i64 0]) ?_ 3 _ rfl; (with_reducible repeat (first | refine blk_drewN ?_ _ | refine blk_drew ?_ | refine blk_alloc ?_ _)); refine blk_put (cs := #[.int .i64 0, .int .i64 1, .int .i64 0, .int .i64 0, .int .i64 0, .int .i64 0]) ?_ 2 _ rfl; (with_reducible repeat (first | refine blk_drewN ?_ _ | refine blk_drew ?_ | refine blk_alloc ?_ _)); refine blk_put (cs := #[.int .i64 0, .int .i64 0, .int .i64 0, .int .i64 0, .int .i64 0, .int .i64 0]) ?_ 1 _ rfl; (with_reducible repeat (first | refine blk_drewN ?_ _ | refine blk_drew ?_ | refine blk_alloc ?_ _)); refine blk_put (cs := #[.int .i64 0, .int .i64 0, .int .i64 0, .int .i64 0, .int .i64 0, .int .i64 0]) ?_ 0 _ rfl; (with_reducible repeat (first | refine blk_drewN ?_ _ | refine blk_drew ?_ | refine blk_alloc ?_ _)); exact BK187.out)) : gb188 ≠ gb187)); clear BK187; clear HB; have BK187 := n0_; have HB := n1_; have BK188 := n2_; have GW188 := n3_; have GE188 := n4_; have NB187_188 := n5_; have NB188_187 := n6_; clear n0_ n1_ n2_ n3_ n4_ n5_ n6_; clear hb hbox hg; have hnb4 := NB188_187.out; have hnc4 := NB187_188.out; have hcz5_0 : w3.cell? ⟨gb188, 0, none⟩ = some (.int .i64 0) := (blk_cell BK188.out 0).trans rfl; have hcz5_1 : w3.cell? ⟨gb188, 1, none⟩ = some (.int .i64 0) := (blk_cell BK188.out 1).trans rfl; have hcz5_2 : w3.cell? ⟨gb188, 2, none⟩ = some (.int .i64 0) := (blk_cell BK188.out 2).trans rfl; have hcz5_3 : w3.cell? ⟨gb188, 3, none⟩ = some (.int .i64 0) := (blk_cell BK188.out 3).trans rfl; have hcz5_4 : w3.cell? ⟨gb188, 4, none⟩ = some (.int .i64 0) := (blk_cell BK188.out 4).trans rfl; have hcz5_5 : w3.cell? ⟨gb188, 5, none⟩ = some (.int .i64 0) := (blk_cell BK188.out 5).trans rfl; have hfz5_0 := blk_frozen BK188.out 0; have hfz5_1 := blk_frozen BK188.out 1; have hfz5_2 := blk_frozen BK188.out 2; have hfz5_3 := blk_frozen BK188.out 3; have hfz5_4 := blk_frozen BK188.out 4; have hfz5_5 := blk_frozen BK188.out 5) | ((with_reducible refine gate_dst (N := 4) rfl ?_); refine box_event ?hg (N := 4) ?hd (cs := #[.int .i64 0, .int .i64 0, .int .i64 0, .int .i64 0, .int .i64 0, .int .i64 0]) (t := 34) ?hr ?_; (case hd => rfl); (case hg => rfl); (case hr => first | (go_simp; done) | (go_simp; rfl)); intro gb189 hg w6 hbox hb; have n0_ := Am (blk_below (g := gb187) (o := .cells #[.int .i64 0, .int .i64 1, .int .i64 1, .int .i64 0, .int .i64 (-1), .int .i64 (-1)] 34 (0, 0)) (by (with_reducible repeat (first | refine blk_drewN ?_ _ | refine blk_drew ?_ | refine blk_alloc ?_ _)); refine blk_far ?_ NB187_188.out _; (with_reducible repeat (first | refine blk_drewN ?_ _ | refine blk_drew ?_ | refine blk_alloc ?_ _)); refine blk_far ?_ NB187_188.out _; (with_reducible repeat (first | refine blk_drewN ?_ _ | refine blk_drew ?_ | refine blk_alloc ?_ _)); refine blk_far ?_ NB187_188.out _; (with_reducible repeat (first | refine blk_drewN ?_ _ | refine blk_drew ?_ | refine blk_alloc ?_ _)); refine blk_far ?_ NB187_188.out _; (with_reducible repeat (first | refine blk_drewN ?_ _ | refine blk_drew ?_ | refine blk_alloc ?_ _)); refine blk_far ?_ NB187_188.out _; (with_reducible repeat (first | refine blk_drewN ?_ _ | refine blk_drew ?_ | refine blk_alloc ?_ _)); refine blk_far ?_ NB187_188.out _; (with_reducible repeat (first | refine blk_drewN ?_ _ | refine blk_drew ?_ | refine blk_alloc ?_ _)); exact BK187.out) hb); have n1_ := Am (blk_below (g := gb188) (o := .cells #[.int .i64 1, .int .i64 0, .int .i64 2, .int .i64 0, .int .i64 (-1), .int .i64 (-1)] 34 (0, 0)) (by (with_reducible repeat (first | refine blk_drewN ?_ _ | refine blk_drew ?_ | refine blk_alloc ?_ _)); refine blk_put (cs := #[.int .i64 1, .int .i64 0, .int .i64 2, .int .i64 0, .int .i64 (-1), .int .i64 0]) ?_ 5 _ rfl; (with_reducible repeat (first | refine blk_drewN ?_ _ | refine blk_drew ?_ | refine blk_alloc ?_ _)); refine blk_put (cs := #[.int .i64 1, .int .i64 0, .int .i64 2, .int .i64 0, .int .i64 0, .int .i64 0]) ?_ 4 _ rfl; (with_reducible repeat (first | refine blk_drewN ?_ _ | refine blk_drew ?_ | refine blk_alloc ?_ _)); refine blk_put (cs := #[.int .i64 1, .int .i64 0, .int .i64 2, .int .i64 0, .int .i64 0, .int .i64 0]) ?_ 3 _ rfl; (with_reducible repeat (first | refine blk_drewN ?_ _ | refine blk_drew ?_ | refine blk_alloc ?_ _)); refine blk_put (cs := #[.int .i64 1, .int .i64 0, .int .i64 0, .int .i64 0, .int .i64 0, .int .i64 0]) ?_ 2 _ rfl; (with_reducible repeat (first | refine blk_drewN ?_ _ | refine blk_drew ?_ | refine blk_alloc ?_ _)); refine blk_put (cs := #[.int .i64 1, .int .i64 0, .int .i64 0, .int .i64 0, .int .i64 0, .int .i64 0]) ?_ 1 _ rfl; (with_reducible repeat (first | refine blk_drewN ?_ _ | refine blk_drew ?_ | refine blk_alloc ?_ _)); refine blk_put (cs := #[.int .i64 0, .int .i64 0, .int .i64 0, .int .i64 0, .int .i64 0, .int .i64 0]) ?_ 0 _ rfl; (with_reducible repeat (first | refine blk_drewN ?_ _ | refine blk_drew ?_ | refine blk_alloc ?_ _)); exact BK188.out) hb); have n2_ := Am (below_step (by repeat (first | (with_reducible first | exact HB.out | apply ba | apply bn | apply bd | refine below_set ?_ GE187.out | refine below_set ?_ GE188.out) | exact HB.out)) hb); have n3_ := Am (hbox); have n4_ := Am ((by rw [hg]; exact (below_size (by repeat (first | (with_reducible first | exact HB.out | apply ba | apply bn | apply bd | refine below_set ?_ GE187.out | refine below_set ?_ GE188.out) | exact HB.out))) : w.heap.size ≤ gb189)); have n5_ := Am ((by rw [hg]; exact (below_size (by repeat (first | (with_reducible first | exact HB.out | apply ba | apply bn | apply bd | refine below_set ?_ GE187.out | refine below_set ?_ GE188.out) | exact HB.out))) : w.heap.size ≤ gb189)); have n6_ := Am ((by rw [hg]; exact Nat.ne_of_lt (blk_lt (g := gb187) (o := .cells #[.int .i64 0, .int .i64 1, .int .i64 1, .int .i64 0, .int .i64 (-1), .int .i64 (-1)] 34 (0, 0)) (by (with_reducible repeat (first | refine blk_drewN ?_ _ | refine blk_drew ?_ | refine blk_alloc ?_ _)); refine blk_far ?_ NB187_188.out _; (with_reducible repeat (first | refine blk_drewN ?_ _ | refine blk_drew ?_ | refine blk_alloc ?_ _)); refine blk_far ?_ NB187_188.out _; (with_reducible repeat (first | refine blk_drewN ?_ _ | refine blk_drew ?_ | refine blk_alloc ?_ _)); refine blk_far ?_ NB187_188.out _; (with_reducible repeat (first | refine blk_drewN ?_ _ | refine blk_drew ?_ | refine blk_alloc ?_ _)); refine blk_far ?_ NB187_188.out _; (with_reducible repeat (first | refine blk_drewN ?_ _ | refine blk_drew ?_ | refine blk_alloc ?_ _)); refine blk_far ?_ NB187_188.out _; (with_reducible repeat (first | refine blk_drewN ?_ _ | refine blk_drew ?_ | refine blk_alloc ?_ _)); refine blk_far ?_ NB187_188.out _; (with_reducible repeat (first | refine blk_drewN ?_ _ | refine blk_drew ?_ | refine blk_alloc ?_ _)); exact BK187.out)) : gb187 ≠ gb189)); have n7_ := Am ((by rw [hg]; exact Nat.ne_of_gt (blk_lt (g := gb187) (o := .cells #[.int .i64 0, .int .i64 1, .int .i64 1, .int .i64 0, .int .i64 (-1), .int .i64 (-1)] 34 (0, 0)) (by (with_reducible repeat (first | refine blk_drewN ?_ _ | refine blk_drew ?_ | refine blk_alloc ?_ _)); refine blk_far ?_ NB187_188.out _; (with_reducible repeat (first | refine blk_drewN ?_ _ | refine blk_drew ?_ | refine blk_alloc ?_ _)); refine blk_far ?_ NB187_188.out _; (with_reducible repeat (first | refine blk_drewN ?_ _ | refine blk_drew ?_ | refine blk_alloc ?_ _)); refine blk_far ?_ NB187_188.out _; (with_reducible repeat (first | refine blk_drewN ?_ _ | refine blk_drew ?_ | refine blk_alloc ?_ _)); refine blk_far ?_ NB187_188.out _; (with_reducible repeat (first | refine blk_drewN ?_ _ | refine blk_drew ?_ | refine blk_alloc ?_ _)); refine blk_far ?_ NB187_188.out _; (with_reducible repeat (first | refine blk_drewN ?_ _ | refine blk_drew ?_ | refine blk_alloc ?_ _)); refine blk_far ?_ NB187_188.out _; (with_reducible repeat (first | refine blk_drewN ?_ _ | refine blk_drew ?_ | refine blk_alloc ?_ _)); exact BK187.out)) : gb189 ≠ gb187)); have n8_ := Am ((by rw [hg]; exact Nat.ne_of_lt (blk_lt (g := gb188) (o := .cells #[.int .i64 1, .int .i64 0, .int .i64 2, .int .i64 0, .int .i64 (-1), .int .i64 (-1)] 34 (0, 0)) (by (with_reducible repeat (first | refine blk_drewN ?_ _ | refine blk_drew ?_ | refine blk_alloc ?_ _)); refine blk_put (cs := #[.int .i64 1, .int .i64 0, .int .i64 2, .int .i64 0, .int .i64 (-1), .int .i64 0]) ?_ 5 _ rfl; (with_reducible repeat (first | refine blk_drewN ?_ _ | refine blk_drew ?_ | refine blk_alloc ?_ _)); refine blk_put (cs := #[.int .i64 1, .int .i64 0, .int .i64 2, .int .i64 0, .int .i64 0, .int .i64 0]) ?_ 4 _ rfl; (with_reducible repeat (first | refine blk_drewN ?_ _ | refine blk_drew ?_ | refine blk_alloc ?_ _)); refine blk_put (cs := #[.int .i64 1, .int .i64 0, .int .i64 2, .int .i64 0, .int .i64 0, .int .i64 0]) ?_ 3 _ rfl; (with_reducible repeat (first | refine blk_drewN ?_ _ | refine blk_drew ?_ | refine blk_alloc ?_ _)); refine blk_put (cs := #[.int .i64 1, .int .i64 0, .int .i64 0, .int .i64 0, .int .i64 0, .int .i64 0]) ?_ 2 _ rfl; (with_reducible repeat (first | refine blk_drewN ?_ _ | refine blk_drew ?_ | refine blk_alloc ?_ _)); refine blk_put (cs := #[.int .i64 1, .int .i64 0, .int .i64 0, .int .i64 0, .int .i64 0, .int .i64 0]) ?_ 1 _ rfl; (with_reducible repeat (first | refine blk_drewN ?_ _ | refine blk_drew ?_ | refine blk_alloc ?_ _)); refine blk_put (cs := #[.int .i64 0, .int .i64 0, .int .i64 0, .int .i64 0, .int .i64 0, .int .i64 0]) ?_ 0 _ rfl; (with_reducible repeat (first | refine blk_drewN ?_ _ | refine blk_drew ?_ | refine blk_alloc ?_ _)); exact BK188.out)) : gb188 ≠ gb189)); have n9_ := Am ((by rw [hg]; exact Nat.ne_of_gt (blk_lt (g := gb188) (o := .cells #[.int .i64 1, .int .i64 0, .int .i64 2, .int .i64 0, .int .i64 (-1), .int .i64 (-1)] 34 (0, 0)) (by (with_reducible repeat (first | refine blk_drewN ?_ _ | refine blk_drew ?_ | refine blk_alloc ?_ _)); refine blk_put (cs := #[.int .i64 1, .int .i64 0, .int .i64 2, .int .i64 0, .int .i64 (-1), .int .i64 0]) ?_ 5 _ rfl; (with_reducible repeat (first | refine blk_drewN ?_ _ | refine blk_drew ?_ | refine blk_alloc ?_ _)); refine blk_put (cs := #[.int .i64 1, .int .i64 0, .int .i64 2, .int .i64 0, .int .i64 0, .int .i64 0]) ?_ 4 _ rfl; (with_reducible repeat (first | refine blk_drewN ?_ _ | refine blk_drew ?_ | refine blk_alloc ?_ _)); refine blk_put (cs := #[.int .i64 1, .int .i64 0, .int .i64 2, .int .i64 0, .int .i64 0, .int .i64 0]) ?_ 3 _ rfl; (with_reducible repeat (first | refine blk_drewN ?_ _ | refine blk_drew ?_ | refine blk_alloc ?_ _)); refine blk_put (cs := #[.int .i64 1, .int .i64 0, .int .i64 0, .int .i64 0, .int .i64 0, .int .i64 0]) ?_ 2 _ rfl; (with_reducible repeat (first | refine blk_drewN ?_ _ | refine blk_drew ?_ | refine blk_alloc ?_ _)); refine blk_put (cs := #[.int .i64 1, .int .i64 0, .int .i64 0, .int .i64 0, .int .i64 0, .int .i64 0]) ?_ 1 _ rfl; (with_reducible repeat (first | refine blk_drewN ?_ _ | refine blk_drew ?_ | refine blk_alloc ?_ _)); refine blk_put (cs := #[.int .i64 0, .int .i64 0, .int .i64 0, .int .i64 0, .int .i64 0, .int .i64 0]) ?_ 0 _ rfl; (with_reducible repeat (first | refine blk_drewN ?_ _ | refine blk_drew ?_ | refine blk_alloc ?_ _)); exact BK188.out)) : gb189 ≠ gb188)); clear BK187; clear BK188; clear HB; have BK187 := n0_; have BK188 := n1_; have HB := n2_; have BK189 := n3_; have GW189 := n4_; have GE189 := n5_; have NB187_189 := n6_; have NB189_187 := n7_; have NB188_189 := n8_; have NB189_188 := n9_; clear n0_ n1_ n2_ n3_ n4_ n5_ n6_ n7_ n8_ n9_; clear hb hbox hg; have hnb7 := NB189_187.out; have hnc7 := NB187_189.out; have hnb8 := NB189_188.out; have hnc8 := NB188_189.out; have hcz9_0 : w6.cell? ⟨gb189, 0, none⟩ = some (.int .i64 0) := (blk_cell BK189.out 0).trans rfl; have hcz9_1 : w6.cell? ⟨gb189, 1, none⟩ = some (.int .i64 0) := (blk_cell BK189.out 1).trans rfl; have hcz9_2 : w6.cell? ⟨gb189, 2, none⟩ = some (.int .i64 0) := (blk_cell BK189.out 2).trans rfl; have hcz9_3 : w6.cell? ⟨gb189, 3, none⟩ = some (.int .i64 0) := (blk_cell BK189.out 3).trans rfl; have hcz9_4 : w6.cell? ⟨gb189, 4, none⟩ = some (.int .i64 0) := (blk_cell BK189.out 4).trans rfl; have hcz9_5 : w6.cell? ⟨gb189, 5, none⟩ = some (.int .i64 0) := (blk_cell BK189.out 5).trans rfl; have hfz9_0 := blk_frozen BK189.out 0; have hfz9_1 := blk_frozen BK189.out 1; have hfz9_2 := blk_frozen BK189.out 2; have hfz9_3 := blk_frozen BK189.out 3; have hfz9_4 := blk_frozen BK189.out 4; have hfz9_5 := blk_frozen BK189.out 5; have hcz10_0 : w6.cell? ⟨gb188, 0, none⟩ = some (.int .i64 1) := (blk_cell BK188.out 0).trans rfl; have hcz10_1 : w6.cell? ⟨gb188, 1, none⟩ = some (.int .i64 0) := (blk_cell BK188.out 1).trans rfl; have hcz10_2 : w6.cell? ⟨gb188, 2, none⟩ = some (.int .i64 2) := (blk_cell BK188.out 2).trans rfl; have hcz10_3 : w6.cell? ⟨gb188, 3, none⟩ = some (.int .i64 0) := (blk_cell BK188.out 3).trans rfl; have hcz10_4 : w6.cell? ⟨gb188, 4, none⟩ = some (.int .i64 (-1)) := (blk_cell BK188.out 4).trans rfl; have hcz10_5 : w6.cell? ⟨gb188, 5, none⟩ = some (.int .i64 (-1)) := (blk_cell BK188.out 5).trans rfl; have hfz10_0 := blk_frozen BK188.out 0; have hfz10_1 := blk_frozen BK188.out 1; have hfz10_2 := blk_frozen BK188.out 2; have hfz10_3 := blk_frozen BK188.out 3; have hfz10_4 := blk_frozen BK188.out 4; have hfz10_5 := blk_frozen BK188.out 5; have hcz11_0 : w6.cell? ⟨gb187, 0, none⟩ = some (.int .i64 0) := (blk_cell BK187.out 0).trans rfl; have hcz11_1 : w6.cell? ⟨gb187, 1, none⟩ = some (.int .i64 1) := (blk_cell BK187.out 1).trans rfl; have hcz11_2 : w6.cell? ⟨gb187, 2, none⟩ = some (.int .i64 1) := (blk_cell BK187.out 2).trans rfl; have hcz11_3 : w6.cell? ⟨gb187, 3, none⟩ = some (.int .i64 0) := (blk_cell BK187.out 3).trans rfl; have hcz11_4 : w6.cell? ⟨gb187, 4, none⟩ = some (.int .i64 (-1)) := (blk_cell BK187.out 4).trans rfl; have hcz11_5 : w6.cell? ⟨gb187, 5, none⟩ = some (.int .i64 (-1)) := (blk_cell BK187.out 5).trans rfl; have hfz11_0 := blk_frozen BK187.out 0; have hfz11_1 := blk_frozen BK187.out 1; have hfz11_2 := blk_frozen BK187.out 2; have hfz11_3 := blk_frozen BK187.out 3; have hfz11_4 := blk_frozen BK187.out 4; have hfz11_5 := blk_frozen BK187.out 5) | ((with_reducible refine gate_dst (N := 15) rfl ?_); refine Kd.R_lit k34 _ 34 ?hg (N := 15) ?hd (xs := ([(⟨0, 1, 1, 0, 1, 6⟩ : S34), (⟨0, 1, 1, 0, 2, 5⟩ : S34), (⟨2, 0, 1, 0, 3, 4⟩ : S34), (⟨1, 0, 2, 0, (-1), (-1)⟩ : S34), (⟨2, 0, 2, 0, (-1), (-1)⟩ : S34), (⟨0, 1, 1, 0, (-1), (-1)⟩ : S34), (⟨0, 1, 1, 0, (-1), (-1)⟩ : S34)] : List (S34))) (inner := [.int .i64 0, .int .i64 1, .int .i64 1, .int .i64 0, .int .i64 1, .int .i64 6, .int .i64 0, .int .i64 1, .int .i64 1, .int .i64 0, .int .i64 2, .int .i64 5, .int .i64 2, .int .i64 0, .int .i64 1, .int .i64 0, .int .i64 3, .int .i64 4, .int .i64 1, .int .i64 0, .int .i64 2, .int .i64 0, .int .i64 (-1), .int .i64 (-1), .int .i64 2, .int .i64 0, .int .i64 2, .int .i64 0, .int .i64 (-1), .int .i64 (-1), .int .i64 0, .int .i64 1, .int .i64 1, .int .i64 0, .int .i64 (-1), .int .i64 (-1), .int .i64 0, .int .i64 1, .int .i64 1, .int .i64 0, .int .i64 (-1), .int .i64 (-1)]) (ok := fun _ => True) (okp := fun _ => True) ?hr ?hp (fun _ hk => hk) trivial (Below.refl _ _) (Nat.le_refl _) (by simp) ?_; (case hd => rfl); (case hg => rfl); (case hr => first | (go_simp; done) | (go_simp; rfl)); (case hp => exact (Reps.c6 (show Kd.M k34 _ _ _ (⟨0, 1, 1, 0, 1, 6⟩ : S34) [.int .i64 0, .int .i64 1, .int .i64 1, .int .i64 0, .int .i64 1, .int .i64 6] from (k34_mkM _ _ _ (⟨0, 1, 1, 0, 1, 6⟩ : S34) )) (Reps.c6 (show Kd.M k34 _ _ _ (⟨0, 1, 1, 0, 2, 5⟩ : S34) [.int .i64 0, .int .i64 1, .int .i64 1, .int .i64 0, .int .i64 2, .int .i64 5] from (k34_mkM _ _ _ (⟨0, 1, 1, 0, 2, 5⟩ : S34) )) (Reps.c6 (show Kd.M k34 _ _ _ (⟨2, 0, 1, 0, 3, 4⟩ : S34) [.int .i64 2, .int .i64 0, .int .i64 1, .int .i64 0, .int .i64 3, .int .i64 4] from (k34_mkM _ _ _ (⟨2, 0, 1, 0, 3, 4⟩ : S34) )) (Reps.c6 (show Kd.M k34 _ _ _ (⟨1, 0, 2, 0, (-1), (-1)⟩ : S34) [.int .i64 1, .int .i64 0, .int .i64 2, .int .i64 0, .int .i64 (-1), .int .i64 (-1)] from (k34_mkM _ _ _ (⟨1, 0, 2, 0, (-1), (-1)⟩ : S34) )) (Reps.c6 (show Kd.M k34 _ _ _ (⟨2, 0, 2, 0, (-1), (-1)⟩ : S34) [.int .i64 2, .int .i64 0, .int .i64 2, .int .i64 0, .int .i64 (-1), .int .i64 (-1)] from (k34_mkM _ _ _ (⟨2, 0, 2, 0, (-1), (-1)⟩ : S34) )) (Reps.c6 (show Kd.M k34 _ _ _ (⟨0, 1, 1, 0, (-1), (-1)⟩ : S34) [.int .i64 0, .int .i64 1, .int .i64 1, .int .i64 0, .int .i64 (-1), .int .i64 (-1)] from (k34_mkM _ _ _ (⟨0, 1, 1, 0, (-1), (-1)⟩ : S34) )) (Reps.c6 (show Kd.M k34 _ _ _ (⟨0, 1, 1, 0, (-1), (-1)⟩ : S34) [.int .i64 0, .int .i64 1, .int .i64 1, .int .i64 0, .int .i64 (-1), .int .i64 (-1)] from (k34_mkM _ _ _ (⟨0, 1, 1, 0, (-1), (-1)⟩ : S34) )) (Reps.none _ _))))))))); intro v191 w12 ho13 hb hg_ hnew_; clear hg_ hnew_; (first | rw [← Ny190.out] at ho13 | (simp only [Int.reduceToNat] at ho13; rw [← Ny190.out] at ho13)); have n0_ := Am (Kd.R_lower (Kd.R_newB (Kd.R_newB (Kd.R_newB ho13 (g := gb187) (o := .cells #[.int .i64 0, .int .i64 1, .int .i64 1, .int .i64 0, .int .i64 (-1), .int .i64 (-1)] 34 (0, 0)) (by (with_reducible repeat (first | refine blk_drewN ?_ _ | refine blk_drew ?_ | refine blk_alloc ?_ _)); refine blk_far ?_ NB187_189.out _; (with_reducible repeat (first | refine blk_drewN ?_ _ | refine blk_drew ?_ | refine blk_alloc ?_ _)); refine blk_far ?_ NB187_189.out _; (with_reducible repeat (first | refine blk_drewN ?_ _ | refine blk_drew ?_ | refine blk_alloc ?_ _)); refine blk_far ?_ NB187_189.out _; (with_reducible repeat (first | refine blk_drewN ?_ _ | refine blk_drew ?_ | refine blk_alloc ?_ _)); refine blk_far ?_ NB187_189.out _; (with_reducible repeat (first | refine blk_drewN ?_ _ | refine blk_drew ?_ | refine blk_alloc ?_ _)); refine blk_far ?_ NB187_189.out _; (with_reducible repeat (first | refine blk_drewN ?_ _ | refine blk_drew ?_ | refine blk_alloc ?_ _)); refine blk_far ?_ NB187_189.out _; (with_reducible repeat (first | refine blk_drewN ?_ _ | refine blk_drew ?_ | refine blk_alloc ?_ _)); exact BK187.out)) (g := gb188) (o := .cells #[.int .i64 1, .int .i64 0, .int .i64 2, .int .i64 0, .int .i64 (-1), .int .i64 (-1)] 34 (0, 0)) (by (with_reducible repeat (first | refine blk_drewN ?_ _ | refine blk_drew ?_ | refine blk_alloc ?_ _)); refine blk_far ?_ NB188_189.out _; (with_reducible repeat (first | refine blk_drewN ?_ _ | refine blk_drew ?_ | refine blk_alloc ?_ _)); refine blk_far ?_ NB188_189.out _; (with_reducible repeat (first | refine blk_drewN ?_ _ | refine blk_drew ?_ | refine blk_alloc ?_ _)); refine blk_far ?_ NB188_189.out _; (with_reducible repeat (first | refine blk_drewN ?_ _ | refine blk_drew ?_ | refine blk_alloc ?_ _)); refine blk_far ?_ NB188_189.out _; (with_reducible repeat (first | refine blk_drewN ?_ _ | refine blk_drew ?_ | refine blk_alloc ?_ _)); refine blk_far ?_ NB188_189.out _; (with_reducible repeat (first | refine blk_drewN ?_ _ | refine blk_drew ?_ | refine blk_alloc ?_ _)); refine blk_far ?_ NB188_189.out _; (with_reducible repeat (first | refine blk_drewN ?_ _ | refine blk_drew ?_ | refine blk_alloc ?_ _)); exact BK188.out)) (g := gb189) (o := .cells #[.int .i64 2, .int .i64 0, .int .i64 2, .int .i64 0, .int .i64 (-1), .int .i64 (-1)] 34 (0, 0)) (by (with_reducible repeat (first | refine blk_drewN ?_ _ | refine blk_drew ?_ | refine blk_alloc ?_ _)); refine blk_put (cs := #[.int .i64 2, .int .i64 0, .int .i64 2, .int .i64 0, .int .i64 (-1), .int .i64 0]) ?_ 5 _ rfl; (with_reducible repeat (first | refine blk_drewN ?_ _ | refine blk_drew ?_ | refine blk_alloc ?_ _)); refine blk_put (cs := #[.int .i64 2, .int .i64 0, .int .i64 2, .int .i64 0, .int .i64 0, .int .i64 0]) ?_ 4 _ rfl; (with_reducible repeat (first | refine blk_drewN ?_ _ | refine blk_drew ?_ | refine blk_alloc ?_ _)); refine blk_put (cs := #[.int .i64 2, .int .i64 0, .int .i64 2, .int .i64 0, .int .i64 0, .int .i64 0]) ?_ 3 _ rfl; (with_reducible repeat (first | refine blk_drewN ?_ _ | refine blk_drew ?_ | refine blk_alloc ?_ _)); refine blk_put (cs := #[.int .i64 2, .int .i64 0, .int .i64 0, .int .i64 0, .int .i64 0, .int .i64 0]) ?_ 2 _ rfl; (with_reducible repeat (first | refine blk_drewN ?_ _ | refine blk_drew ?_ | refine blk_alloc ?_ _)); refine blk_put (cs := #[.int .i64 2, .int .i64 0, .int .i64 0, .int .i64 0, .int .i64 0, .int .i64 0]) ?_ 1 _ rfl; (with_reducible repeat (first | refine blk_drewN ?_ _ | refine blk_drew ?_ | refine blk_alloc ?_ _)); refine blk_put (cs := #[.int .i64 0, .int .i64 0, .int .i64 0, .int .i64 0, .int .i64 0, .int .i64 0]) ?_ 0 _ rfl; (with_reducible repeat (first | refine blk_drewN ?_ _ | refine blk_drew ?_ | refine blk_alloc ?_ _)); exact BK189.out)) (below_size (by repeat (first | (with_reducible first | exact HB.out | apply ba | apply bn | apply bd | refine below_set ?_ GE187.out | refine below_set ?_ GE188.out | refine below_set ?_ GE189.out) | exact HB.out)))); have n1_ := Am (blk_below (g := gb187) (o := .cells #[.int .i64 0, .int .i64 1, .int .i64 1, .int .i64 0, .int .i64 (-1), .int .i64 (-1)] 34 (0, 0)) (by (with_reducible repeat (first | refine blk_drewN ?_ _ | refine blk_drew ?_ | refine blk_alloc ?_ _)); refine blk_far ?_ NB187_189.out _; (with_reducible repeat (first | refine blk_drewN ?_ _ | refine blk_drew ?_ | refine blk_alloc ?_ _)); refine blk_far ?_ NB187_189.out _; (with_reducible repeat (first | refine blk_drewN ?_ _ | refine blk_drew ?_ | refine blk_alloc ?_ _)); refine blk_far ?_ NB187_189.out _; (with_reducible repeat (first | refine blk_drewN ?_ _ | refine blk_drew ?_ | refine blk_alloc ?_ _)); refine blk_far ?_ NB187_189.out _; (with_reducible repeat (first | refine blk_drewN ?_ _ | refine blk_drew ?_ | refine blk_alloc ?_ _)); refine blk_far ?_ NB187_189.out _; (with_reducible repeat (first | refine blk_drewN ?_ _ | refine blk_drew ?_ | refine blk_alloc ?_ _)); refine blk_far ?_ NB187_189.out _; (with_reducible repeat (first | refine blk_drewN ?_ _ | refine blk_drew ?_ | refine blk_alloc ?_ _)); exact BK187.out) hb); have n2_ := Am (blk_below (g := gb188) (o := .cells #[.int .i64 1, .int .i64 0, .int .i64 2, .int .i64 0, .int .i64 (-1), .int .i64 (-1)] 34 (0, 0)) (by (with_reducible repeat (first | refine blk_drewN ?_ _ | refine blk_drew ?_ | refine blk_alloc ?_ _)); refine blk_far ?_ NB188_189.out _; (with_reducible repeat (first | refine blk_drewN ?_ _ | refine blk_drew ?_ | refine blk_alloc ?_ _)); refine blk_far ?_ NB188_189.out _; (with_reducible repeat (first | refine blk_drewN ?_ _ | refine blk_drew ?_ | refine blk_alloc ?_ _)); refine blk_far ?_ NB188_189.out _; (with_reducible repeat (first | refine blk_drewN ?_ _ | refine blk_drew ?_ | refine blk_alloc ?_ _)); refine blk_far ?_ NB188_189.out _; (with_reducible repeat (first | refine blk_drewN ?_ _ | refine blk_drew ?_ | refine blk_alloc ?_ _)); refine blk_far ?_ NB188_189.out _; (with_reducible repeat (first | refine blk_drewN ?_ _ | refine blk_drew ?_ | refine blk_alloc ?_ _)); refine blk_far ?_ NB188_189.out _; (with_reducible repeat (first | refine blk_drewN ?_ _ | refine blk_drew ?_ | refine blk_alloc ?_ _)); exact BK188.out) hb); have n3_ := Am (blk_below (g := gb189) (o := .cells #[.int .i64 2, .int .i64 0, .int .i64 2, .int .i64 0, .int .i64 (-1), .int .i64 (-1)] 34 (0, 0)) (by (with_reducible repeat (first | refine blk_drewN ?_ _ | refine blk_drew ?_ | refine blk_alloc ?_ _)); refine blk_put (cs := #[.int .i64 2, .int .i64 0, .int .i64 2, .int .i64 0, .int .i64 (-1), .int .i64 0]) ?_ 5 _ rfl; (with_reducible repeat (first | refine blk_drewN ?_ _ | refine blk_drew ?_ | refine blk_alloc ?_ _)); refine blk_put (cs := #[.int .i64 2, .int .i64 0, .int .i64 2, .int .i64 0, .int .i64 0, .int .i64 0]) ?_ 4 _ rfl; (with_reducible repeat (first | refine blk_drewN ?_ _ | refine blk_drew ?_ | refine blk_alloc ?_ _)); refine blk_put (cs := #[.int .i64 2, .int .i64 0, .int .i64 2, .int .i64 0, .int .i64 0, .int .i64 0]) ?_ 3 _ rfl; (with_reducible repeat (first | refine blk_drewN ?_ _ | refine blk_drew ?_ | refine blk_alloc ?_ _)); refine blk_put (cs := #[.int .i64 2, .int .i64 0, .int .i64 0, .int .i64 0, .int .i64 0, .int .i64 0]) ?_ 2 _ rfl; (with_reducible repeat (first | refine blk_drewN ?_ _ | refine blk_drew ?_ | refine blk_alloc ?_ _)); refine blk_put (cs := #[.int .i64 2, .int .i64 0, .int .i64 0, .int .i64 0, .int .i64 0, .int .i64 0]) ?_ 1 _ rfl; (with_reducible repeat (first | refine blk_drewN ?_ _ | refine blk_drew ?_ | refine blk_alloc ?_ _)); refine blk_put (cs := #[.int .i64 0, .int .i64 0, .int .i64 0, .int .i64 0, .int .i64 0, .int .i64 0]) ?_ 0 _ rfl; (with_reducible repeat (first | refine blk_drewN ?_ _ | refine blk_drew ?_ | refine blk_alloc ?_ _)); exact BK189.out) hb); have n4_ := Am (below_step (by repeat (first | (with_reducible first | exact HB.out | apply ba | apply bn | apply bd | refine below_set ?_ GE187.out | refine below_set ?_ GE188.out | refine below_set ?_ GE189.out) | exact HB.out)) hb); clear BK187; clear BK188; clear BK189; clear HB; have HO192 := n0_; have BK187 := n1_; have BK188 := n2_; have BK189 := n3_; have HB := n4_; clear n0_ n1_ n2_ n3_ n4_; clear hb ho13))
 go_ret2
 exact ⟨_, by first | rfl | (simp [errW_none, errW_some] <;> rfl) | (simp [*, errW_none, errW_some] <;> rfl), by (with_reducible repeat (first | apply Kd.R_alloc | apply Kd.R_drewN | apply Kd.R_drew)); exact Kd.R_mono HO192.out (fun _ hk => trivial), by repeat (first | (with_reducible first | exact HB.out | apply ba | apply bn | apply bd | refine below_set ?_ GE187.out | refine below_set ?_ GE188.out | refine below_set ?_ GE189.out) | exact HB.out)⟩
def larchlaw18_awake.f (k : Nat)  : Option (Bool) := (larchlaw18_some.f).bind fun bt193 => ((steps_Do.f k bt193.1 bt193.2 11 false).bind fun bt197 => (if 3 < (bt193.1.length : Int) then ((some (bt193.1.set (3 : Int).toNat (⟨(rd_T34 bt193.1 3).f0, (rd_T34 bt193.1 3).f1, 1, (rd_T34 bt193.1 3).f3, (rd_T34 bt193.1 3).f4, (rd_T34 bt193.1 3).f5⟩ : S34) : List (S34))).bind fun y201 => (if 4 < (bt193.1.length : Int) then (if bt197.2 = 0 then ((larchref18_SameTable.f k bt197.1 (y201.set (4 : Int).toNat (⟨(rd_T34 y201 4).f0, (rd_T34 y201 4).f1, 1, (rd_T34 y201 4).f3, (rd_T34 y201 4).f4, (rd_T34 y201 4).f5⟩ : S34))).bind fun t203 => (some t203)) else (some false)) else (none))) else (none)))
theorem larchlaw18_awake.mono : ∀ k, LeO (larchlaw18_awake.f k ) (larchlaw18_awake.f (k + 1) ) := by
 intro  k
 unfold larchlaw18_awake.f
 repeat' first
   | (with_reducible exact larchref18_SameTable.mono _ _ _)
   | (with_reducible exact steps_Do.mono _ _ _ _ _)
   | (with_reducible exact LeO.refl _)
   | (with_reducible exact LeO.none _)
   | (with_reducible refine LeO.ite ?_ ?_)
   | (with_reducible refine LeO.bind ?_ (fun _ => ?_))
   | exact larchref18_SameTable.mono _ _ _
   | exact steps_Do.mono _ _ _ _ _
   | exact LeO.none _
   | refine LeO.ite ?_ ?_
   | refine LeO.bind ?_ (fun _ => ?_)
set_option maxHeartbeats 8000000 in
set_option maxRecDepth 100000 in
theorem larchlaw18_awake.calls (k : Nat)  (r : Bool) (w : World) (h : larchlaw18_awake.f k  = some r) :
  Calls Try.prog 10 #[] w fun e w' => e = .returned (.bool r) ∧ Below w.heap.size w w' := by
 have hu62 := Try.underlying62
 have HB := Am (Below.refl w.heap.size w)
 have H : ((larchlaw18_some.f).bind fun bt193 => ((steps_Do.f k bt193.1 bt193.2 11 false).bind fun bt197 => (if 3 < (bt193.1.length : Int) then ((some (bt193.1.set (3 : Int).toNat (⟨(rd_T34 bt193.1 3).f0, (rd_T34 bt193.1 3).f1, 1, (rd_T34 bt193.1 3).f3, (rd_T34 bt193.1 3).f4, (rd_T34 bt193.1 3).f5⟩ : S34) : List (S34))).bind fun y201 => (if 4 < (bt193.1.length : Int) then (if bt197.2 = 0 then ((larchref18_SameTable.f k bt197.1 (y201.set (4 : Int).toNat (⟨(rd_T34 y201 4).f0, (rd_T34 y201 4).f1, 1, (rd_T34 y201 4).f3, (rd_T34 y201 4).f4, (rd_T34 y201 4).f5⟩ : S34))).bind fun t203 => (some t203)) else (some false)) else (none))) else (none)))) = some r := h
 clear h
 replace H := Option.bind_eq_some_iff.mp H
 obtain ⟨⟨t193, t194⟩, A10, H⟩ := H
 replace H : ((steps_Do.f k t193 t194 11 false).bind fun bt197 => (if 3 < (t193.length : Int) then ((some (t193.set (3 : Int).toNat (⟨(rd_T34 t193 3).f0, (rd_T34 t193 3).f1, 1, (rd_T34 t193 3).f3, (rd_T34 t193 3).f4, (rd_T34 t193 3).f5⟩ : S34) : List (S34))).bind fun y201 => (if 4 < (t193.length : Int) then (if bt197.2 = 0 then ((larchref18_SameTable.f k bt197.1 (y201.set (4 : Int).toNat (⟨(rd_T34 y201 4).f0, (rd_T34 y201 4).f1, 1, (rd_T34 y201 4).f3, (rd_T34 y201 4).f4, (rd_T34 y201 4).f5⟩ : S34))).bind fun t203 => (some t203)) else (some false)) else (none))) else (none))) = some r := H
 have A1 := Am A10
 clear A10
 replace H := Option.bind_eq_some_iff.mp H
 obtain ⟨⟨t197, t200⟩, A20, H⟩ := H
 replace H : (if 3 < (t193.length : Int) then ((some (t193.set (3 : Int).toNat (⟨(rd_T34 t193 3).f0, (rd_T34 t193 3).f1, 1, (rd_T34 t193 3).f3, (rd_T34 t193 3).f4, (rd_T34 t193 3).f5⟩ : S34) : List (S34))).bind fun y201 => (if 4 < (t193.length : Int) then (if t200 = 0 then ((larchref18_SameTable.f k t197 (y201.set (4 : Int).toNat (⟨(rd_T34 y201 4).f0, (rd_T34 y201 4).f1, 1, (rd_T34 y201 4).f3, (rd_T34 y201 4).f4, (rd_T34 y201 4).f5⟩ : S34))).bind fun t203 => (some t203)) else (some false)) else (none))) else (none)) = some r := H
 have A2 := Am A20
 clear A20
 by_cases c3 : 3 < (t193.length : Int)
 ·rw [if_pos c3] at H
  have c3b0 : decide (3 < (t193.length : Int)) = true := decide_eq_true c3
  have c3b1 : decide (3 < t193.length) = true := decide_eq_true (by omega)
  clear c3
  obtain ⟨y201, hy201⟩ : ∃ y_ : List (S34), y_ = (t193.set (3 : Int).toNat (⟨(rd_T34 t193 3).f0, (rd_T34 t193 3).f1, 1, (rd_T34 t193 3).f3, (rd_T34 t193 3).f4, (rd_T34 t193 3).f5⟩ : S34)) := ⟨_, rfl⟩
  replace H : (if 4 < (t193.length : Int) then (if t200 = 0 then ((larchref18_SameTable.f k t197 (y201.set (4 : Int).toNat (⟨(rd_T34 y201 4).f0, (rd_T34 y201 4).f1, 1, (rd_T34 y201 4).f3, (rd_T34 y201 4).f4, (rd_T34 y201 4).f5⟩ : S34))).bind fun t203 => (some t203)) else (some false)) else (none)) = some r := by first | (rw [hy201]; with_reducible exact H) | (have H2_ := (Option.bind_some _ _).symm.trans H; rw [hy201]; with_reducible exact H2_) | (have H2_ := (Option.bind_some _ _).symm.trans H; with_reducible exact H2_) | with_reducible exact H | (rw [hy201]; exact H) | exact H
  have Ny201 := Am hy201
  clear hy201
  by_cases c5 : 4 < (t193.length : Int)
  ·rw [if_pos c5] at H
   have c5b0 : decide (4 < (t193.length : Int)) = true := decide_eq_true c5
   have c5b1 : decide (4 < t193.length) = true := decide_eq_true (by omega)
   clear c5
   obtain ⟨y202, hy202⟩ : ∃ y_ : List (S34), y_ = (y201.set (4 : Int).toNat (⟨(rd_T34 y201 4).f0, (rd_T34 y201 4).f1, 1, (rd_T34 y201 4).f3, (rd_T34 y201 4).f4, (rd_T34 y201 4).f5⟩ : S34)) := ⟨_, rfl⟩
   replace H : (if t200 = 0 then ((larchref18_SameTable.f k t197 y202).bind fun t203 => (some t203)) else (some false)) = some r := by first | (rw [hy202]; with_reducible exact H) | (have H2_ := (Option.bind_some _ _).symm.trans H; rw [hy202]; with_reducible exact H2_) | (have H2_ := (Option.bind_some _ _).symm.trans H; with_reducible exact H2_) | with_reducible exact H | (rw [hy202]; exact H) | exact H
   have Ny202 := Am hy202
   clear hy202
   by_cases c7 : t200 = 0
   ·rw [if_pos c7] at H
    have c7b0 : (t200 == 0) = true := beq_iff_eq.mpr c7
    have c7b1 : (t200 != 0) = false := bne_eq_false_iff_eq.mpr c7
    clear c7
    replace H := Option.bind_eq_some_iff.mp H
    obtain ⟨t203, A80, H⟩ := H
    replace H : (some t203) = some r := H
    have A8 := Am A80
    clear A80
    obtain rfl := Option.some.inj H
    go_enter Try.func10, Try.ntmps10
    go_wp2_with (first | ((with_reducible refine gate_callee (f := 40) rfl ?_); refine goesL_ (some 6) rfl rfl Try.func40 (by kernel_rfl) rfl #[] rfl (by (try simp only [List.map_toArray, List.map_cons, List.map_nil]); first | done | rfl | (simp only [List.length_drop, List.length_take]; rfl)) ?_; (with_reducible refine (larchlaw18_some.calls  t193 t194 _ A1.out).mono ?_); rintro e w9 ⟨v195, rfl, ho0, hb⟩; refine ⟨_, rfl, ?_⟩; have n0_ := Am (Kd.R_lower ho0 (below_size (by repeat (first | (with_reducible first | exact HB.out | apply ba | apply bn | apply bd) | exact HB.out)))); have n1_ := Am (below_step (by repeat (first | (with_reducible first | exact HB.out | apply ba | apply bn | apply bd) | exact HB.out)) hb); clear HB; have HO196 := n0_; have HB := n1_; clear n0_ n1_; (try clear hb); (try clear hb2); (try clear hk); (try clear hi); (try clear ho0); obtain ⟨Ao10, co10, eo10⟩ := Kd.R_slice HO196.out; subst eo10) | ((with_reducible refine gate_callee (f := 30) rfl ?_); refine goesL_ (some 13) rfl rfl Try.func30 (by kernel_rfl) rfl #[.slice Ao10 t193.length co10, .int .i64 t194, .agg #[.int .i64 11, .bool false]] rfl (by (try simp only [List.map_toArray, List.map_cons, List.map_nil]); first | done | rfl | (simp only [List.length_drop, List.length_take]; rfl)) ?_; (with_reducible refine (steps_Do.calls k _ _ t193 t194 11 false t197 t200 _ ?side1 ?side2 A2.out).mono ?_); (case side1 => repeat (first | exact (Kd.R_reads' HO196.out).2.2 | (with_reducible refine Kd.C_alloc ?_ _) | (with_reducible refine Kd.C_drewN ?_ _) | (with_reducible refine Kd.C_drew ?_))); (case side2 => exact (Kd.R_reads' HO196.out).2.1); rintro e w11 ⟨v198, rfl, ho0, hb⟩; refine ⟨_, rfl, ?_⟩; have n0_ := Am (Kd.R_elder' (by (with_reducible repeat (first | apply Kd.R_alloc | apply Kd.R_drewN | apply Kd.R_drew)); exact HO196.out) (Kd.R_base ho0) hb); have n1_ := Am (Kd.R_lower (Kd.R_new' ho0 (Kd.R_lt (by (with_reducible repeat (first | apply Kd.R_alloc | apply Kd.R_drewN | apply Kd.R_drew)); exact HO196.out))) (below_size (by repeat (first | (with_reducible first | exact HB.out | apply ba | apply bn | apply bd) | exact HB.out)))); have n2_ := Am (below_step (by repeat (first | (with_reducible first | exact HB.out | apply ba | apply bn | apply bd) | exact HB.out)) hb); clear HO196; clear HB; have HO196 := n0_; have HO199 := n1_; have HB := n2_; clear n0_ n1_ n2_; (try clear hb); (try clear hb2); (try clear hk); (try clear hi); (try clear ho0); have p4 : 0 ≤ (3 : Int) := (by omega); have q4 : (3 : Int) < ((t193.length : Int) : Int) := of_decide_eq_true (by first | (with_reducible assumption) | assumption); have qi4 : (3 < t193.length) = True := eq_true (by omega); obtain ⟨go4, co4, eo4, gb4, gl4, cl4, HG4⟩ := Kd.R_form HO196.out (by omega); (first | cases eo4 | (injection eo4 with ea_ en_ ec_; (first | subst ea_ | (injection ea_ with ea_; subst ea_)); subst ec_; clear en_)); have GB4 := Am gb4; have GG4 := Am HG4; clear gb4 gl4 HG4; obtain ⟨ce4, hcl4, hM4, hcc4, hfr4⟩ := Kd.R_elem HO196.out z34 (3 : Int) p4 q4; obtain rfl := k34_openM hM4; have hx4_0 : w11.cell? ⟨go4, (3 : Int).toNat * 6, none⟩ = some (.int .i64 ((rd_T34 t193 3).f0)) := hcc4 0 _ rfl; have hx4_1 : w11.cell? ⟨go4, (3 : Int).toNat * 6 + 1, none⟩ = some (.int .i64 ((rd_T34 t193 3).f1)) := hcc4 1 _ rfl; have hx4_2 : w11.cell? ⟨go4, (3 : Int).toNat * 6 + 2, none⟩ = some (.int .i64 ((rd_T34 t193 3).f2)) := hcc4 2 _ rfl; have hx4_3 : w11.cell? ⟨go4, (3 : Int).toNat * 6 + 3, none⟩ = some (.int .i64 ((rd_T34 t193 3).f3)) := hcc4 3 _ rfl; have hx4_4 : w11.cell? ⟨go4, (3 : Int).toNat * 6 + 4, none⟩ = some (.int .i64 ((rd_T34 t193 3).f4)) := hcc4 4 _ rfl; have hx4_5 : w11.cell? ⟨go4, (3 : Int).toNat * 6 + 5, none⟩ = some (.int .i64 ((rd_T34 t193 3).f5)) := hcc4 5 _ rfl; have hf4_0 : w11.frozen? ⟨go4, (3 : Int).toNat * 6, none⟩ = false := hfr4 0; have hf4_1 : w11.frozen? ⟨go4, (3 : Int).toNat * 6 + 1, none⟩ = false := hfr4 1; have hf4_2 : w11.frozen? ⟨go4, (3 : Int).toNat * 6 + 2, none⟩ = false := hfr4 2; have hf4_3 : w11.frozen? ⟨go4, (3 : Int).toNat * 6 + 3, none⟩ = false := hfr4 3; have hf4_4 : w11.frozen? ⟨go4, (3 : Int).toNat * 6 + 4, none⟩ = false := hfr4 4; have hf4_5 : w11.frozen? ⟨go4, (3 : Int).toNat * 6 + 5, none⟩ = false := hfr4 5; clear hcl4 hcc4 hfr4 hM4; (try rw [show ((3 : Int)).toNat = 3 from rfl] at hx4_0); (try simp only [Nat.reduceMul, Nat.zero_mul, Nat.zero_add, Nat.reduceAdd] at hx4_0); (try rw [show ((3 : Int)).toNat = 3 from rfl] at hf4_0); (try simp only [Nat.reduceMul, Nat.zero_mul, Nat.zero_add, Nat.reduceAdd] at hf4_0); (try rw [show ((3 : Int)).toNat = 3 from rfl] at hx4_1); (try simp only [Nat.reduceMul, Nat.zero_mul, Nat.zero_add, Nat.reduceAdd] at hx4_1); (try rw [show ((3 : Int)).toNat = 3 from rfl] at hf4_1); (try simp only [Nat.reduceMul, Nat.zero_mul, Nat.zero_add, Nat.reduceAdd] at hf4_1); (try rw [show ((3 : Int)).toNat = 3 from rfl] at hx4_2); (try simp only [Nat.reduceMul, Nat.zero_mul, Nat.zero_add, Nat.reduceAdd] at hx4_2); (try rw [show ((3 : Int)).toNat = 3 from rfl] at hf4_2); (try simp only [Nat.reduceMul, Nat.zero_mul, Nat.zero_add, Nat.reduceAdd] at hf4_2); (try rw [show ((3 : Int)).toNat = 3 from rfl] at hx4_3); (try simp only [Nat.reduceMul, Nat.zero_mul, Nat.zero_add, Nat.reduceAdd] at hx4_3); (try rw [show ((3 : Int)).toNat = 3 from rfl] at hf4_3); (try simp only [Nat.reduceMul, Nat.zero_mul, Nat.zero_add, Nat.reduceAdd] at hf4_3); (try rw [show ((3 : Int)).toNat = 3 from rfl] at hx4_4); (try simp only [Nat.reduceMul, Nat.zero_mul, Nat.zero_add, Nat.reduceAdd] at hx4_4); (try rw [show ((3 : Int)).toNat = 3 from rfl] at hf4_4); (try simp only [Nat.reduceMul, Nat.zero_mul, Nat.zero_add, Nat.reduceAdd] at hf4_4); (try rw [show ((3 : Int)).toNat = 3 from rfl] at hx4_5); (try simp only [Nat.reduceMul, Nat.zero_mul, Nat.zero_add, Nat.reduceAdd] at hx4_5); (try rw [show ((3 : Int)).toNat = 3 from rfl] at hf4_5); (try simp only [Nat.reduceMul, Nat.zero_mul, Nat.zero_add, Nat.reduceAdd] at hf4_5); replace p4 := eq_true p4; replace q4 := eq_true q4; have n_ := Am (Kd.R_mono (ok' := (fun k_ => some k_ ≠ (v198 : Value).ownBlock)) HO196.out (fun k_ hk => hk.2)); clear HO196; have HO196 := n_; clear n_; have HX12 := Am (show Kd.R k34 34 w11 w.heap.size (fun k_ => some k_ ≠ (v198 : Value).ownBlock) (.slice (some ⟨go4, 0, none⟩) t193.length co10) t193 from (by (with_reducible repeat (first | apply Kd.R_alloc | apply Kd.R_drewN | apply Kd.R_drew)); exact HO196.out)); obtain ⟨ce12, hcl12, hM12, hcc12, hfr12⟩ := Kd.R_elem HX12.out z34 (3 : Int) (by omega) (by have h_ : (3 : Int) < ((t193.length : Int) : Int) := of_decide_eq_true (by first | (with_reducible assumption) | assumption); first | exact h_ | (have e_ := (Kd.R_reads' HO196.out).1; omega) | simpa using h_); obtain rfl := k34_openM hM12; have HP12 := Kd.R_seg HX12.out (3 : Int) (by omega) (by have h_ : (3 : Int) < ((t193.length : Int) : Int) := of_decide_eq_true (by first | (with_reducible assumption) | assumption); first | exact h_ | (have e_ := (Kd.R_reads' HO196.out).1; omega) | simpa using h_) (seg := [.int .i64 1]) (j := 2) hcl12 hcc12 (show 3 ≤ 6 from by decide) (x' := (⟨(rd_T34 t193 3).f0, (rd_T34 t193 3).f1, 1, (rd_T34 t193 3).f3, (rd_T34 t193 3).f4, (rd_T34 t193 3).f5⟩ : S34)) (k34_mkM _ _ _ (⟨(rd_T34 t193 3).f0, (rd_T34 t193 3).f1, 1, (rd_T34 t193 3).f3, (rd_T34 t193 3).f4, (rd_T34 t193 3).f5⟩ : S34) ) (fun _ hk => hk); have hx12_2 := hcc12 2 _ rfl; (try simp only [show (k34).sz = 6 from rfl, Nat.mul_one, Nat.add_zero] at hx12_2); (try rw [show ((3 : Int)).toNat = 3 from rfl] at hx12_2); (try simp only [Nat.reduceMul, Nat.zero_mul, Nat.zero_add, Nat.reduceAdd] at hx12_2); have hf12_2 := hfr12 2; (try simp only [show (k34).sz = 6 from rfl, Nat.mul_one, Nat.add_zero] at hf12_2); (try rw [show ((3 : Int)).toNat = 3 from rfl] at hf12_2); (try simp only [Nat.reduceMul, Nat.zero_mul, Nat.zero_add, Nat.reduceAdd] at hf12_2); clear hcl12 hcc12 hfr12 hM12) | ((with_reducible refine gate_store (t := 3) (p := 18) rfl ?_); refine store_event (t := 3) (p := 18) (v := ?vo_w13) (w1 := (w11.setCell ⟨go4, 20, none⟩ (.int .i64 1))) ?hg ?ho ?hn ?hr ?_; (case ho => rfl); (case hg => rfl); (case hn => rfl); (case hr => first | (go_simp; done) | (go_simp; rfl)); intro w13 hw; have hg : w11.grownBy w13 (some go4) := (by rw [hw]; exact HP12.2); have hp_ : Kd.R k34 34 w13 w.heap.size (fun k_ => some k_ ≠ (v198 : Value).ownBlock) (.slice (some ⟨go4, 0, none⟩) t193.length co10) y201 := (by rw [hw, Ny201.out]; exact HP12.1); clear HP12; have n0_ := Am (hp_); have n1_ := Am (Kd.R_after (v := (.slice (some ⟨go4, 0, none⟩) t193.length co10)) (v1 := (.slice (some ⟨go4, 0, none⟩) t193.length co10)) (ok := (fun _ => True)) (by (with_reducible repeat (first | apply Kd.R_alloc | apply Kd.R_drewN | apply Kd.R_drew)); exact HO199.out) hg (.inl rfl)); have n2_ := Am ((by rw [hw]; exact below_set (HB.out) GB4.out : Below w.heap.size w w13)); clear HO196; clear HO199; clear HB; have HO196 := n0_; have HO199 := n1_; have HB := n2_; clear n0_ n1_ n2_; clear hg hw hp_; have p6 : 0 ≤ (4 : Int) := (by omega); have q6 : (4 : Int) < ((t193.length : Int) : Int) := of_decide_eq_true (by first | (with_reducible assumption) | assumption); have qi6 : (4 < t193.length) = True := eq_true (by omega); obtain ⟨ce6, hcl6, hM6, hcc6, hfr6⟩ := Kd.R_elem HO196.out z34 (4 : Int) p6 q6; obtain rfl := k34_openM hM6; have hx6_0 : w13.cell? ⟨go4, (4 : Int).toNat * 6, none⟩ = some (.int .i64 ((rd_T34 y201 4).f0)) := hcc6 0 _ rfl; have hx6_1 : w13.cell? ⟨go4, (4 : Int).toNat * 6 + 1, none⟩ = some (.int .i64 ((rd_T34 y201 4).f1)) := hcc6 1 _ rfl; have hx6_2 : w13.cell? ⟨go4, (4 : Int).toNat * 6 + 2, none⟩ = some (.int .i64 ((rd_T34 y201 4).f2)) := hcc6 2 _ rfl; have hx6_3 : w13.cell? ⟨go4, (4 : Int).toNat * 6 + 3, none⟩ = some (.int .i64 ((rd_T34 y201 4).f3)) := hcc6 3 _ rfl; have hx6_4 : w13.cell? ⟨go4, (4 : Int).toNat * 6 + 4, none⟩ = some (.int .i64 ((rd_T34 y201 4).f4)) := hcc6 4 _ rfl; have hx6_5 : w13.cell? ⟨go4, (4 : Int).toNat * 6 + 5, none⟩ = some (.int .i64 ((rd_T34 y201 4).f5)) := hcc6 5 _ rfl; have hf6_0 : w13.frozen? ⟨go4, (4 : Int).toNat * 6, none⟩ = false := hfr6 0; have hf6_1 : w13.frozen? ⟨go4, (4 : Int).toNat * 6 + 1, none⟩ = false := hfr6 1; have hf6_2 : w13.frozen? ⟨go4, (4 : Int).toNat * 6 + 2, none⟩ = false := hfr6 2; have hf6_3 : w13.frozen? ⟨go4, (4 : Int).toNat * 6 + 3, none⟩ = false := hfr6 3; have hf6_4 : w13.frozen? ⟨go4, (4 : Int).toNat * 6 + 4, none⟩ = false := hfr6 4; have hf6_5 : w13.frozen? ⟨go4, (4 : Int).toNat * 6 + 5, none⟩ = false := hfr6 5; clear hcl6 hcc6 hfr6 hM6; (try rw [show ((4 : Int)).toNat = 4 from rfl] at hx6_0); (try simp only [Nat.reduceMul, Nat.zero_mul, Nat.zero_add, Nat.reduceAdd] at hx6_0); (try rw [show ((4 : Int)).toNat = 4 from rfl] at hf6_0); (try simp only [Nat.reduceMul, Nat.zero_mul, Nat.zero_add, Nat.reduceAdd] at hf6_0); (try rw [show ((4 : Int)).toNat = 4 from rfl] at hx6_1); (try simp only [Nat.reduceMul, Nat.zero_mul, Nat.zero_add, Nat.reduceAdd] at hx6_1); (try rw [show ((4 : Int)).toNat = 4 from rfl] at hf6_1); (try simp only [Nat.reduceMul, Nat.zero_mul, Nat.zero_add, Nat.reduceAdd] at hf6_1); (try rw [show ((4 : Int)).toNat = 4 from rfl] at hx6_2); (try simp only [Nat.reduceMul, Nat.zero_mul, Nat.zero_add, Nat.reduceAdd] at hx6_2); (try rw [show ((4 : Int)).toNat = 4 from rfl] at hf6_2); (try simp only [Nat.reduceMul, Nat.zero_mul, Nat.zero_add, Nat.reduceAdd] at hf6_2); (try rw [show ((4 : Int)).toNat = 4 from rfl] at hx6_3); (try simp only [Nat.reduceMul, Nat.zero_mul, Nat.zero_add, Nat.reduceAdd] at hx6_3); (try rw [show ((4 : Int)).toNat = 4 from rfl] at hf6_3); (try simp only [Nat.reduceMul, Nat.zero_mul, Nat.zero_add, Nat.reduceAdd] at hf6_3); (try rw [show ((4 : Int)).toNat = 4 from rfl] at hx6_4); (try simp only [Nat.reduceMul, Nat.zero_mul, Nat.zero_add, Nat.reduceAdd] at hx6_4); (try rw [show ((4 : Int)).toNat = 4 from rfl] at hf6_4); (try simp only [Nat.reduceMul, Nat.zero_mul, Nat.zero_add, Nat.reduceAdd] at hf6_4); (try rw [show ((4 : Int)).toNat = 4 from rfl] at hx6_5); (try simp only [Nat.reduceMul, Nat.zero_mul, Nat.zero_add, Nat.reduceAdd] at hx6_5); (try rw [show ((4 : Int)).toNat = 4 from rfl] at hf6_5); (try simp only [Nat.reduceMul, Nat.zero_mul, Nat.zero_add, Nat.reduceAdd] at hf6_5); replace p6 := eq_true p6; replace q6 := eq_true q6; have HX14 := Am (show Kd.R k34 34 w13 w.heap.size (fun k_ => some k_ ≠ (v198 : Value).ownBlock) (.slice (some ⟨go4, 0, none⟩) t193.length co10) y201 from (by (with_reducible repeat (first | apply Kd.R_alloc | apply Kd.R_drewN | apply Kd.R_drew)); exact HO196.out)); obtain ⟨ce14, hcl14, hM14, hcc14, hfr14⟩ := Kd.R_elem HX14.out z34 (4 : Int) (by omega) (by have h_ : (4 : Int) < ((t193.length : Int) : Int) := of_decide_eq_true (by first | (with_reducible assumption) | assumption); first | exact h_ | (have e_ := (Kd.R_reads' HO196.out).1; omega) | simpa using h_); obtain rfl := k34_openM hM14; have HP14 := Kd.R_seg HX14.out (4 : Int) (by omega) (by have h_ : (4 : Int) < ((t193.length : Int) : Int) := of_decide_eq_true (by first | (with_reducible assumption) | assumption); first | exact h_ | (have e_ := (Kd.R_reads' HO196.out).1; omega) | simpa using h_) (seg := [.int .i64 1]) (j := 2) hcl14 hcc14 (show 3 ≤ 6 from by decide) (x' := (⟨(rd_T34 y201 4).f0, (rd_T34 y201 4).f1, 1, (rd_T34 y201 4).f3, (rd_T34 y201 4).f4, (rd_T34 y201 4).f5⟩ : S34)) (k34_mkM _ _ _ (⟨(rd_T34 y201 4).f0, (rd_T34 y201 4).f1, 1, (rd_T34 y201 4).f3, (rd_T34 y201 4).f4, (rd_T34 y201 4).f5⟩ : S34) ) (fun _ hk => hk); have hx14_2 := hcc14 2 _ rfl; (try simp only [show (k34).sz = 6 from rfl, Nat.mul_one, Nat.add_zero] at hx14_2); (try rw [show ((4 : Int)).toNat = 4 from rfl] at hx14_2); (try simp only [Nat.reduceMul, Nat.zero_mul, Nat.zero_add, Nat.reduceAdd] at hx14_2); have hf14_2 := hfr14 2; (try simp only [show (k34).sz = 6 from rfl, Nat.mul_one, Nat.add_zero] at hf14_2); (try rw [show ((4 : Int)).toNat = 4 from rfl] at hf14_2); (try simp only [Nat.reduceMul, Nat.zero_mul, Nat.zero_add, Nat.reduceAdd] at hf14_2); clear hcl14 hcc14 hfr14 hM14) | ((with_reducible refine gate_store (t := 3) (p := 21) rfl ?_); refine store_event (t := 3) (p := 21) (v := ?vo_w15) (w1 := (w13.setCell ⟨go4, 26, none⟩ (.int .i64 1))) ?hg ?ho ?hn ?hr ?_; (case ho => rfl); (case hg => rfl); (case hn => rfl); (case hr => first | (go_simp; done) | (go_simp; rfl)); intro w15 hw; have hg : w13.grownBy w15 (some go4) := (by rw [hw]; exact HP14.2); have hp_ : Kd.R k34 34 w15 w.heap.size (fun k_ => some k_ ≠ (v198 : Value).ownBlock) (.slice (some ⟨go4, 0, none⟩) t193.length co10) y202 := (by rw [hw, Ny202.out]; exact HP14.1); clear HP14; have n0_ := Am (hp_); have n1_ := Am (Kd.R_after (v := (.slice (some ⟨go4, 0, none⟩) t193.length co10)) (v1 := (.slice (some ⟨go4, 0, none⟩) t193.length co10)) (ok := (fun _ => True)) (by (with_reducible repeat (first | apply Kd.R_alloc | apply Kd.R_drewN | apply Kd.R_drew)); exact HO199.out) hg (.inl rfl)); have n2_ := Am ((by rw [hw]; exact below_set (HB.out) GB4.out : Below w.heap.size w w15)); clear HO196; clear HO199; clear HB; have HO196 := n0_; have HO199 := n1_; have HB := n2_; clear n0_ n1_ n2_; clear hg hw hp_; obtain ⟨Ao16, co16, eo16⟩ := Kd.R_slice HO199.out; subst eo16) | (go_at_call 23; refine calls_of_args (args' := #[.slice Ao16 t197.length co16, .slice (some ⟨go4, 0, none⟩) y202.length co10]) (by first | (rw [show y202.length = t193.length from (Kd.R_reads' HO196.out).1.symm] <;> rfl) | rfl) ?_; (with_reducible refine (larchref18_SameTable.calls k _ _ t197 _ _ y202 t203 _ ?side1 ?side2 ?side3 ?side4 A8.out).mono ?_); (case side1 => repeat (first | exact (Kd.R_reads' HO199.out).2.2 | (with_reducible refine Kd.C_alloc ?_ _) | (with_reducible refine Kd.C_drewN ?_ _) | (with_reducible refine Kd.C_drew ?_))); (case side2 => exact (Kd.R_reads' HO199.out).2.1); (case side3 => repeat (first | exact (Kd.R_reads' HO196.out).2.2 | (with_reducible refine Kd.C_alloc ?_ _) | (with_reducible refine Kd.C_drewN ?_ _) | (with_reducible refine Kd.C_drew ?_))); (case side4 => rw [show y202.length = t193.length from (Kd.R_reads' HO196.out).1.symm]; exact (Kd.R_reads' HO196.out).2.1); rintro e w' ⟨rfl, ⟨nd, rfl⟩⟩))
    go_ret
    exact ⟨by first | rfl | (simp [errW_none, errW_some] <;> rfl) | (simp [*, errW_none, errW_some] <;> rfl), by repeat (first | (with_reducible first | exact HB.out | apply ba | apply bn | apply bd) | exact HB.out)⟩
   ·rw [if_neg c7] at H
    have c7b0 : (t200 == 0) = false := beq_eq_false_iff_ne.mpr c7
    have c7b1 : (t200 != 0) = true := bne_iff_ne.mpr c7
    obtain rfl := Option.some.inj H
    go_enter Try.func10, Try.ntmps10
    go_wp2_with (first | ((with_reducible refine gate_callee (f := 40) rfl ?_); refine goesL_ (some 6) rfl rfl Try.func40 (by kernel_rfl) rfl #[] rfl (by (try simp only [List.map_toArray, List.map_cons, List.map_nil]); first | done | rfl | (simp only [List.length_drop, List.length_take]; rfl)) ?_; (with_reducible refine (larchlaw18_some.calls  t193 t194 _ A1.out).mono ?_); rintro e w17 ⟨v195, rfl, ho0, hb⟩; refine ⟨_, rfl, ?_⟩; have n0_ := Am (Kd.R_lower ho0 (below_size (by repeat (first | (with_reducible first | exact HB.out | apply ba | apply bn | apply bd) | exact HB.out)))); have n1_ := Am (below_step (by repeat (first | (with_reducible first | exact HB.out | apply ba | apply bn | apply bd) | exact HB.out)) hb); clear HB; have HO196 := n0_; have HB := n1_; clear n0_ n1_; (try clear hb); (try clear hb2); (try clear hk); (try clear hi); (try clear ho0); obtain ⟨Ao18, co18, eo18⟩ := Kd.R_slice HO196.out; subst eo18) | ((with_reducible refine gate_callee (f := 30) rfl ?_); refine goesL_ (some 13) rfl rfl Try.func30 (by kernel_rfl) rfl #[.slice Ao18 t193.length co18, .int .i64 t194, .agg #[.int .i64 11, .bool false]] rfl (by (try simp only [List.map_toArray, List.map_cons, List.map_nil]); first | done | rfl | (simp only [List.length_drop, List.length_take]; rfl)) ?_; (with_reducible refine (steps_Do.calls k _ _ t193 t194 11 false t197 t200 _ ?side1 ?side2 A2.out).mono ?_); (case side1 => repeat (first | exact (Kd.R_reads' HO196.out).2.2 | (with_reducible refine Kd.C_alloc ?_ _) | (with_reducible refine Kd.C_drewN ?_ _) | (with_reducible refine Kd.C_drew ?_))); (case side2 => exact (Kd.R_reads' HO196.out).2.1); rintro e w19 ⟨v198, rfl, ho0, hb⟩; refine ⟨_, rfl, ?_⟩; have n0_ := Am (Kd.R_elder' (by (with_reducible repeat (first | apply Kd.R_alloc | apply Kd.R_drewN | apply Kd.R_drew)); exact HO196.out) (Kd.R_base ho0) hb); have n1_ := Am (Kd.R_lower (Kd.R_new' ho0 (Kd.R_lt (by (with_reducible repeat (first | apply Kd.R_alloc | apply Kd.R_drewN | apply Kd.R_drew)); exact HO196.out))) (below_size (by repeat (first | (with_reducible first | exact HB.out | apply ba | apply bn | apply bd) | exact HB.out)))); have n2_ := Am (below_step (by repeat (first | (with_reducible first | exact HB.out | apply ba | apply bn | apply bd) | exact HB.out)) hb); clear HO196; clear HB; have HO196 := n0_; have HO199 := n1_; have HB := n2_; clear n0_ n1_ n2_; (try clear hb); (try clear hb2); (try clear hk); (try clear hi); (try clear ho0); have p4 : 0 ≤ (3 : Int) := (by omega); have q4 : (3 : Int) < ((t193.length : Int) : Int) := of_decide_eq_true (by first | (with_reducible assumption) | assumption); have qi4 : (3 < t193.length) = True := eq_true (by omega); obtain ⟨go4, co4, eo4, gb4, gl4, cl4, HG4⟩ := Kd.R_form HO196.out (by omega); (first | cases eo4 | (injection eo4 with ea_ en_ ec_; (first | subst ea_ | (injection ea_ with ea_; subst ea_)); subst ec_; clear en_)); have GB4 := Am gb4; have GG4 := Am HG4; clear gb4 gl4 HG4; obtain ⟨ce4, hcl4, hM4, hcc4, hfr4⟩ := Kd.R_elem HO196.out z34 (3 : Int) p4 q4; obtain rfl := k34_openM hM4; have hx4_0 : w19.cell? ⟨go4, (3 : Int).toNat * 6, none⟩ = some (.int .i64 ((rd_T34 t193 3).f0)) := hcc4 0 _ rfl; have hx4_1 : w19.cell? ⟨go4, (3 : Int).toNat * 6 + 1, none⟩ = some (.int .i64 ((rd_T34 t193 3).f1)) := hcc4 1 _ rfl; have hx4_2 : w19.cell? ⟨go4, (3 : Int).toNat * 6 + 2, none⟩ = some (.int .i64 ((rd_T34 t193 3).f2)) := hcc4 2 _ rfl; have hx4_3 : w19.cell? ⟨go4, (3 : Int).toNat * 6 + 3, none⟩ = some (.int .i64 ((rd_T34 t193 3).f3)) := hcc4 3 _ rfl; have hx4_4 : w19.cell? ⟨go4, (3 : Int).toNat * 6 + 4, none⟩ = some (.int .i64 ((rd_T34 t193 3).f4)) := hcc4 4 _ rfl; have hx4_5 : w19.cell? ⟨go4, (3 : Int).toNat * 6 + 5, none⟩ = some (.int .i64 ((rd_T34 t193 3).f5)) := hcc4 5 _ rfl; have hf4_0 : w19.frozen? ⟨go4, (3 : Int).toNat * 6, none⟩ = false := hfr4 0; have hf4_1 : w19.frozen? ⟨go4, (3 : Int).toNat * 6 + 1, none⟩ = false := hfr4 1; have hf4_2 : w19.frozen? ⟨go4, (3 : Int).toNat * 6 + 2, none⟩ = false := hfr4 2; have hf4_3 : w19.frozen? ⟨go4, (3 : Int).toNat * 6 + 3, none⟩ = false := hfr4 3; have hf4_4 : w19.frozen? ⟨go4, (3 : Int).toNat * 6 + 4, none⟩ = false := hfr4 4; have hf4_5 : w19.frozen? ⟨go4, (3 : Int).toNat * 6 + 5, none⟩ = false := hfr4 5; clear hcl4 hcc4 hfr4 hM4; (try rw [show ((3 : Int)).toNat = 3 from rfl] at hx4_0); (try simp only [Nat.reduceMul, Nat.zero_mul, Nat.zero_add, Nat.reduceAdd] at hx4_0); (try rw [show ((3 : Int)).toNat = 3 from rfl] at hf4_0); (try simp only [Nat.reduceMul, Nat.zero_mul, Nat.zero_add, Nat.reduceAdd] at hf4_0); (try rw [show ((3 : Int)).toNat = 3 from rfl] at hx4_1); (try simp only [Nat.reduceMul, Nat.zero_mul, Nat.zero_add, Nat.reduceAdd] at hx4_1); (try rw [show ((3 : Int)).toNat = 3 from rfl] at hf4_1); (try simp only [Nat.reduceMul, Nat.zero_mul, Nat.zero_add, Nat.reduceAdd] at hf4_1); (try rw [show ((3 : Int)).toNat = 3 from rfl] at hx4_2); (try simp only [Nat.reduceMul, Nat.zero_mul, Nat.zero_add, Nat.reduceAdd] at hx4_2); (try rw [show ((3 : Int)).toNat = 3 from rfl] at hf4_2); (try simp only [Nat.reduceMul, Nat.zero_mul, Nat.zero_add, Nat.reduceAdd] at hf4_2); (try rw [show ((3 : Int)).toNat = 3 from rfl] at hx4_3); (try simp only [Nat.reduceMul, Nat.zero_mul, Nat.zero_add, Nat.reduceAdd] at hx4_3); (try rw [show ((3 : Int)).toNat = 3 from rfl] at hf4_3); (try simp only [Nat.reduceMul, Nat.zero_mul, Nat.zero_add, Nat.reduceAdd] at hf4_3); (try rw [show ((3 : Int)).toNat = 3 from rfl] at hx4_4); (try simp only [Nat.reduceMul, Nat.zero_mul, Nat.zero_add, Nat.reduceAdd] at hx4_4); (try rw [show ((3 : Int)).toNat = 3 from rfl] at hf4_4); (try simp only [Nat.reduceMul, Nat.zero_mul, Nat.zero_add, Nat.reduceAdd] at hf4_4); (try rw [show ((3 : Int)).toNat = 3 from rfl] at hx4_5); (try simp only [Nat.reduceMul, Nat.zero_mul, Nat.zero_add, Nat.reduceAdd] at hx4_5); (try rw [show ((3 : Int)).toNat = 3 from rfl] at hf4_5); (try simp only [Nat.reduceMul, Nat.zero_mul, Nat.zero_add, Nat.reduceAdd] at hf4_5); replace p4 := eq_true p4; replace q4 := eq_true q4; have n_ := Am (Kd.R_mono (ok' := (fun k_ => some k_ ≠ (v198 : Value).ownBlock)) HO196.out (fun k_ hk => hk.2)); clear HO196; have HO196 := n_; clear n_; have HX20 := Am (show Kd.R k34 34 w19 w.heap.size (fun k_ => some k_ ≠ (v198 : Value).ownBlock) (.slice (some ⟨go4, 0, none⟩) t193.length co18) t193 from (by (with_reducible repeat (first | apply Kd.R_alloc | apply Kd.R_drewN | apply Kd.R_drew)); exact HO196.out)); obtain ⟨ce20, hcl20, hM20, hcc20, hfr20⟩ := Kd.R_elem HX20.out z34 (3 : Int) (by omega) (by have h_ : (3 : Int) < ((t193.length : Int) : Int) := of_decide_eq_true (by first | (with_reducible assumption) | assumption); first | exact h_ | (have e_ := (Kd.R_reads' HO196.out).1; omega) | simpa using h_); obtain rfl := k34_openM hM20; have HP20 := Kd.R_seg HX20.out (3 : Int) (by omega) (by have h_ : (3 : Int) < ((t193.length : Int) : Int) := of_decide_eq_true (by first | (with_reducible assumption) | assumption); first | exact h_ | (have e_ := (Kd.R_reads' HO196.out).1; omega) | simpa using h_) (seg := [.int .i64 1]) (j := 2) hcl20 hcc20 (show 3 ≤ 6 from by decide) (x' := (⟨(rd_T34 t193 3).f0, (rd_T34 t193 3).f1, 1, (rd_T34 t193 3).f3, (rd_T34 t193 3).f4, (rd_T34 t193 3).f5⟩ : S34)) (k34_mkM _ _ _ (⟨(rd_T34 t193 3).f0, (rd_T34 t193 3).f1, 1, (rd_T34 t193 3).f3, (rd_T34 t193 3).f4, (rd_T34 t193 3).f5⟩ : S34) ) (fun _ hk => hk); have hx20_2 := hcc20 2 _ rfl; (try simp only [show (k34).sz = 6 from rfl, Nat.mul_one, Nat.add_zero] at hx20_2); (try rw [show ((3 : Int)).toNat = 3 from rfl] at hx20_2); (try simp only [Nat.reduceMul, Nat.zero_mul, Nat.zero_add, Nat.reduceAdd] at hx20_2); have hf20_2 := hfr20 2; (try simp only [show (k34).sz = 6 from rfl, Nat.mul_one, Nat.add_zero] at hf20_2); (try rw [show ((3 : Int)).toNat = 3 from rfl] at hf20_2); (try simp only [Nat.reduceMul, Nat.zero_mul, Nat.zero_add, Nat.reduceAdd] at hf20_2); clear hcl20 hcc20 hfr20 hM20) | ((with_reducible refine gate_store (t := 3) (p := 18) rfl ?_); refine store_event (t := 3) (p := 18) (v := ?vo_w21) (w1 := (w19.setCell ⟨go4, 20, none⟩ (.int .i64 1))) ?hg ?ho ?hn ?hr ?_; (case ho => rfl); (case hg => rfl); (case hn => rfl); (case hr => first | (go_simp; done) | (go_simp; rfl)); intro w21 hw; have hg : w19.grownBy w21 (some go4) := (by rw [hw]; exact HP20.2); have hp_ : Kd.R k34 34 w21 w.heap.size (fun k_ => some k_ ≠ (v198 : Value).ownBlock) (.slice (some ⟨go4, 0, none⟩) t193.length co18) y201 := (by rw [hw, Ny201.out]; exact HP20.1); clear HP20; have n0_ := Am (hp_); have n1_ := Am (Kd.R_after (v := (.slice (some ⟨go4, 0, none⟩) t193.length co18)) (v1 := (.slice (some ⟨go4, 0, none⟩) t193.length co18)) (ok := (fun _ => True)) (by (with_reducible repeat (first | apply Kd.R_alloc | apply Kd.R_drewN | apply Kd.R_drew)); exact HO199.out) hg (.inl rfl)); have n2_ := Am ((by rw [hw]; exact below_set (HB.out) GB4.out : Below w.heap.size w w21)); clear HO196; clear HO199; clear HB; have HO196 := n0_; have HO199 := n1_; have HB := n2_; clear n0_ n1_ n2_; clear hg hw hp_; have p6 : 0 ≤ (4 : Int) := (by omega); have q6 : (4 : Int) < ((t193.length : Int) : Int) := of_decide_eq_true (by first | (with_reducible assumption) | assumption); have qi6 : (4 < t193.length) = True := eq_true (by omega); obtain ⟨ce6, hcl6, hM6, hcc6, hfr6⟩ := Kd.R_elem HO196.out z34 (4 : Int) p6 q6; obtain rfl := k34_openM hM6; have hx6_0 : w21.cell? ⟨go4, (4 : Int).toNat * 6, none⟩ = some (.int .i64 ((rd_T34 y201 4).f0)) := hcc6 0 _ rfl; have hx6_1 : w21.cell? ⟨go4, (4 : Int).toNat * 6 + 1, none⟩ = some (.int .i64 ((rd_T34 y201 4).f1)) := hcc6 1 _ rfl; have hx6_2 : w21.cell? ⟨go4, (4 : Int).toNat * 6 + 2, none⟩ = some (.int .i64 ((rd_T34 y201 4).f2)) := hcc6 2 _ rfl; have hx6_3 : w21.cell? ⟨go4, (4 : Int).toNat * 6 + 3, none⟩ = some (.int .i64 ((rd_T34 y201 4).f3)) := hcc6 3 _ rfl; have hx6_4 : w21.cell? ⟨go4, (4 : Int).toNat * 6 + 4, none⟩ = some (.int .i64 ((rd_T34 y201 4).f4)) := hcc6 4 _ rfl; have hx6_5 : w21.cell? ⟨go4, (4 : Int).toNat * 6 + 5, none⟩ = some (.int .i64 ((rd_T34 y201 4).f5)) := hcc6 5 _ rfl; have hf6_0 : w21.frozen? ⟨go4, (4 : Int).toNat * 6, none⟩ = false := hfr6 0; have hf6_1 : w21.frozen? ⟨go4, (4 : Int).toNat * 6 + 1, none⟩ = false := hfr6 1; have hf6_2 : w21.frozen? ⟨go4, (4 : Int).toNat * 6 + 2, none⟩ = false := hfr6 2; have hf6_3 : w21.frozen? ⟨go4, (4 : Int).toNat * 6 + 3, none⟩ = false := hfr6 3; have hf6_4 : w21.frozen? ⟨go4, (4 : Int).toNat * 6 + 4, none⟩ = false := hfr6 4; have hf6_5 : w21.frozen? ⟨go4, (4 : Int).toNat * 6 + 5, none⟩ = false := hfr6 5; clear hcl6 hcc6 hfr6 hM6; (try rw [show ((4 : Int)).toNat = 4 from rfl] at hx6_0); (try simp only [Nat.reduceMul, Nat.zero_mul, Nat.zero_add, Nat.reduceAdd] at hx6_0); (try rw [show ((4 : Int)).toNat = 4 from rfl] at hf6_0); (try simp only [Nat.reduceMul, Nat.zero_mul, Nat.zero_add, Nat.reduceAdd] at hf6_0); (try rw [show ((4 : Int)).toNat = 4 from rfl] at hx6_1); (try simp only [Nat.reduceMul, Nat.zero_mul, Nat.zero_add, Nat.reduceAdd] at hx6_1); (try rw [show ((4 : Int)).toNat = 4 from rfl] at hf6_1); (try simp only [Nat.reduceMul, Nat.zero_mul, Nat.zero_add, Nat.reduceAdd] at hf6_1); (try rw [show ((4 : Int)).toNat = 4 from rfl] at hx6_2); (try simp only [Nat.reduceMul, Nat.zero_mul, Nat.zero_add, Nat.reduceAdd] at hx6_2); (try rw [show ((4 : Int)).toNat = 4 from rfl] at hf6_2); (try simp only [Nat.reduceMul, Nat.zero_mul, Nat.zero_add, Nat.reduceAdd] at hf6_2); (try rw [show ((4 : Int)).toNat = 4 from rfl] at hx6_3); (try simp only [Nat.reduceMul, Nat.zero_mul, Nat.zero_add, Nat.reduceAdd] at hx6_3); (try rw [show ((4 : Int)).toNat = 4 from rfl] at hf6_3); (try simp only [Nat.reduceMul, Nat.zero_mul, Nat.zero_add, Nat.reduceAdd] at hf6_3); (try rw [show ((4 : Int)).toNat = 4 from rfl] at hx6_4); (try simp only [Nat.reduceMul, Nat.zero_mul, Nat.zero_add, Nat.reduceAdd] at hx6_4); (try rw [show ((4 : Int)).toNat = 4 from rfl] at hf6_4); (try simp only [Nat.reduceMul, Nat.zero_mul, Nat.zero_add, Nat.reduceAdd] at hf6_4); (try rw [show ((4 : Int)).toNat = 4 from rfl] at hx6_5); (try simp only [Nat.reduceMul, Nat.zero_mul, Nat.zero_add, Nat.reduceAdd] at hx6_5); (try rw [show ((4 : Int)).toNat = 4 from rfl] at hf6_5); (try simp only [Nat.reduceMul, Nat.zero_mul, Nat.zero_add, Nat.reduceAdd] at hf6_5); replace p6 := eq_true p6; replace q6 := eq_true q6; have HX22 := Am (show Kd.R k34 34 w21 w.heap.size (fun k_ => some k_ ≠ (v198 : Value).ownBlock) (.slice (some ⟨go4, 0, none⟩) t193.length co18) y201 from (by (with_reducible repeat (first | apply Kd.R_alloc | apply Kd.R_drewN | apply Kd.R_drew)); exact HO196.out)); obtain ⟨ce22, hcl22, hM22, hcc22, hfr22⟩ := Kd.R_elem HX22.out z34 (4 : Int) (by omega) (by have h_ : (4 : Int) < ((t193.length : Int) : Int) := of_decide_eq_true (by first | (with_reducible assumption) | assumption); first | exact h_ | (have e_ := (Kd.R_reads' HO196.out).1; omega) | simpa using h_); obtain rfl := k34_openM hM22; have HP22 := Kd.R_seg HX22.out (4 : Int) (by omega) (by have h_ : (4 : Int) < ((t193.length : Int) : Int) := of_decide_eq_true (by first | (with_reducible assumption) | assumption); first | exact h_ | (have e_ := (Kd.R_reads' HO196.out).1; omega) | simpa using h_) (seg := [.int .i64 1]) (j := 2) hcl22 hcc22 (show 3 ≤ 6 from by decide) (x' := (⟨(rd_T34 y201 4).f0, (rd_T34 y201 4).f1, 1, (rd_T34 y201 4).f3, (rd_T34 y201 4).f4, (rd_T34 y201 4).f5⟩ : S34)) (k34_mkM _ _ _ (⟨(rd_T34 y201 4).f0, (rd_T34 y201 4).f1, 1, (rd_T34 y201 4).f3, (rd_T34 y201 4).f4, (rd_T34 y201 4).f5⟩ : S34) ) (fun _ hk => hk); have hx22_2 := hcc22 2 _ rfl; (try simp only [show (k34).sz = 6 from rfl, Nat.mul_one, Nat.add_zero] at hx22_2); (try rw [show ((4 : Int)).toNat = 4 from rfl] at hx22_2); (try simp only [Nat.reduceMul, Nat.zero_mul, Nat.zero_add, Nat.reduceAdd] at hx22_2); have hf22_2 := hfr22 2; (try simp only [show (k34).sz = 6 from rfl, Nat.mul_one, Nat.add_zero] at hf22_2); (try rw [show ((4 : Int)).toNat = 4 from rfl] at hf22_2); (try simp only [Nat.reduceMul, Nat.zero_mul, Nat.zero_add, Nat.reduceAdd] at hf22_2); clear hcl22 hcc22 hfr22 hM22) | ((with_reducible refine gate_store (t := 3) (p := 21) rfl ?_); refine store_event (t := 3) (p := 21) (v := ?vo_w23) (w1 := (w21.setCell ⟨go4, 26, none⟩ (.int .i64 1))) ?hg ?ho ?hn ?hr ?_; (case ho => rfl); (case hg => rfl); (case hn => rfl); (case hr => first | (go_simp; done) | (go_simp; rfl)); intro w23 hw; have hg : w21.grownBy w23 (some go4) := (by rw [hw]; exact HP22.2); have hp_ : Kd.R k34 34 w23 w.heap.size (fun k_ => some k_ ≠ (v198 : Value).ownBlock) (.slice (some ⟨go4, 0, none⟩) t193.length co18) y202 := (by rw [hw, Ny202.out]; exact HP22.1); clear HP22; have n0_ := Am (hp_); have n1_ := Am (Kd.R_after (v := (.slice (some ⟨go4, 0, none⟩) t193.length co18)) (v1 := (.slice (some ⟨go4, 0, none⟩) t193.length co18)) (ok := (fun _ => True)) (by (with_reducible repeat (first | apply Kd.R_alloc | apply Kd.R_drewN | apply Kd.R_drew)); exact HO199.out) hg (.inl rfl)); have n2_ := Am ((by rw [hw]; exact below_set (HB.out) GB4.out : Below w.heap.size w w23)); clear HO196; clear HO199; clear HB; have HO196 := n0_; have HO199 := n1_; have HB := n2_; clear n0_ n1_ n2_; clear hg hw hp_))
    go_ret
    exact ⟨by first | rfl | (simp [errW_none, errW_some] <;> rfl) | (simp [*, errW_none, errW_some] <;> rfl), by repeat (first | (with_reducible first | exact HB.out | apply ba | apply bn | apply bd) | exact HB.out)⟩
  ·rw [if_neg c5] at H
   exact absurd H (by simp)
 ·rw [if_neg c3] at H
  exact absurd H (by simp)
def larchlaw18_to.f (a0_0 : Int) (a0_1 : Bool) : Option (Int × Bool) := some (a0_0, a0_1)
set_option maxHeartbeats 8000000 in
set_option maxRecDepth 100000 in
theorem larchlaw18_to.calls (a0_0 : Int) (a0_1 : Bool) (r1 : Int) (r2 : Bool) (w : World) (h : larchlaw18_to.f a0_0 a0_1 = some (r1, r2)) :
  Calls Try.prog 29 #[.agg #[.int .i64 a0_0, .bool a0_1]] w fun e w' => e = .returned (.agg #[.int .i64 r1, .bool r2]) ∧ Below w.heap.size w w' := by
 have hu24 := Try.underlying24
 have hu62 := Try.underlying62
 have HB := Am (Below.refl w.heap.size w)
 have H : (some (a0_0, a0_1)) = some (r1, r2) := h
 clear h
 simp only [Option.some.injEq, Prod.mk.injEq] at H
 obtain ⟨rfl, rfl⟩ := H
 go_enter Try.func29, Try.ntmps29
 go_wp2_with (first | ((with_reducible refine gate_dst (N := 1) rfl ?_); refine box_event ?hg (N := 1) ?hd (cs := #[.int .i64 a0_0, .bool a0_1]) (t := 24) ?hr ?_; (case hd => rfl); (case hg => rfl); (case hr => first | (go_simp; done) | (go_simp; rfl)); intro gb204 hg w2 hbox hb; have n0_ := Am (below_step (by repeat (first | (with_reducible first | exact HB.out | apply ba | apply bn | apply bd) | exact HB.out)) hb); have n1_ := Am (hbox); have n2_ := Am ((by rw [hg]; exact (below_size (by repeat (first | (with_reducible first | exact HB.out | apply ba | apply bn | apply bd) | exact HB.out))) : w.heap.size ≤ gb204)); have n3_ := Am ((by rw [hg]; exact (below_size (by repeat (first | (with_reducible first | exact HB.out | apply ba | apply bn | apply bd) | exact HB.out))) : w.heap.size ≤ gb204)); clear HB; have HB := n0_; have BK204 := n1_; have GW204 := n2_; have GE204 := n3_; clear n0_ n1_ n2_ n3_; clear hb hbox hg) | ((with_reducible refine gate_dst (N := 2) rfl ?_); refine box_event ?hg (N := 2) ?hd (cs := #[.int .i64 0, .bool false]) (t := 62) ?hr ?_; (case hd => rfl); (case hg => rfl); (case hr => first | (go_simp; done) | (go_simp; rfl)); intro gb205 hg w3 hbox hb; have n0_ := Am (blk_below (g := gb204) (o := .cells #[.int .i64 a0_0, .bool a0_1] 24 (0, 0)) (by (with_reducible repeat (first | refine blk_drewN ?_ _ | refine blk_drew ?_ | refine blk_alloc ?_ _)); exact BK204.out) hb); have n1_ := Am (below_step (by repeat (first | (with_reducible first | exact HB.out | apply ba | apply bn | apply bd | refine below_set ?_ GE204.out) | exact HB.out)) hb); have n2_ := Am (hbox); have n3_ := Am ((by rw [hg]; exact (below_size (by repeat (first | (with_reducible first | exact HB.out | apply ba | apply bn | apply bd | refine below_set ?_ GE204.out) | exact HB.out))) : w.heap.size ≤ gb205)); have n4_ := Am ((by rw [hg]; exact (below_size (by repeat (first | (with_reducible first | exact HB.out | apply ba | apply bn | apply bd | refine below_set ?_ GE204.out) | exact HB.out))) : w.heap.size ≤ gb205)); have n5_ := Am ((by rw [hg]; exact Nat.ne_of_lt (blk_lt (g := gb204) (o := .cells #[.int .i64 a0_0, .bool a0_1] 24 (0, 0)) (by (with_reducible repeat (first | refine blk_drewN ?_ _ | refine blk_drew ?_ | refine blk_alloc ?_ _)); exact BK204.out)) : gb204 ≠ gb205)); have n6_ := Am ((by rw [hg]; exact Nat.ne_of_gt (blk_lt (g := gb204) (o := .cells #[.int .i64 a0_0, .bool a0_1] 24 (0, 0)) (by (with_reducible repeat (first | refine blk_drewN ?_ _ | refine blk_drew ?_ | refine blk_alloc ?_ _)); exact BK204.out)) : gb205 ≠ gb204)); clear BK204; clear HB; have BK204 := n0_; have HB := n1_; have BK205 := n2_; have GW205 := n3_; have GE205 := n4_; have NB204_205 := n5_; have NB205_204 := n6_; clear n0_ n1_ n2_ n3_ n4_ n5_ n6_; clear hb hbox hg; have hnb4 := NB204_205.out; have hnc4 := NB205_204.out; have hcz5_0 : w3.cell? ⟨gb204, 0, none⟩ = some (.int .i64 a0_0) := (blk_cell BK204.out 0).trans rfl; have hcz5_1 : w3.cell? ⟨gb204, 1, none⟩ = some (.bool a0_1) := (blk_cell BK204.out 1).trans rfl; have hfz5_0 := blk_frozen BK204.out 0; have hfz5_1 := blk_frozen BK204.out 1; have hcz6_0 : w3.cell? ⟨gb205, 0, none⟩ = some (.int .i64 0) := (blk_cell BK205.out 0).trans rfl; have hcz6_1 : w3.cell? ⟨gb205, 1, none⟩ = some (.bool false) := (blk_cell BK205.out 1).trans rfl; have hfz6_0 := blk_frozen BK205.out 0; have hfz6_1 := blk_frozen BK205.out 1))
 refine bodyPost_ret (results_cell_row rfl _ _ gb205 62 #[.int .i64 a0_0, .bool a0_1] (0, 0) _ rfl (by (with_reducible repeat (first | refine blk_drewN ?_ _ | refine blk_drew ?_ | refine blk_alloc ?_ _)); refine blk_put (cs := #[.int .i64 a0_0, .bool false]) ?_ 1 _ rfl; (with_reducible repeat (first | refine blk_drewN ?_ _ | refine blk_drew ?_ | refine blk_alloc ?_ _)); refine blk_put (cs := #[.int .i64 0, .bool false]) ?_ 0 _ rfl; (with_reducible repeat (first | refine blk_drewN ?_ _ | refine blk_drew ?_ | refine blk_alloc ?_ _)); exact BK205.out) Try.underlying62 rfl (by kernel_rfl)) rfl ?_
 exact ⟨by first | rfl | (simp [errW_none, errW_some] <;> rfl) | (simp [*, errW_none, errW_some] <;> rfl), by repeat (first | (with_reducible first | exact HB.out | apply ba | apply bn | apply bd | refine below_set ?_ GE204.out | refine below_set ?_ GE205.out) | exact HB.out)⟩
def larchlaw18_done.f (k : Nat) (l0 : List (S34)) (a1 : Int) (a2_0 : Int) (a2_1 : Bool) : Option ((List (S34)) × Bool) := (larchlaw18_to.f a2_0 a2_1).bind fun bt207 => ((steps_Do.f k l0 a1 bt207.1 bt207.2).bind fun bt209 => (some (bt209.1, (bt209.2 == 0))))
theorem larchlaw18_done.mono : ∀ a0 a1 a2 a3 k, LeO (larchlaw18_done.f k a0 a1 a2 a3) (larchlaw18_done.f (k + 1) a0 a1 a2 a3) := by
 intro a0 a1 a2 a3 k
 unfold larchlaw18_done.f
 repeat' first
   | (with_reducible exact steps_Do.mono _ _ _ _ _)
   | (with_reducible exact LeO.refl _)
   | (with_reducible exact LeO.none _)
   | (with_reducible refine LeO.ite ?_ ?_)
   | (with_reducible refine LeO.bind ?_ (fun _ => ?_))
   | exact steps_Do.mono _ _ _ _ _
   | exact LeO.none _
   | refine LeO.ite ?_ ?_
   | refine LeO.bind ?_ (fun _ => ?_)
set_option maxHeartbeats 8000000 in
set_option maxRecDepth 100000 in
theorem larchlaw18_done.calls (k : Nat) (A0 : Option Addr) (c0 : Nat) (l0 : List (S34)) (a1 : Int) (a2_0 : Int) (a2_1 : Bool) (r1 : List (S34)) (r2 : Bool) (w : World) (hr0 : Kd.C k34 w A0 l0.length l0) (hc0 : l0.length ≤ c0) (h : larchlaw18_done.f k l0 a1 a2_0 a2_1 = some (r1, r2)) :
  Calls Try.prog 11 #[.slice A0 l0.length c0, .int .i64 a1, .agg #[.int .i64 a2_0, .bool a2_1]] w fun e w' => ∃ v0_ : Value, e = .returned (.tuple #[v0_, .bool r2]) ∧ Kd.R k34 34 w' w.heap.size (fun _ => True) v0_ r1 ∧ Below w.heap.size w w' := by
 have hu24 := Try.underlying24
 have HR0 := Am hr0
 have HC0 := Am hc0
 clear hr0 hc0
 have HB := Am (Below.refl w.heap.size w)
 have H : ((larchlaw18_to.f a2_0 a2_1).bind fun bt207 => ((steps_Do.f k l0 a1 bt207.1 bt207.2).bind fun bt209 => (some (bt209.1, (bt209.2 == 0))))) = some (r1, r2) := h
 clear h
 replace H := Option.bind_eq_some_iff.mp H
 obtain ⟨⟨t207, t208⟩, A40, H⟩ := H
 replace H : ((steps_Do.f k l0 a1 t207 t208).bind fun bt209 => (some (bt209.1, (bt209.2 == 0)))) = some (r1, r2) := H
 have A4 := Am A40
 clear A40
 replace H := Option.bind_eq_some_iff.mp H
 obtain ⟨⟨t209, t212⟩, A50, H⟩ := H
 replace H : (some (t209, (t212 == 0))) = some (r1, r2) := H
 have A5 := Am A50
 clear A50
 simp only [Option.some.injEq, Prod.mk.injEq] at H
 obtain ⟨rfl, rfl⟩ := H
 go_enter Try.func11, Try.ntmps11
 go_wp2_with (first | ((with_reducible refine gate_dst (N := 5) rfl ?_); refine box_event ?hg (N := 5) ?hd (cs := #[.int .i64 a2_0, .bool a2_1]) (t := 24) ?hr ?_; (case hd => rfl); (case hg => rfl); (case hr => first | (go_simp; done) | (go_simp; rfl)); intro gb206 hg w6 hbox hb; have n0_ := Am (below_step (by repeat (first | (with_reducible first | exact HB.out | apply ba | apply bn | apply bd) | exact HB.out)) hb); have n1_ := Am (hbox); have n2_ := Am ((by rw [hg]; exact (below_size (by repeat (first | (with_reducible first | exact HB.out | apply ba | apply bn | apply bd) | exact HB.out))) : w.heap.size ≤ gb206)); have n3_ := Am ((by rw [hg]; exact (below_size (by repeat (first | (with_reducible first | exact HB.out | apply ba | apply bn | apply bd) | exact HB.out))) : w.heap.size ≤ gb206)); clear HB; have HB := n0_; have BK206 := n1_; have GW206 := n2_; have GE206 := n3_; clear n0_ n1_ n2_ n3_; clear hb hbox hg; have hcz7_0 : w6.cell? ⟨gb206, 0, none⟩ = some (.int .i64 a2_0) := (blk_cell BK206.out 0).trans rfl; have hcz7_1 : w6.cell? ⟨gb206, 1, none⟩ = some (.bool a2_1) := (blk_cell BK206.out 1).trans rfl; have hfz7_0 := blk_frozen BK206.out 0; have hfz7_1 := blk_frozen BK206.out 1) | ((with_reducible refine gate_callee (f := 29) rfl ?_); refine goesL_ (some 14) rfl rfl Try.func29 (by kernel_rfl) rfl #[.agg #[.int .i64 a2_0, .bool a2_1]] rfl (by (try simp only [List.map_toArray, List.map_cons, List.map_nil]); first | done | rfl | (simp only [List.length_drop, List.length_take]; rfl)) ?_; (with_reducible refine (larchlaw18_to.calls a2_0 a2_1 t207 t208 _ A4.out).mono ?_); rintro e w8 ⟨rfl, hb⟩; refine ⟨_, rfl, ?_⟩; have n0_ := Am (blk_below (g := gb206) (o := .cells #[.int .i64 a2_0, .bool a2_1] 24 (0, 0)) (by (with_reducible repeat (first | refine blk_drewN ?_ _ | refine blk_drew ?_ | refine blk_alloc ?_ _)); exact BK206.out) hb); have n1_ := Am (below_step (by repeat (first | (with_reducible first | exact HB.out | apply ba | apply bn | apply bd | refine below_set ?_ GE206.out) | exact HB.out)) hb); clear BK206; clear HB; have BK206 := n0_; have HB := n1_; clear n0_ n1_; (try clear hb); (try clear hb2); (try clear hk); (try clear hi)) | ((with_reducible refine gate_callee (f := 30) rfl ?_); refine goesL_ (some 15) rfl rfl Try.func30 (by kernel_rfl) rfl #[.slice A0 l0.length c0, .int .i64 a1, .agg #[.int .i64 t207, .bool t208]] rfl (by (try simp only [List.map_toArray, List.map_cons, List.map_nil]); first | done | rfl | (simp only [List.length_drop, List.length_take]; rfl)) ?_; (with_reducible refine (steps_Do.calls k _ _ l0 a1 t207 t208 t209 t212 _ ?side1 ?side2 A5.out).mono ?_); (case side1 => repeat (first | exact (Kd.C_below HR0.out HB.out) | (with_reducible refine Kd.C_alloc ?_ _) | (with_reducible refine Kd.C_drewN ?_ _) | (with_reducible refine Kd.C_drew ?_))); (case side2 => exact HC0.out); rintro e w9 ⟨v210, rfl, ho0, hb⟩; refine ⟨_, rfl, ?_⟩; have n0_ := Am (Kd.R_lower ho0 (below_size (by repeat (first | (with_reducible first | exact HB.out | apply ba | apply bn | apply bd | refine below_set ?_ GE206.out) | exact HB.out)))); have n1_ := Am (blk_below (g := gb206) (o := .cells #[.int .i64 a2_0, .bool a2_1] 24 (0, 0)) (by (with_reducible repeat (first | refine blk_drewN ?_ _ | refine blk_drew ?_ | refine blk_alloc ?_ _)); exact BK206.out) hb); have n2_ := Am (below_step (by repeat (first | (with_reducible first | exact HB.out | apply ba | apply bn | apply bd | refine below_set ?_ GE206.out) | exact HB.out)) hb); clear BK206; clear HB; have HO211 := n0_; have BK206 := n1_; have HB := n2_; clear n0_ n1_ n2_; (try clear hb); (try clear hb2); (try clear hk); (try clear hi); (try clear ho0)))
 go_ret2
 exact ⟨_, by first | rfl | (simp [errW_none, errW_some] <;> rfl) | (simp [*, errW_none, errW_some] <;> rfl), by (with_reducible repeat (first | apply Kd.R_alloc | apply Kd.R_drewN | apply Kd.R_drew)); exact HO211.out, by repeat (first | (with_reducible first | exact HB.out | apply ba | apply bn | apply bd | refine below_set ?_ GE206.out) | exact HB.out)⟩
def larchlaw18_sums.f : Nat → List (S34) → Int → Int → List Int → Option (List Int)
 | 0, _, _, _, _ => none
 | k + 1, l0, a1, a2, l3 => if 0 ≤ a1 then (if a1 < (l0.length : Int) then (if ((rd_T34 l0 a1).f4) < 0 then (if l3.length < 17592186044416 then (some (l3 ++ [wrap64 (a2 + ((rd_T34 l0 a1).f2))])) else (none)) else ((larchlaw18_sums.f k l0 ((rd_T34 l0 a1).f4) (wrap64 (a2 + ((rd_T34 l0 a1).f2))) l3).bind fun t220 => ((larchlaw18_sums.f k l0 ((rd_T34 l0 a1).f5) (wrap64 (a2 + ((rd_T34 l0 a1).f2))) t220).bind fun t223 => (some t223)))) else (none)) else (none)
end Go.Proofs.Ytgleaefhflamnaa.T
namespace Go.Proofs.Ytgleaefhflamnaa.T
open Go.RowKit Go.Proofs.YtgleaefhflamnaaW.PrintWords Go.Proofs.YtgleaefhflamnaaW.PrintLast Go.Proofs.YtgleaefhflamnaaW.PrintMore
/-- The tree of the flat table. -/
def renT : Tr → Nat → Tr
 | .nil, _ => .nil
 | .node n _ .nil _, a => .node n a .nil .nil
 | .node n _ (.node n' p' l' r') r, a => .node ⟨n.f0, n.f1, n.f2, n.f3, a + 1, a + 1 + sizeT (.node n' p' l' r')⟩ a (renT (.node n' p' l' r') (a + 1)) (renT r (a + 1 + sizeT (.node n' p' l' r')))
theorem flT_inner (n : S34) (p : Int) {l : Tr} (r : Tr) (a : Nat) (hl : l ≠ .nil) : flatT (.node n p l r) a = ⟨n.f0, n.f1, n.f2, n.f3, a + 1, a + 1 + sizeT l⟩ :: (flatT l (a + 1) ++ flatT r (a + 1 + sizeT l)) := by
 cases l with
 | nil => exact absurd rfl hl
 | node _ _ _ _ => rfl
theorem ren_inner (n : S34) (p : Int) {l : Tr} (r : Tr) (a : Nat) (hl : l ≠ .nil) : renT (.node n p l r) a = .node ⟨n.f0, n.f1, n.f2, n.f3, a + 1, a + 1 + sizeT l⟩ a (renT l (a + 1)) (renT r (a + 1 + sizeT l)) := by
 cases l with
 | nil => exact absurd rfl hl
 | node _ _ _ _ => rfl
theorem flT_leaf (n : S34) (p : Int) (r : Tr) (a : Nat) : flatT (.node n p .nil r) a = [n] := rfl
theorem ren_leaf (n : S34) (p : Int) (r : Tr) (a : Nat) : renT (.node n p .nil r) a = .node n a .nil .nil := rfl
theorem flT_len : ∀ {T : Tr}, Ok T → ∀ a, (flatT T a).length = sizeT T
 | .nil, h, _ => h.elim
 | .node n p l r, h, a => by
  rcases h.2.2 with ⟨rfl, rfl, _⟩ | ⟨_, hl, hr⟩
  ·rfl
  ·rw [flT_inner _ _ _ _ (ok_ne hl), List.length_cons, List.length_append, flT_len hl, flT_len hr, sizeT]; omega
theorem flat_mk : ∀ {T : Tr}, Ok T → ∀ (pre post : List S34) (a K : Nat), pre.length = a → sizeT T ≤ K → mkT (pre ++ flatT T a ++ post) K a = some (renT T a)
 | .nil, h, _, _, _, _, _, _ => h.elim
 | .node n p l r, h, pre, post, a, K, ha, hK => by
  rw [sizeT] at hK
  cases K with
  | zero => omega
  | succ K =>
   rcases h.2.2 with ⟨rfl, rfl, h4, h5⟩ | ⟨_, hl, hr⟩
   ·rw [flT_leaf, ren_leaf]
    have hg : (pre ++ [n] ++ post).getD a z34 = n := by simp [List.getD, ← ha]
    rw [mkT, if_pos (by simp; omega), hg, if_neg (by omega)]
   ·have hll := flT_len hl (a + 1)
    have i1 := flat_mk hl (pre ++ [⟨n.f0, n.f1, n.f2, n.f3, a + 1, a + 1 + sizeT l⟩]) (flatT r (a + 1 + sizeT l) ++ post) (a + 1) K (by simp [ha]) (by omega)
    have i2 := flat_mk hr (pre ++ ⟨n.f0, n.f1, n.f2, n.f3, a + 1, a + 1 + sizeT l⟩ :: flatT l (a + 1)) post (a + 1 + sizeT l) K (by simp [ha, hll]; omega) (by omega)
    rw [flT_inner _ _ _ _ (ok_ne hl), ren_inner _ _ _ _ (ok_ne hl)]
    have e1 : pre ++ (⟨n.f0, n.f1, n.f2, n.f3, a + 1, a + 1 + sizeT l⟩ :: (flatT l (a + 1) ++ flatT r (a + 1 + sizeT l))) ++ post = pre ++ [⟨n.f0, n.f1, n.f2, n.f3, a + 1, a + 1 + sizeT l⟩] ++ flatT l (a + 1) ++ (flatT r (a + 1 + sizeT l) ++ post) := by simp
    have e2 : pre ++ (⟨n.f0, n.f1, n.f2, n.f3, a + 1, a + 1 + sizeT l⟩ :: (flatT l (a + 1) ++ flatT r (a + 1 + sizeT l))) ++ post = pre ++ ⟨n.f0, n.f1, n.f2, n.f3, a + 1, a + 1 + sizeT l⟩ :: flatT l (a + 1) ++ flatT r (a + 1 + sizeT l) ++ post := by simp
    have hg : (pre ++ (⟨n.f0, n.f1, n.f2, n.f3, a + 1, a + 1 + sizeT l⟩ :: (flatT l (a + 1) ++ flatT r (a + 1 + sizeT l))) ++ post).getD a z34 = ⟨n.f0, n.f1, n.f2, n.f3, a + 1, a + 1 + sizeT l⟩ := by simp [List.getD, ← ha]
    rw [← e1] at i1
    rw [← e2] at i2
    rw [mkT, if_pos (by simp; omega), hg]
    simp only
    rw [if_pos (by omega), show ((a : Int) + 1).toNat = a + 1 by omega, i1, Option.bind_some, show ((a : Int) + 1 + sizeT l).toNat = a + 1 + sizeT l by omega, i2, Option.bind_some]
theorem size_pos {T : Tr} (h : Ok T) : 0 < sizeT T := by
 cases T with
 | nil => exact h.elim
 | node _ _ _ _ => rw [sizeT]; omega
theorem flat_fm : ∀ {T : Tr}, Ok T → ∀ (a N : Nat), a + sizeT T ≤ N → ∀ x ∈ flatT T a, fmN x N = true
 | .nil, h, _, _, _, _, _ => h.elim
 | .node n p l r, h, a, N, hN, x, hx => by
  rw [sizeT] at hN
  rcases h.2.2 with ⟨rfl, rfl, h4, h5⟩ | ⟨h3, hl, hr⟩
  ·rw [flT_leaf, List.mem_singleton] at hx
   subst hx
   exact (fmN_iff _ _).2 ⟨h.1, h.2.1, .inl ⟨h4, h5⟩⟩
  ·rw [flT_inner _ _ _ _ (ok_ne hl), List.mem_cons, List.mem_append] at hx
   rcases hx with rfl | hx | hx
   ·have h1 := size_pos hl
    have h2 := size_pos hr
    have hw := h.1
    have hi := h.2.1
    refine (fmN_iff _ _).2 ⟨hw, hi, .inr ?_⟩
    simp only
    omega
   ·exact flat_fm hl (a + 1) N (by omega) x hx
   ·exact flat_fm hr (a + 1 + sizeT l) N (by omega) x hx
theorem ren_pl : ∀ {T : Tr}, Ok T → ∀ a, plT (renT T a) = (List.range' a (sizeT T)).map (fun (i : Nat) => (i : Int))
 | .nil, h, _ => h.elim
 | .node n p l r, h, a => by
  rcases h.2.2 with ⟨rfl, rfl, h4, h5⟩ | ⟨h3, hl, hr⟩
  ·rfl
  ·rw [ren_inner _ _ _ _ (ok_ne hl), plT, ren_pl hl, ren_pl hr, sizeT, show 1 + sizeT l + sizeT r = (sizeT l + sizeT r) + 1 by omega, List.range'_succ, List.map_cons, ← List.map_append, List.range'_append_1]
theorem ren_sums : ∀ {T : Tr}, Ok T → ∀ a b, sums (renT T a) b = sums T b
 | .nil, h, _, _ => h.elim
 | .node n p l r, h, a, b => by
  rcases h.2.2 with ⟨rfl, rfl, h4, h5⟩ | ⟨h3, hl, hr⟩
  ·rfl
  ·rw [ren_inner _ _ _ _ (ok_ne hl)]
   have i1 := ren_sums hl (a + 1) (b + n.f2)
   have i2 := ren_sums hr (a + 1 + sizeT l) (b + n.f2)
   have hn : renT l (a + 1) ≠ .nil := by
    intro e
    have := ren_pl hl (a + 1)
    rw [e] at this
    have h1 := size_pos hl
    have := congrArg List.length this
    simp [plT] at this
    omega
   have hn2 := ok_ne hl
   generalize renT l (a + 1) = l' at *
   generalize renT r (a + 1 + sizeT l) = r' at *
   cases l' with
   | nil => exact absurd rfl hn
   | node _ _ _ _ =>
    cases l with
    | nil => exact absurd rfl hn2
    | node _ _ _ _ => simp only [sums]; rw [i1, i2]
theorem ren_wt {T : Tr} (a : Nat) : wt (renT T a) = wt T := by
 cases T with
 | nil => rfl
 | node n p l r => cases l <;> rfl
theorem ren_bad : ∀ {T : Tr}, Ok T → ∀ a, bad (renT T a) = bad T
 | .nil, h, _ => h.elim
 | .node n p l r, h, a => by
  rcases h.2.2 with ⟨rfl, rfl, h4, h5⟩ | ⟨h3, hl, hr⟩
  ·rfl
  ·rw [ren_inner _ _ _ _ (ok_ne hl), bad, bad, ren_wt, ren_wt, ren_bad hl, ren_bad hr]
theorem ren_inf : ∀ {T : Tr} (a : Nat), allT (fun n => n.f1 = 0) T → allT (fun n => n.f1 = 0) (renT T a)
 | .nil, _, h => h
 | .node n p .nil r, a, h => ⟨h.1, trivial, trivial⟩
 | .node n p (.node n' p' l' r') r, a, h => ⟨h.1, ren_inf _ h.2.1, ren_inf _ h.2.2⟩
theorem flat_good {T : Tr} (h : Ok T) (hs : sizeT T ≤ 100000) : Good (flatT T 0) (renT T 0) := by
 have hl := flT_len h 0
 have hm := flat_mk h [] [] 0 (sizeT T) rfl (Nat.le_refl _)
 rw [List.nil_append, List.append_nil] at hm
 refine ⟨by omega, fun i hi => ?_, by rw [hl]; exact hm, ?_, ?_⟩
 ·have hmem : (flatT T 0).getD i z34 ∈ flatT T 0 := by rw [List.getD, List.getElem?_eq_getElem hi, Option.getD_some]; exact List.getElem_mem hi
  exact flat_fm h 0 _ (by omega) _ hmem
 ·rw [ren_pl h]
  refine List.Pairwise.map _ (fun (a b : Nat) hab => ?_) (List.nodup_range' (s := 0) (n := sizeT T) (step := 1) (by decide))
  exact fun e => hab (Int.ofNat.inj e)
 ·rw [ren_pl h, List.length_map, List.length_range', hl]
end Go.Proofs.Ytgleaefhflamnaa.T
namespace Go.Proofs.Ytgleaefhflamnaa.T
open Go.RowKit Go.Proofs.YtgleaefhflamnaaW.PrintWords Go.Proofs.YtgleaefhflamnaaW.PrintLast Go.Proofs.YtgleaefhflamnaaW.PrintMore
theorem keys_nil (k : Nat) (t : List S34) (r : Int) (met : List Bool) : steps_keys.l0 (k + 1) t r met [] = some (r, met, 0) := by
 rw [steps_keys.l0]
 exact if_neg (by simp)
theorem keys_step (k : Nat) (t : List S34) (r : Int) (met : List Bool) (i : Int) (s : List Int) (hs : s.length < 17592186044416) :
  steps_keys.l0 (k + 1) t r met (i :: s).reverse =
   if 0 ≤ i then (if i < met.length then (if i < t.length then
    (if (t.getD i.toNat z34).f4 ≥ 0 then (if s.length + 2 < 17592186044416 then steps_keys.l0 k t r (met.set i.toNat true) ((t.getD i.toNat z34).f5 :: (t.getD i.toNat z34).f4 :: s).reverse else none)
     else steps_keys.l0 k t r (met.set i.toNat true) s.reverse) else none) else none) else none := by
 have e : (i :: s).reverse = s.reverse ++ [i] := List.reverse_cons
 have e2 : ((t.getD i.toNat z34).f5 :: (t.getD i.toNat z34).f4 :: s).reverse = s.reverse ++ [(t.getD i.toNat z34).f4, (t.getD i.toNat z34).f5] := by simp
 rw [e, e2]
 generalize hr : s.reverse = s'
 have hl : s'.length = s.length := by rw [← hr, List.length_reverse]
 rw [← hl] at hs ⊢
 have h1 : wrap64 (((s' ++ [i]).length : Int) - 1) = s'.length := by rw [List.length_append, List.length_singleton, Go.IntWalk.wrap64_in _ (by omega)]; omega
 have h2 : rd (s' ++ [i]) (s'.length : Int) = i := by simp [rd]
 have h3 : (s' ++ [i]).take ((s'.length : Int)).toNat = s' := by simp
 rw [steps_keys.l0, h1, h2, h3]
 rw [if_pos (by rw [List.length_append, List.length_singleton]; omega), if_pos (by omega), if_pos (by rw [List.length_append, List.length_singleton]; omega), if_pos (by rw [List.length_append, List.length_singleton]; omega)]
 rw [show rd_T34 t i = t.getD i.toNat z34 from rfl]
 simp only [Option.bind_some, List.length_cons, List.length_nil, Nat.zero_add]
theorem keys_tree (t : List S34) (r : Int) (K : Nat) (hlen : t.length ≤ 100000) (hf : FormT t) : ∀ (k : Nat) (met : List Bool) (s ps : List Int), met.length = t.length → plF t K s = some ps → ps.length < k → ps.length ≤ 1000000 →
  ∃ met', steps_keys.l0 k t r met s.reverse = some (r, met', 0) ∧ met'.length = t.length ∧ ∀ c : Nat, c < t.length → (met'.getD c false = true ↔ met.getD c false = true ∨ (c : Int) ∈ ps) := by
 intro k
 induction k with
 | zero => intro met s ps _ _ h; exact absurd h (by omega)
 | succ k ih =>
  intro met s ps hm hp hk ho
  cases s with
  | nil =>
   rw [plF] at hp
   injection hp with hp
   subst hp
   exact ⟨met, by rw [List.reverse_nil, keys_nil], hm, fun c hc => by simp⟩
  | cons i s =>
   obtain ⟨T, q, h0, hT, hq, rfl⟩ := plF_cons hp
   have hsl := plF_len hp
   rw [List.length_cons, List.length_append] at hsl
   rw [List.length_append] at hk ho
   rw [keys_step _ _ _ _ _ _ (by omega), if_pos h0]
   cases K with
   | zero => simp [mkT] at hT
   | succ K =>
    rw [mkT] at hT
    split at hT
    case isFalse => exact absurd hT (by simp)
    rename_i hi
    rw [if_pos (by omega), if_pos (by omega)]
    have hset : ∀ c : Nat, c < t.length → ((met.set i.toNat true).getD c false = true ↔ met.getD c false = true ∨ (c : Int) = i) := by
     intro c hc
     by_cases e : i.toNat = c
     ·subst e
      rw [getD_set_eq _ _ _ (by omega)]
      simp; omega
     ·rw [getD_set_ne _ _ _ e]
      have : ¬ (c : Int) = i := by omega
      simp [this]
    split at hT
    ·rename_i h4
     obtain ⟨Tl, hl, hT⟩ := Option.bind_eq_some_iff.1 hT
     obtain ⟨Tr', hr, hT⟩ := Option.bind_eq_some_iff.1 hT
     obtain rfl := Option.some.inj hT
     simp only [plT, List.length_cons, List.length_append] at hk ho hsl
     have h5 : 0 ≤ (t.getD i.toNat z34).f5 := by have := hf i.toNat hi; omega
     rw [if_pos h4, if_pos (by omega)]
     obtain ⟨met', e1, e2, e3⟩ := ih (met.set i.toNat true) (_ :: _ :: s) _ (by rw [List.length_set, hm]) (plF_mk h5 (mkT_mono t _ _ _ hr) (plF_mk h4 (mkT_mono t _ _ _ hl) hq)) (by simp only [List.length_append]; omega) (by simp only [List.length_append]; omega)
     refine ⟨met', e1, e2, fun c hc => ?_⟩
     rw [e3 c hc, hset c hc]
     simp only [plT, List.cons_append, List.mem_cons, List.mem_append, Int.toNat_of_nonneg h0, or_assoc]
     exact or_congr_right (or_congr_right or_left_comm)
    ·rename_i h4
     obtain rfl := Option.some.inj hT
     simp only [plT, List.length_cons, List.length_nil, List.append_nil] at hk ho hsl
     rw [if_neg (by omega)]
     obtain ⟨met', e1, e2, e3⟩ := ih (met.set i.toNat true) s _ (by rw [List.length_set, hm]) hq (by omega) (by omega)
     refine ⟨met', e1, e2, fun c hc => ?_⟩
     rw [e3 c hc, hset c hc]
     simp only [plT, List.cons_append, List.nil_append, List.mem_cons, List.mem_append, Int.toNat_of_nonneg h0, or_assoc]
theorem root_total (t : List S34) : ∃ k r1 r2, table_Root.f k t = some (r1, r2) ∧ (r2 = 0 → ∃ T X0, Good t T ∧ Crown T X0 ∧ plc X0 = r1) := by
 obtain ⟨k, r, h, hg⟩ := check_total t
 by_cases h0 : r = 0
 ·obtain ⟨T, hT⟩ := hg h0
  obtain ⟨k', r1, r2, h1, h2, _⟩ := root_good hT
  exact ⟨k', r1, r2, h1, fun e => by obtain ⟨X0, h3, h4⟩ := h2 e; exact ⟨T, X0, hT, h3, h4⟩⟩
 ·refine ⟨k, 0, r, ?_, fun e => absurd e h0⟩
  unfold table_Root.f
  rw [h, Option.bind_some, if_neg h0]
theorem crown_tree {t : List S34} {T X0 : Tr} (hg : Good t T) (h : Crown T X0) : ∃ c0 : Nat, plc X0 = c0 ∧ c0 < t.length ∧ mkT t t.length c0 = some X0 ∧ (plT X0).Nodup ∧ (plT X0).length ≤ t.length := by
 have hn := hg.nodup
 have ha := hg.all
 obtain ⟨n0, n1, p1, q1, q0, rfl, _, _, _, _, _, hXn⟩ := h
 obtain ⟨_, _, _, h3⟩ := mkT_node hg.form hg.tree
 obtain ⟨_, k1, hk1, h5, _⟩ := h3 (by simp)
 obtain ⟨_, _, _, e3⟩ := mkT_node hg.form h5
 obtain ⟨_, k2, hk2, e5, _⟩ := e3 hXn
 simp only [plT, List.cons_append, List.nodup_cons, List.length_cons, List.length_append] at hn ha
 refine ⟨n1.f4.toNat, mkT_plc e5, ?_, mkT_le t (by omega) e5, ?_, by omega⟩
 ·have := (plT_mem _ _ _ e5).2 _ (plT_mem _ _ _ e5).1
  omega
 ·have h1 := hn.2.2
  rw [List.append_assoc] at h1
  exact nodup_app_l h1
theorem keys_total (t : List S34) : ∃ k r1 r2 r3, steps_keys.f k t = some (r1, r2, r3) ∧ (r3 = 0 → ∃ T X0, Good t T ∧ Crown T X0 ∧ plc X0 = r1 ∧ r2.length = t.length ∧ ∀ c : Nat, c < t.length → (r2.getD c false = true ↔ (c : Int) ∈ plT X0)) := by
 obtain ⟨k, r1, r2, h, hg⟩ := root_total t
 by_cases h0 : r2 = 0
 ·obtain ⟨T, X0, hT, hX, hr⟩ := hg h0
  obtain ⟨c0, hc, hcl, hm, hn, hl⟩ := crown_tree hT hX
  have hlen := hT.len
  have hp := plF_mk (i := r1) (by omega) (by rw [show r1.toNat = c0 by omega]; exact hm) (plF.eq_1 t t.length)
  rw [List.append_nil] at hp
  obtain ⟨met', e1, e2, e3⟩ := keys_tree t r1 t.length hlen (formT_of hT.form) (k + t.length + 1) (List.replicate t.length false) [r1] (plT X0) List.length_replicate hp (by omega) (by omega)
  refine ⟨k + t.length + 1, r1, met', 0, ?_, fun _ => ⟨T, X0, hT, hX, hr, e2, fun c hc => ?_⟩⟩
  ·unfold steps_keys.f
   rw [up_to (fun k => table_Root.mono t k) (show k ≤ k + t.length + 1 by omega) h, Option.bind_some]
   simp only
   rw [if_pos h0, if_pos (by omega), if_pos (by omega), Int.toNat_natCast]
   exact e1
  ·rw [e3 c hc, getD_replicate_false]
   simp
 ·refine ⟨k, 0, [], r2, ?_, fun e => absurd e h0⟩
  unfold steps_keys.f
  rw [h, Option.bind_some]
  simp only
  rw [if_neg h0]
end Go.Proofs.Ytgleaefhflamnaa.T
namespace Go.Proofs.Ytgleaefhflamnaa.T
open Go.RowKit Go.Proofs.YtgleaefhflamnaaW.PrintWords Go.Proofs.YtgleaefhflamnaaW.PrintLast Go.Proofs.YtgleaefhflamnaaW.PrintMore
theorem fullB_ok : ∀ {T : Tr}, Ok T → fullB T = true
 | .nil, h => h.elim
 | .node n p l r, h => by
  rcases h.2.2 with ⟨rfl, rfl, _⟩ | ⟨_, hl, hr⟩
  ·rfl
  ·cases l with
   | nil => exact hl.elim
   | node _ _ _ _ =>
    cases r with
    | nil => exact hr.elim
    | node _ _ _ _ => rw [fullB, fullB_ok hl, fullB_ok hr]; rfl
theorem okB_good {t : List S34} {T : Tr} (hg : Good t T) : okB t = true := by
 unfold okB
 rw [Bool.and_eq_true, decide_eq_true_eq, List.all_eq_true]
 refine ⟨hg.len, fun x hx => ?_⟩
 obtain ⟨i, hi, rfl⟩ := List.getElem_of_mem hx
 have := (fmN_iff _ _).1 (hg.form i hi)
 rw [List.getD, List.getElem?_eq_getElem hi, Option.getD_some] at this
 simp only [Bool.or_eq_true, Bool.and_eq_true, decide_eq_true_eq]
 omega
theorem size_pl : ∀ T, sizeT T = (plT T).length
 | .nil => rfl
 | .node _ _ l r => by rw [sizeT, plT, List.length_cons, List.length_append, size_pl l, size_pl r]; omega
theorem move_total (kind : Int) (mir : Bool) : ∃ b, steps_Move_is.f kind mir = some b := by
 unfold steps_Move_is.f steps_alone.f
 split
 ·split
  ·split
   ·split
    ·exact ⟨_, rfl⟩
    ·split <;> exact ⟨_, rfl⟩
   ·exact ⟨_, rfl⟩
  ·exact ⟨_, rfl⟩
 ·exact ⟨_, rfl⟩
/-- A move that can be done: what it starts from and what it gives. -/
structure Moved (t : List S34) (a1 kind : Int) (mir : Bool) (u : List S34) (T X0 X R : Tr) (c : Nat) (rt : Bool) : Prop where
 good : Good t T
 crown : Crown T X0
 place : a1 = c
 inX : (c : Int) ∈ plT X0
 sub : mkT t t.length c = some X
 isrt : (a1 == plc X0) = rt
 gives : Gives rt X R
 can : canT mir rt X kind = true
 kinds : 1 ≤ kind ∧ kind ≤ 12
 isR : R = if rt = true then setW (doT mir X kind) 1 else doT mir X kind
 okR : Ok (replT c R T)
 sizeR : sizeT (replT c R T) = t.length
 isu : u = flatT (replT c R T) 0
theorem do_total (t : List S34) (a1 kind : Int) (mir : Bool) : ∃ k r1 r2, steps_Do.f k t a1 kind mir = some (r1, r2) ∧ ((r2 ≠ 0 ∧ r1 = []) ∨ (r2 = 0 ∧ ∃ T X0 X R c rt, Moved t a1 kind mir r1 T X0 X R c rt)) := by
 obtain ⟨k, q1, q2, q3, hk, hq⟩ := keys_total t
 unfold steps_Do.f
 by_cases h3 : q3 = 0
 ·obtain ⟨T, X0, hg, hX0, hp, hl, hmem⟩ := hq h3
  obtain ⟨b, hb⟩ := move_total kind mir
  refine ⟨k, ?_⟩
  rw [hk, Option.bind_some]
  simp only
  rw [if_pos h3, hb, Option.bind_some]
  by_cases hbt : b = true
  ·rw [if_pos hbt]
   subst hbt
   by_cases ha : a1 < 0 ∨ (t.length : Int) ≤ a1
   ·rw [if_pos ha]; exact ⟨_, _, rfl, .inl ⟨by decide, rfl⟩⟩
   ·rw [if_neg ha, if_pos (by omega)]
    obtain ⟨c, rfl⟩ : ∃ c : Nat, a1 = c := ⟨a1.toNat, by omega⟩
    have hc : c < t.length := by omega
    by_cases hbel : rdOf false q2 c = true
    ·rw [if_pos hbel, Int.toNat_natCast]
     have hin := (hmem c hc).1 hbel
     obtain ⟨c0, hc0, hcl, hm0, hn0, hl0⟩ := crown_tree hg hX0
     obtain ⟨X, hX, hsub⟩ := sub_ex hm0 _ hin
     rw [Int.toNat_natCast] at hX
     have hok : Ok X := ok_mkT hg.form hX
     have hokT : Ok T := ok_mkT hg.form hg.tree
     have hkd := move_kind hb
     unfold doGood
     rw [if_pos (okB_good hg), hX, Option.bind_some]
     have hsz : sizeT T = t.length := by rw [size_pl, hg.all]
     have hlen := hg.len
     by_cases hcan : canT mir ((c : Int) == q1) X kind = true
     ·rw [if_pos hcan]
      have fin : ∀ R, Gives ((c : Int) == q1) X R → R = (if ((c : Int) == q1) = true then setW (doT mir X kind) 1 else doT mir X kind) → ∃ r1 r2, (mkR t c R t.length 0).bind outT = some (r1, r2) ∧ ((r2 ≠ 0 ∧ r1 = []) ∨ (r2 = 0 ∧ ∃ T X0 X R c_1 rt, Moved t c kind mir r1 T X0 X R c_1 rt)) := by
       intro R hR hRe
       have h1 := mkR_eq t c R _ _ _ hg.tree
       have h2 : Ok (replT c R T) := repl_ok hR.ok hokT
       have h3 : sizeT (replT c R T) = t.length := by rw [repl_size hX hR.size _ _ _ hg.tree, hsz]
       rw [h1, Option.bind_some, outT, if_pos (fullB_ok h2), if_pos (by omega)]
       exact ⟨_, _, rfl, .inr ⟨rfl, T, X0, X, R, c, _, hg, hX0, rfl, hin, hX, by rw [hp], hR, hcan, hkd, hRe, h2, h3, rfl⟩⟩
      by_cases hrt : ((c : Int) == q1) = true
      ·rw [if_pos hrt]
       rw [hrt] at fin hcan
       exact fin _ (gives_root mir hkd hok hcan) (if_pos rfl).symm
      ·rw [if_neg hrt]
       rw [Bool.not_eq_true] at hrt
       rw [hrt] at fin hcan
       by_cases hbig : 1000000 < wt (doT mir X kind)
       ·rw [if_pos hbig]; exact ⟨_, _, rfl, .inl ⟨by decide, rfl⟩⟩
       ·rw [if_neg hbig]
        exact fin _ (gives_plain mir hkd hok hcan hbig) (if_neg (by simp)).symm
     ·rw [if_neg hcan]; exact ⟨_, _, rfl, .inl ⟨by decide, rfl⟩⟩
    ·rw [if_neg hbel]; exact ⟨_, _, rfl, .inl ⟨by decide, rfl⟩⟩
  ·rw [if_neg hbt]; exact ⟨_, _, rfl, .inl ⟨by decide, rfl⟩⟩
 ·refine ⟨k, [], q3, ?_, .inl ⟨h3, rfl⟩⟩
  rw [hk, Option.bind_some]
  simp only
  rw [if_neg h3]
theorem awake_true : ∃ k, larchlaw18_awake.f k = some true := ⟨30, by decide +kernel⟩
end Go.Proofs.Ytgleaefhflamnaa.T
namespace Go.Proofs.Ytgleaefhflamnaa.T
open Go.RowKit Go.Proofs.YtgleaefhflamnaaW.PrintWords Go.Proofs.YtgleaefhflamnaaW.PrintLast Go.Proofs.YtgleaefhflamnaaW.PrintMore
theorem crown_repl {t : List S34} {T X0 : Tr} (hg : Good t T) (h : Crown T X0) {c : Nat} (hc : (c : Int) ∈ plT X0) {R : Tr} (hRn : R ≠ .nil) (hR : allT (fun n => n.f1 = 0) R) : Crown (replT c R T) (newX c R X0) := by
 have hn := hg.nodup
 obtain ⟨n0, n1, p1, q1, q0, rfl, c1, c2, c3, c4, c5, hXn⟩ := h
 simp only [plT, List.cons_append, List.nodup_cons, List.mem_cons, List.mem_append, not_or, List.append_assoc, List.nil_append] at hn
 have h1 : ¬ p1 = (c : Int) := fun e => hn.2.1.1 (e ▸ hc)
 have hd := (List.nodup_append.1 hn.2.2).2.2
 have h2 : ¬ q1 = (c : Int) := fun e => hd _ hc q1 (by simp) e.symm
 have h3 : ¬ q0 = (c : Int) := fun e => hd _ hc q0 (by simp) e.symm
 refine ⟨n0, n1, p1, q1, q0, ?_, c1, c2, c3, c4, ?_, ?_⟩
 ·rw [replT, if_neg (show ¬ plc (Tr.node n1 p1 X0 (Tr.node sn34 q1 Tr.nil Tr.nil)) = (c : Int) from h1), if_neg (show ¬ plc (Tr.node sn34 q0 Tr.nil Tr.nil) = (c : Int) from h3), replT, if_neg (show ¬ plc (Tr.node sn34 q1 Tr.nil Tr.nil) = (c : Int) from h2)]
  have e : ∀ q : Int, replT c R (.node sn34 q .nil .nil) = .node sn34 q .nil .nil := fun q => by rw [replT, if_neg (plc_nil c), replT]
  rw [e, e]
  rfl
 ·unfold newX
  split
  ·exact hR
  ·exact repl_all hR c5
 ·unfold newX
  split
  ·exact hRn
  ·cases X0 with
   | nil => exact absurd rfl hXn
   | node _ _ _ _ => simp [replT]
theorem ren_ne {T : Tr} (a : Nat) (h : T ≠ .nil) : renT T a ≠ .nil := by
 cases T with
 | nil => exact absurd rfl h
 | node n p l r => cases l <;> simp [renT]
theorem ren_plc {T : Tr} (a : Nat) (h : T ≠ .nil) : plc (renT T a) = a := by
 cases T with
 | nil => exact absurd rfl h
 | node n p l r => cases l <;> rfl
theorem crown_ren {T X : Tr} (h : Crown T X) : Crown (renT T 0) (renT X 2) := by
 obtain ⟨n0, n1, p1, q1, q0, rfl, c1, c2, c3, c4, c5, hXn⟩ := h
 refine ⟨⟨n0.f0, n0.f1, n0.f2, n0.f3, ((0 : Nat) : Int) + 1, ((0 : Nat) : Int) + 1 + sizeT (Tr.node n1 p1 X (Tr.node sn34 q1 .nil .nil))⟩, ⟨n1.f0, n1.f1, n1.f2, n1.f3, ((0 + 1 : Nat) : Int) + 1, ((0 + 1 : Nat) : Int) + 1 + sizeT X⟩, ((0 + 1 : Nat) : Int), ((0 + 1 + 1 + sizeT X : Nat) : Int), ((0 + 1 + sizeT (Tr.node n1 p1 X (Tr.node sn34 q1 .nil .nil)) : Nat) : Int), ?_, c1, c2, c3, c4, ren_inf 2 c5, ren_ne 2 hXn⟩
 rw [ren_inner _ _ _ _ (by simp), ren_inner _ _ _ _ hXn, ren_leaf, ren_leaf]
 rfl
theorem top_wt {t : List S34} {k i : Nat} {T : Tr} (h : mkT t k i = some T) : i < t.length ∧ (t.getD i z34).f2 = wt T := by
 cases k with
 | zero => simp [mkT] at h
 | succ k =>
  rw [mkT] at h
  split at h
  case isFalse => exact absurd h (by simp)
  rename_i hi
  split at h
  ·obtain ⟨l, hl, h⟩ := Option.bind_eq_some_iff.1 h
   obtain ⟨r, hr, h⟩ := Option.bind_eq_some_iff.1 h
   obtain rfl := Option.some.inj h
   exact ⟨hi, rfl⟩
  ·obtain rfl := Option.some.inj h
   exact ⟨hi, rfl⟩
/-- What a move that can be done says of the two trees of the keys. -/
structure Two (t : List S34) (a1 : Int) (u : List S34) (T X0 U Y0 : Tr) (c0 : Nat) : Prop where
 good : Good t T
 crown : Crown T X0
 goodU : Good u U
 crownU : Crown U Y0
 len : u.length = t.length
 at0 : plc X0 = c0
 atU : plc Y0 = 2
 mk0 : mkT t t.length c0 = some X0
 mkU : mkT u u.length 2 = some Y0
 size0 : sizeT X0 ≤ 100000
 sizeU : sizeT Y0 ≤ 100000
 plain : a1 ≠ c0 → ∀ a, sums Y0 a = sums X0 a
 root : a1 = c0 → wt Y0 = 1 ∧ ∃ d, ∀ a, sums Y0 a = sums X0 (a + d)
theorem moved_two {t : List S34} {a1 kind : Int} {mir : Bool} {u : List S34} {T X0 X R : Tr} {c : Nat} {rt : Bool} (h : Moved t a1 kind mir u T X0 X R c rt) : ∃ c0, Two t a1 u T X0 (renT (replT c R T) 0) (renT (newX c R X0) 2) c0 := by
 have hlen := h.good.len
 obtain ⟨c0, hc0, hcl, hm0, hn0, hl0⟩ := crown_tree h.good h.crown
 have hRn := ok_ne h.gives.ok
 have hinf : allT (fun n => n.f1 = 0) R := by
  obtain ⟨X', hX', hs⟩ := sub_ex hm0 _ h.inX
  rw [Int.toNat_natCast, h.sub] at hX'
  obtain rfl := Option.some.inj hX'
  obtain ⟨_, _, _, _, _, _, _, _, _, _, c5, _⟩ := h.crown
  exact h.gives.all (hs _ c5)
 have hcr := crown_repl h.good h.crown h.inX hRn hinf
 have hgU := flat_good h.okR (by rw [h.sizeR]; exact hlen)
 have hcU := crown_ren hcr
 rw [← h.isu] at hgU
 obtain ⟨cu, hcu, hcul, hmu, hnu, hlu⟩ := crown_tree hgU hcU
 have hYn : newX c R X0 ≠ .nil := by obtain ⟨_, _, _, _, _, _, _, _, _, _, _, hh⟩ := hcr; exact hh
 have hp2 : plc (renT (newX c R X0) 2) = 2 := ren_plc 2 hYn
 obtain rfl : cu = 2 := by omega
 have hok0 : Ok X0 := ok_mkT h.good.form hm0
 have hokY : Ok (newX c R X0) := by
  unfold newX
  split
  ·exact h.gives.ok
  ·exact repl_ok h.gives.ok hok0
 have hlenu : u.length = t.length := by rw [h.isu, flT_len h.okR, h.sizeR]
 have hplace := h.place
 have hisrt := h.isrt
 refine ⟨c0, h.good, h.crown, hgU, hcU, hlenu, hc0, hp2, hm0, hmu, by rw [size_pl]; omega, by rw [size_pl]; omega, ?_, ?_⟩
 ·intro hne a
  have hrt : rt = false := by rw [← hisrt]; exact beq_eq_false_iff_ne.2 (by omega)
  rw [ren_sums hokY, newX, if_neg (by omega)]
  exact repl_sums h.sub hRn (h.gives.plain hrt) _ _ _ hm0 a
 ·intro he
  have hrt : rt = true := by rw [← hisrt]; exact beq_iff_eq.2 (by omega)
  obtain ⟨hw, d, hd⟩ := h.gives.root hrt
  have hcc : c = c0 := by omega
  subst hcc
  have hXX : X = X0 := by have := h.sub; rw [hm0] at this; exact (Option.some.inj this).symm
  subst hXX
  have hY : newX c R X = R := by rw [newX, if_pos hc0]
  rw [ren_wt, hY]
  refine ⟨hw, d, fun a => ?_⟩
  rw [ren_sums (by rw [← hY]; exact hokY), hd]
theorem root_at {t : List S34} {T X0 : Tr} (hg : Good t T) (hX : Crown T X0) : ∃ k, table_Root.f k t = some (plc X0, 0) := by
 obtain ⟨k, r1, r2, h, _, h2⟩ := root_good hg
 obtain ⟨e1, e2⟩ := h2 X0 hX
 exact ⟨k, by rw [h, e1, e2]⟩
end Go.Proofs.Ytgleaefhflamnaa.T
namespace Go.Proofs.Ytgleaefhflamnaa.T
open Go.RowKit Go.Proofs.YtgleaefhflamnaaW.PrintWords Go.Proofs.YtgleaefhflamnaaW.PrintLast Go.Proofs.YtgleaefhflamnaaW.PrintMore
attribute [local go_sem] max2_int min2_int max_two min_two max_three min_three max_four min_four   -- for this text's walks alone
set_option linter.unusedVariables false
set_option linter.unusedSimpArgs false
mutual
def larchlaw18_StepsSums.j0 : Nat → List (S34) → Int → List (S34) → Int → Int → Bool → Option (Bool)
 | 0, _, _, _, _, _, _ => none
 | k + 1, x0, x1, x7, x9, x11, x45 => if x45 = true then (some false) else ((larchlaw18_sums.f k x0 x9 0 ([] : List Int)).bind fun t236 => ((larchlaw18_sums.f k x7 x11 0 ([] : List Int)).bind fun t239 => (if (t236.length : Int) = (t239.length : Int) then (if x1 = x9 then (if 0 ≤ x11 then (if x11 < (x7.length : Int) then (larchlaw18_StepsSums.j1 k x1 x9 t236 t239 (((rd_T34 x7 x11).f2) != 1)) else (none)) else (none)) else (larchlaw18_StepsSums.j1 k x1 x9 t236 t239 false)) else (larchlaw18_StepsSums.j1 k x1 x9 t236 t239 true))))
def larchlaw18_StepsSums.j1 : Nat → Int → Int → List Int → List Int → Bool → Option (Bool)
 | 0, _, _, _, _, _ => none
 | k + 1, x1, x9, x13, x14, x69 => if x69 = true then (some false) else (larchlaw18_StepsSums.l0 k x1 x9 x13 x14 (x13.length : Int) 0)
def larchlaw18_StepsSums.l0 : Nat → Int → Int → List Int → List Int → Int → Int → Option (Bool)
 | 0, _, _, _, _, _, _ => none
 | k + 1, x1, x9, x13, x14, x71, x72 => if x72 < x71 then (if 0 ≤ x72 then (if x72 < (x14.length : Int) then (if x72 < (x13.length : Int) then (if 0 < (x14.length : Int) then (if 0 < (x13.length : Int) then (if (wrap64 ((rd x14 x72) - (rd x13 x72))) = (wrap64 ((rd x14 0) - (rd x13 0))) then (if x1 = x9 then (larchlaw18_StepsSums.l0 k x1 x9 x13 x14 x71 (wrap64 (x72 + 1))) else (if (rd x13 x72) = (rd x14 x72) then (larchlaw18_StepsSums.l0 k x1 x9 x13 x14 x71 (wrap64 (x72 + 1))) else (some false))) else (some false)) else (none)) else (none)) else (none)) else (none)) else (none)) else (some true)
end
def larchlaw18_StepsSums.f (k : Nat) (l0 : List (S34)) (a1 : Int) (a2_0 : Int) (a2_1 : Bool) : Option (Bool) := (larchlaw18_awake.f k).bind fun t227 => (if t227 = true then ((larchlaw18_done.f k l0 a1 a2_0 a2_1).bind fun bt228 => (if bt228.2 = true then ((table_Root.f k l0).bind fun bt232 => ((table_Root.f k bt228.1).bind fun bt234 => (if bt232.2 = 0 then (larchlaw18_StepsSums.j0 k l0 a1 bt228.1 bt232.1 bt234.1 (bt234.2 != 0)) else (larchlaw18_StepsSums.j0 k l0 a1 bt228.1 bt232.1 bt234.1 true)))) else (some ((bt228.1.length : Int) == 0)))) else (some false))
def larchlaw18_red.f (l0 : List (S34)) (a1 : Int) (a2 : Int) : Option (Int) := if 0 ≤ a1 then (if a1 < (l0.length : Int) then (if ((rd_T34 l0 a1).f2) = 0 then (if 0 ≤ a2 then (if a2 < (l0.length : Int) then (if ((rd_T34 l0 a2).f2) = 0 then (some 1) else (some 0)) else (none)) else (none)) else (some 0)) else (none)) else (none)
set_option maxHeartbeats 8000000 in
set_option maxRecDepth 100000 in
theorem larchlaw18_red.calls (A0 : Option Addr) (c0 : Nat) (l0 : List (S34)) (a1 : Int) (a2 : Int) (r : Int) (w : World) (hr0 : Kd.C k34 w A0 l0.length l0) (hc0 : l0.length ≤ c0) (h : larchlaw18_red.f l0 a1 a2 = some r) :
  Calls Try.prog 45 #[.slice A0 l0.length c0, .int .i64 a1, .int .i64 a2] w fun e w' => e = .returned (.int .i64 r) ∧ Drawn0 w w' := by
 have HR0 := Am hr0
 have HC0 := Am hc0
 clear hr0 hc0
 have H : (if 0 ≤ a1 then (if a1 < (l0.length : Int) then (if ((rd_T34 l0 a1).f2) = 0 then (if 0 ≤ a2 then (if a2 < (l0.length : Int) then (if ((rd_T34 l0 a2).f2) = 0 then (some 1) else (some 0)) else (none)) else (none)) else (some 0)) else (none)) else (none)) = some r := h
 clear h
 by_cases c4 : 0 ≤ a1
 ·rw [if_pos c4] at H
  have c4b0 : decide (0 ≤ a1) = true := decide_eq_true c4
  clear c4
  by_cases c5 : a1 < (l0.length : Int)
  ·rw [if_pos c5] at H
   have c5b0 : decide (a1 < (l0.length : Int)) = true := decide_eq_true c5
   clear c5
   by_cases c6 : ((rd_T34 l0 a1).f2) = 0
   ·rw [if_pos c6] at H
    have c6b0 : (((rd_T34 l0 a1).f2) == 0) = true := beq_iff_eq.mpr c6
    have c6b1 : (((rd_T34 l0 a1).f2) != 0) = false := bne_eq_false_iff_eq.mpr c6
    clear c6
    by_cases c7 : 0 ≤ a2
    ·rw [if_pos c7] at H
     have c7b0 : decide (0 ≤ a2) = true := decide_eq_true c7
     clear c7
     by_cases c8 : a2 < (l0.length : Int)
     ·rw [if_pos c8] at H
      have c8b0 : decide (a2 < (l0.length : Int)) = true := decide_eq_true c8
      clear c8
      by_cases c9 : ((rd_T34 l0 a2).f2) = 0
      ·rw [if_pos c9] at H
       have c9b0 : (((rd_T34 l0 a2).f2) == 0) = true := beq_iff_eq.mpr c9
       have c9b1 : (((rd_T34 l0 a2).f2) != 0) = false := bne_eq_false_iff_eq.mpr c9
       clear c9
       obtain rfl := Option.some.inj H
       have p249 : 0 ≤ (a1 : Int) := of_decide_eq_true (by first | (with_reducible assumption) | assumption)
       have q249 : a1 < (l0.length : Int) := of_decide_eq_true (by first | (with_reducible assumption) | assumption)
       obtain ⟨ad249, e249, hx249_0, hx249_1, hx249_2, hx249_3, hx249_4, hx249_5⟩ := at_T34 HR0.out a1 p249 q249
       cases e249
       replace p249 := eq_true p249
       replace q249 := eq_true q249
       have p250 : 0 ≤ (a2 : Int) := of_decide_eq_true (by first | (with_reducible assumption) | assumption)
       have q250 : a2 < (l0.length : Int) := of_decide_eq_true (by first | (with_reducible assumption) | assumption)
       obtain ⟨ad250, e250, hx250_0, hx250_1, hx250_2, hx250_3, hx250_4, hx250_5⟩ := at_T34 HR0.out a2 p250 q250
       obtain rfl : ad249 = ad250 := (by injection e250)
       replace p250 := eq_true p250
       replace q250 := eq_true q250
       go_enter Try.func45, Try.ntmps45
       go_wp2
       go_ret
       exact ⟨by first | rfl | (simp; done) | (simp [*]; done), by repeat (first | exact Drawn0.refl _ | apply Drawn0.step)⟩
      ·rw [if_neg c9] at H
       have c9b0 : (((rd_T34 l0 a2).f2) == 0) = false := beq_eq_false_iff_ne.mpr c9
       have c9b1 : (((rd_T34 l0 a2).f2) != 0) = true := bne_iff_ne.mpr c9
       obtain rfl := Option.some.inj H
       have p249 : 0 ≤ (a1 : Int) := of_decide_eq_true (by first | (with_reducible assumption) | assumption)
       have q249 : a1 < (l0.length : Int) := of_decide_eq_true (by first | (with_reducible assumption) | assumption)
       obtain ⟨ad249, e249, hx249_0, hx249_1, hx249_2, hx249_3, hx249_4, hx249_5⟩ := at_T34 HR0.out a1 p249 q249
       cases e249
       replace p249 := eq_true p249
       replace q249 := eq_true q249
       have p250 : 0 ≤ (a2 : Int) := of_decide_eq_true (by first | (with_reducible assumption) | assumption)
       have q250 : a2 < (l0.length : Int) := of_decide_eq_true (by first | (with_reducible assumption) | assumption)
       obtain ⟨ad250, e250, hx250_0, hx250_1, hx250_2, hx250_3, hx250_4, hx250_5⟩ := at_T34 HR0.out a2 p250 q250
       obtain rfl : ad249 = ad250 := (by injection e250)
       replace p250 := eq_true p250
       replace q250 := eq_true q250
       go_enter Try.func45, Try.ntmps45
       go_wp2
       go_ret
       exact ⟨by first | rfl | (simp; done) | (simp [*]; done), by repeat (first | exact Drawn0.refl _ | apply Drawn0.step)⟩
     ·rw [if_neg c8] at H
      exact absurd H (by simp)
    ·rw [if_neg c7] at H
     exact absurd H (by simp)
   ·rw [if_neg c6] at H
    have c6b0 : (((rd_T34 l0 a1).f2) == 0) = false := beq_eq_false_iff_ne.mpr c6
    have c6b1 : (((rd_T34 l0 a1).f2) != 0) = true := bne_iff_ne.mpr c6
    obtain rfl := Option.some.inj H
    have p249 : 0 ≤ (a1 : Int) := of_decide_eq_true (by first | (with_reducible assumption) | assumption)
    have q249 : a1 < (l0.length : Int) := of_decide_eq_true (by first | (with_reducible assumption) | assumption)
    obtain ⟨ad249, e249, hx249_0, hx249_1, hx249_2, hx249_3, hx249_4, hx249_5⟩ := at_T34 HR0.out a1 p249 q249
    cases e249
    replace p249 := eq_true p249
    replace q249 := eq_true q249
    go_enter Try.func45, Try.ntmps45
    go_wp2
    go_ret
    exact ⟨by first | rfl | (simp; done) | (simp [*]; done), by repeat (first | exact Drawn0.refl _ | apply Drawn0.step)⟩
  ·rw [if_neg c5] at H
   exact absurd H (by simp)
 ·rw [if_neg c4] at H
  exact absurd H (by simp)
end Go.Proofs.Ytgleaefhflamnaa.T
namespace Go.Proofs.Ytgleaefhflamnaa.T
open Go.RowKit Go.Proofs.YtgleaefhflamnaaW.PrintWords Go.Proofs.YtgleaefhflamnaaW.PrintLast Go.Proofs.YtgleaefhflamnaaW.PrintMore
theorem done_f {k : Nat} {t : List S34} {a1 kind : Int} {mir : Bool} {r1 : List S34} {r2 : Int} (h : steps_Do.f k t a1 kind mir = some (r1, r2)) : larchlaw18_done.f k t a1 kind mir = some (r1, r2 == 0) := by
 unfold larchlaw18_done.f larchlaw18_to.f
 rw [Option.bind_some]
 simp only
 rw [h, Option.bind_some]
end Go.Proofs.Ytgleaefhflamnaa.T
namespace Go.Proofs.Ytgleaefhflamnaa.T
open Go.RowKit Go.Proofs.YtgleaefhflamnaaW.PrintWords Go.Proofs.YtgleaefhflamnaaW.PrintLast Go.Proofs.YtgleaefhflamnaaW.PrintMore
attribute [local go_sem] max2_int min2_int max_two min_two max_three min_three max_four min_four   -- for this text's walks alone
set_option linter.unusedVariables false
set_option linter.unusedSimpArgs false
def larchlaw18_bad.f : Nat → List (S34) → Int → Option (Int)
 | 0, _, _ => none
 | k + 1, l0, a1 => if 0 ≤ a1 then (if a1 < (l0.length : Int) then (if ((rd_T34 l0 a1).f4) ≥ 0 then ((larchlaw18_red.f l0 ((rd_T34 l0 a1).f4) a1).bind fun t254 => ((larchlaw18_red.f l0 ((rd_T34 l0 a1).f5) a1).bind fun t256 => ((larchlaw18_bad.f k l0 ((rd_T34 l0 a1).f4)).bind fun t258 => ((larchlaw18_bad.f k l0 ((rd_T34 l0 a1).f5)).bind fun t260 => (some (wrap64 ((mx (wrap64 (((rd_T34 l0 a1).f2) - 1)) 0) + (wrap64 ((wrap64 ((wrap64 (t254 + t256)) + t258)) + t260))))))))) else (some (mx (wrap64 (((rd_T34 l0 a1).f2) - 1)) 0))) else (none)) else (none)
theorem larchlaw18_bad.mono_l : ∀ k, (∀ y0 y1, LeO (larchlaw18_bad.f k y0 y1) (larchlaw18_bad.f (k + 1) y0 y1))
 | 0 => fun _ _ r h => by simp [larchlaw18_bad.f] at h
 | k + 1 => by
  have ih0 := larchlaw18_bad.mono_l k
  ·intro y0 y1
   unfold larchlaw18_bad.f
   repeat' first
   | (with_reducible exact ih0 _ _)
   | (with_reducible exact LeO.refl _)
   | (with_reducible exact LeO.none _)
   | (with_reducible refine LeO.ite ?_ ?_)
   | (with_reducible refine LeO.bind ?_ (fun _ => ?_))
   | exact ih0 _ _
   | exact LeO.none _
   | refine LeO.ite ?_ ?_
   | refine LeO.bind ?_ (fun _ => ?_)
theorem larchlaw18_bad.mono : ∀ a0 a1 k, LeO (larchlaw18_bad.f k a0 a1) (larchlaw18_bad.f (k + 1) a0 a1) := by
 intro a0 a1 k
 have ih0 := larchlaw18_bad.mono_l k
 exact ih0 a0 a1
def larchlaw18_bad.T3 : Bool × List (List Nat × List Nat) := (true, [([], []), ([], []), ([], []), ([], []), ([2, 3], [2, 3]), ([4], [4]), ([5], [5]), ([], []), ([1, 6, 7], [1, 6, 7]), ([], []), ([], []), ([], []), ([10, 11], [10, 11]), ([12], [12]), ([13], [13]), ([], []), ([9, 14, 15, 8], [9, 14, 15]), ([8, 16], [8, 16]), ([], []), ([], []), ([], []), ([19, 20], [19, 20]), ([21], [21]), ([22], [22]), ([18, 23, 16], [18, 23]), ([17, 24], [17, 24]), ([], []), ([], []), ([], []), ([27, 28], [27, 28]), ([29], [29]), ([30], [30]), ([26, 31, 24], [26, 31]), ([25, 32], [25, 32]), ([0, 33], [0, 33]), ([34, 32, 0, 1, 2, 3, 4, 5, 6, 7, 8, 9, 10, 11, 12, 13, 14, 15, 16, 17, 18, 19, 20, 21, 22, 23, 24, 25, 26, 27, 28, 29, 30, 31, 32, 33, 34], [0, 34])])
def larchlaw18_bad.B3 : List Nat := [0, 0, 0, 0, 12, 28, 60, 0, 254, 0, 0, 0, 3072, 7168, 15360, 0, 65534, 131070, 0, 0, 0, 1572864, 3670016, 7864320, 16646142, 33554430, 0, 0, 0, 402653184, 939524096, 2013265920, 4261281790, 8589934590, 17179869183, 34359738367]
theorem larchlaw18_bad.tab3 : rtab .any (opsOf Try.f14 3) = larchlaw18_bad.T3 := by kernel_rfl
theorem larchlaw18_bad.bits3 : waitsOk larchlaw18_bad.T3.2 larchlaw18_bad.B3 = true := by kernel_rfl
set_option maxHeartbeats 8000000 in
set_option maxRecDepth 100000 in
theorem larchlaw18_bad.calls (k : Nat) : ∀ (A0 : Option Addr) (c0 : Nat) (l0 : List (S34)) (a1 : Int) (r : Int) (w : World) (hr0 : Kd.C k34 w A0 l0.length l0) (hc0 : l0.length ≤ c0) (h : larchlaw18_bad.f k l0 a1 = some r),
  Calls Try.prog 14 #[.slice A0 l0.length c0, .int .i64 a1] w fun e w' => e = .returned (.int .i64 r) ∧ Below w.heap.size w w' := by
 induction k using Nat.strongRecOn with
 | _ k ih =>
 intro A0 c0 l0 a1 r w hr0 hc0 h
 cases k with
 | zero => exact absurd h (by simp [larchlaw18_bad.f])
 | succ k =>
 simp only [larchlaw18_bad.f] at h
 have HR0 := Am hr0
 have HC0 := Am hc0
 clear hr0 hc0
 have HB := Am (Below.refl w.heap.size w)
 have H : (if 0 ≤ a1 then (if a1 < (l0.length : Int) then (if ((rd_T34 l0 a1).f4) ≥ 0 then ((larchlaw18_red.f l0 ((rd_T34 l0 a1).f4) a1).bind fun t254 => ((larchlaw18_red.f l0 ((rd_T34 l0 a1).f5) a1).bind fun t256 => ((larchlaw18_bad.f k l0 ((rd_T34 l0 a1).f4)).bind fun t258 => ((larchlaw18_bad.f k l0 ((rd_T34 l0 a1).f5)).bind fun t260 => (some (wrap64 ((mx (wrap64 (((rd_T34 l0 a1).f2) - 1)) 0) + (wrap64 ((wrap64 ((wrap64 (t254 + t256)) + t258)) + t260))))))))) else (some (mx (wrap64 (((rd_T34 l0 a1).f2) - 1)) 0))) else (none)) else (none)) = some r := h
 clear h
 by_cases c3 : 0 ≤ a1
 ·rw [if_pos c3] at H
  have c3b0 : decide (0 ≤ a1) = true := decide_eq_true c3
  clear c3
  by_cases c4 : a1 < (l0.length : Int)
  ·rw [if_pos c4] at H
   have c4b0 : decide (a1 < (l0.length : Int)) = true := decide_eq_true c4
   clear c4
   obtain ⟨ji5, hji5⟩ : ∃ j_ : Int, (mx (wrap64 (((rd_T34 l0 a1).f2) - 1)) 0) = j_ := ⟨_, rfl⟩
   replace H : (if ((rd_T34 l0 a1).f4) ≥ 0 then ((larchlaw18_red.f l0 ((rd_T34 l0 a1).f4) a1).bind fun t254 => ((larchlaw18_red.f l0 ((rd_T34 l0 a1).f5) a1).bind fun t256 => ((larchlaw18_bad.f k l0 ((rd_T34 l0 a1).f4)).bind fun t258 => ((larchlaw18_bad.f k l0 ((rd_T34 l0 a1).f5)).bind fun t260 => (some (wrap64 ((ji5) + (wrap64 ((wrap64 ((wrap64 (t254 + t256)) + t258)) + t260))))))))) else (some ji5)) = some r := by first | (rw [hji5] at H; exact H) | (simp only [hji5] at H ⊢; exact H)
   (try (have hji5l : 0 ≤ ji5 := by (rw [← hji5]; unfold mx; (repeat' split) <;> omega)))
   (try (have hji5m : 0 ≤ ji5 := by omega))
   have hji5_ : (if (wrap64 (((rd_T34 l0 a1).f2) - 1)) < 0 then 0 else (wrap64 (((rd_T34 l0 a1).f2) - 1))) = ji5 := hji5
   by_cases c6 : ((rd_T34 l0 a1).f4) ≥ 0
   ·rw [if_pos c6] at H
    have c6b0 : decide (0 ≤ ((rd_T34 l0 a1).f4)) = true := decide_eq_true c6
    clear c6
    replace H := Option.bind_eq_some_iff.mp H
    obtain ⟨t254, A70, H⟩ := H
    replace H : ((larchlaw18_red.f l0 ((rd_T34 l0 a1).f5) a1).bind fun t256 => ((larchlaw18_bad.f k l0 ((rd_T34 l0 a1).f4)).bind fun t258 => ((larchlaw18_bad.f k l0 ((rd_T34 l0 a1).f5)).bind fun t260 => (some (wrap64 ((ji5) + (wrap64 ((wrap64 ((wrap64 (t254 + t256)) + t258)) + t260)))))))) = some r := H
    have A7 := Am A70
    clear A70
    replace H := Option.bind_eq_some_iff.mp H
    obtain ⟨t256, A80, H⟩ := H
    replace H : ((larchlaw18_bad.f k l0 ((rd_T34 l0 a1).f4)).bind fun t258 => ((larchlaw18_bad.f k l0 ((rd_T34 l0 a1).f5)).bind fun t260 => (some (wrap64 ((ji5) + (wrap64 ((wrap64 ((wrap64 (t254 + t256)) + t258)) + t260))))))) = some r := H
    have A8 := Am A80
    clear A80
    replace H := Option.bind_eq_some_iff.mp H
    obtain ⟨t258, A90, H⟩ := H
    replace H : ((larchlaw18_bad.f k l0 ((rd_T34 l0 a1).f5)).bind fun t260 => (some (wrap64 ((ji5) + (wrap64 ((wrap64 ((wrap64 (t254 + t256)) + t258)) + t260)))))) = some r := H
    have A9 := Am A90
    clear A90
    replace H := Option.bind_eq_some_iff.mp H
    obtain ⟨t260, A100, H⟩ := H
    replace H : (some (wrap64 ((ji5) + (wrap64 ((wrap64 ((wrap64 (t254 + t256)) + t258)) + t260))))) = some r := H
    have A10 := Am A100
    clear A100
    obtain rfl := Option.some.inj H
    have p251 : 0 ≤ (a1 : Int) := of_decide_eq_true (by first | (with_reducible assumption) | assumption)
    have q251 : a1 < (l0.length : Int) := of_decide_eq_true (by first | (with_reducible assumption) | assumption)
    obtain ⟨ad251, e251, hx251_0, hx251_1, hx251_2, hx251_3, hx251_4, hx251_5⟩ := at_T34 HR0.out a1 p251 q251
    cases e251
    replace p251 := eq_true p251
    replace q251 := eq_true q251
    have p252 : 0 ≤ (a1 : Int) := of_decide_eq_true (by first | (with_reducible assumption) | assumption)
    have q252 : a1 < (l0.length : Int) := of_decide_eq_true (by first | (with_reducible assumption) | assumption)
    obtain ⟨ad252, e252, hx252_0, hx252_1, hx252_2, hx252_3, hx252_4, hx252_5⟩ := at_T34 HR0.out a1 p252 q252
    obtain rfl : ad251 = ad252 := (by injection e252)
    replace p252 := eq_true p252
    replace q252 := eq_true q252
    go_enter Try.func14, Try.ntmps14
    try go_wp2
    have n0_ := Am (bd HB.out)
    clear HB
    have HB := n0_
    clear n0_
    have p253 : 0 ≤ (a1 : Int) := of_decide_eq_true (by first | (with_reducible assumption) | assumption)
    have q253 : a1 < (l0.length : Int) := of_decide_eq_true (by first | (with_reducible assumption) | assumption)
    obtain ⟨ad253, e253, hx253_0, hx253_1, hx253_2, hx253_3, hx253_4, hx253_5⟩ := at_T34 HR0.out a1 p253 q253
    have hw253_5 := hx253_5
    have hw253_4 := hx253_4
    have hw253_3 := hx253_3
    have hw253_2 := hx253_2
    have hw253_1 := hx253_1
    have hw253_0 := hx253_0
    obtain rfl : ad251 = ad253 := (by injection e253)
    replace hx253_0 := (HB.out.cell (blt w _ hx253_0)).trans hx253_0
    replace hx253_1 := (HB.out.cell (blt w _ hx253_1)).trans hx253_1
    replace hx253_2 := (HB.out.cell (blt w _ hx253_2)).trans hx253_2
    replace hx253_3 := (HB.out.cell (blt w _ hx253_3)).trans hx253_3
    replace hx253_4 := (HB.out.cell (blt w _ hx253_4)).trans hx253_4
    replace hx253_5 := (HB.out.cell (blt w _ hx253_5)).trans hx253_5
    replace p253 := eq_true p253
    replace q253 := eq_true q253
    have p255 : 0 ≤ (a1 : Int) := of_decide_eq_true (by first | (with_reducible assumption) | assumption)
    have q255 : a1 < (l0.length : Int) := of_decide_eq_true (by first | (with_reducible assumption) | assumption)
    obtain ⟨ad255, e255, hx255_0, hx255_1, hx255_2, hx255_3, hx255_4, hx255_5⟩ := at_T34 HR0.out a1 p255 q255
    have hw255_5 := hx255_5
    have hw255_4 := hx255_4
    have hw255_3 := hx255_3
    have hw255_2 := hx255_2
    have hw255_1 := hx255_1
    have hw255_0 := hx255_0
    obtain rfl : ad251 = ad255 := (by injection e255)
    replace hx255_0 := (HB.out.cell (blt w _ hx255_0)).trans hx255_0
    replace hx255_1 := (HB.out.cell (blt w _ hx255_1)).trans hx255_1
    replace hx255_2 := (HB.out.cell (blt w _ hx255_2)).trans hx255_2
    replace hx255_3 := (HB.out.cell (blt w _ hx255_3)).trans hx255_3
    replace hx255_4 := (HB.out.cell (blt w _ hx255_4)).trans hx255_4
    replace hx255_5 := (HB.out.cell (blt w _ hx255_5)).trans hx255_5
    replace p255 := eq_true p255
    replace q255 := eq_true q255
    have p257 : 0 ≤ (a1 : Int) := of_decide_eq_true (by first | (with_reducible assumption) | assumption)
    have q257 : a1 < (l0.length : Int) := of_decide_eq_true (by first | (with_reducible assumption) | assumption)
    obtain ⟨ad257, e257, hx257_0, hx257_1, hx257_2, hx257_3, hx257_4, hx257_5⟩ := at_T34 HR0.out a1 p257 q257
    have hw257_5 := hx257_5
    have hw257_4 := hx257_4
    have hw257_3 := hx257_3
    have hw257_2 := hx257_2
    have hw257_1 := hx257_1
    have hw257_0 := hx257_0
    obtain rfl : ad251 = ad257 := (by injection e257)
    replace hx257_0 := (HB.out.cell (blt w _ hx257_0)).trans hx257_0
    replace hx257_1 := (HB.out.cell (blt w _ hx257_1)).trans hx257_1
    replace hx257_2 := (HB.out.cell (blt w _ hx257_2)).trans hx257_2
    replace hx257_3 := (HB.out.cell (blt w _ hx257_3)).trans hx257_3
    replace hx257_4 := (HB.out.cell (blt w _ hx257_4)).trans hx257_4
    replace hx257_5 := (HB.out.cell (blt w _ hx257_5)).trans hx257_5
    replace p257 := eq_true p257
    replace q257 := eq_true q257
    have p259 : 0 ≤ (a1 : Int) := of_decide_eq_true (by first | (with_reducible assumption) | assumption)
    have q259 : a1 < (l0.length : Int) := of_decide_eq_true (by first | (with_reducible assumption) | assumption)
    obtain ⟨ad259, e259, hx259_0, hx259_1, hx259_2, hx259_3, hx259_4, hx259_5⟩ := at_T34 HR0.out a1 p259 q259
    have hw259_5 := hx259_5
    have hw259_4 := hx259_4
    have hw259_3 := hx259_3
    have hw259_2 := hx259_2
    have hw259_1 := hx259_1
    have hw259_0 := hx259_0
    obtain rfl : ad251 = ad259 := (by injection e259)
    replace hx259_0 := (HB.out.cell (blt w _ hx259_0)).trans hx259_0
    replace hx259_1 := (HB.out.cell (blt w _ hx259_1)).trans hx259_1
    replace hx259_2 := (HB.out.cell (blt w _ hx259_2)).trans hx259_2
    replace hx259_3 := (HB.out.cell (blt w _ hx259_3)).trans hx259_3
    replace hx259_4 := (HB.out.cell (blt w _ hx259_4)).trans hx259_4
    replace hx259_5 := (HB.out.cell (blt w _ hx259_5)).trans hx259_5
    replace p259 := eq_true p259
    replace q259 := eq_true q259
    refine start_ (n := 36) (S := fun w' => w'.cell? (ad251.add ((a1).toNat * 6)) = some (.int .i64 ((rd_T34 l0 a1).f0)) ∧ w'.cell? ⟨(ad251.add ((a1).toNat * 6)).block, (ad251.add ((a1).toNat * 6)).off + 1, none⟩ = some (.int .i64 ((rd_T34 l0 a1).f1)) ∧ w'.cell? ⟨(ad251.add ((a1).toNat * 6)).block, (ad251.add ((a1).toNat * 6)).off + 2, none⟩ = some (.int .i64 ((rd_T34 l0 a1).f2)) ∧ w'.cell? ⟨(ad251.add ((a1).toNat * 6)).block, (ad251.add ((a1).toNat * 6)).off + 3, none⟩ = some (.int .i64 ((rd_T34 l0 a1).f3)) ∧ w'.cell? ⟨(ad251.add ((a1).toNat * 6)).block, (ad251.add ((a1).toNat * 6)).off + 4, none⟩ = some (.int .i64 ((rd_T34 l0 a1).f4)) ∧ w'.cell? ⟨(ad251.add ((a1).toNat * 6)).block, (ad251.add ((a1).toNat * 6)).off + 5, none⟩ = some (.int .i64 ((rd_T34 l0 a1).f5)) ∧ w'.cell? (ad251.add ((a1).toNat * 6)) = some (.int .i64 ((rd_T34 l0 a1).f0)) ∧ w'.cell? ⟨(ad251.add ((a1).toNat * 6)).block, (ad251.add ((a1).toNat * 6)).off + 1, none⟩ = some (.int .i64 ((rd_T34 l0 a1).f1)) ∧ w'.cell? ⟨(ad251.add ((a1).toNat * 6)).block, (ad251.add ((a1).toNat * 6)).off + 2, none⟩ = some (.int .i64 ((rd_T34 l0 a1).f2)) ∧ w'.cell? ⟨(ad251.add ((a1).toNat * 6)).block, (ad251.add ((a1).toNat * 6)).off + 3, none⟩ = some (.int .i64 ((rd_T34 l0 a1).f3)) ∧ w'.cell? ⟨(ad251.add ((a1).toNat * 6)).block, (ad251.add ((a1).toNat * 6)).off + 4, none⟩ = some (.int .i64 ((rd_T34 l0 a1).f4)) ∧ w'.cell? ⟨(ad251.add ((a1).toNat * 6)).block, (ad251.add ((a1).toNat * 6)).off + 5, none⟩ = some (.int .i64 ((rd_T34 l0 a1).f5)) ∧ w'.cell? (ad251.add ((a1).toNat * 6)) = some (.int .i64 ((rd_T34 l0 a1).f0)) ∧ w'.cell? ⟨(ad251.add ((a1).toNat * 6)).block, (ad251.add ((a1).toNat * 6)).off + 1, none⟩ = some (.int .i64 ((rd_T34 l0 a1).f1)) ∧ w'.cell? ⟨(ad251.add ((a1).toNat * 6)).block, (ad251.add ((a1).toNat * 6)).off + 2, none⟩ = some (.int .i64 ((rd_T34 l0 a1).f2)) ∧ w'.cell? ⟨(ad251.add ((a1).toNat * 6)).block, (ad251.add ((a1).toNat * 6)).off + 3, none⟩ = some (.int .i64 ((rd_T34 l0 a1).f3)) ∧ w'.cell? ⟨(ad251.add ((a1).toNat * 6)).block, (ad251.add ((a1).toNat * 6)).off + 4, none⟩ = some (.int .i64 ((rd_T34 l0 a1).f4)) ∧ w'.cell? ⟨(ad251.add ((a1).toNat * 6)).block, (ad251.add ((a1).toNat * 6)).off + 5, none⟩ = some (.int .i64 ((rd_T34 l0 a1).f5)) ∧ w'.cell? (ad251.add ((a1).toNat * 6)) = some (.int .i64 ((rd_T34 l0 a1).f0)) ∧ w'.cell? ⟨(ad251.add ((a1).toNat * 6)).block, (ad251.add ((a1).toNat * 6)).off + 1, none⟩ = some (.int .i64 ((rd_T34 l0 a1).f1)) ∧ w'.cell? ⟨(ad251.add ((a1).toNat * 6)).block, (ad251.add ((a1).toNat * 6)).off + 2, none⟩ = some (.int .i64 ((rd_T34 l0 a1).f2)) ∧ w'.cell? ⟨(ad251.add ((a1).toNat * 6)).block, (ad251.add ((a1).toNat * 6)).off + 3, none⟩ = some (.int .i64 ((rd_T34 l0 a1).f3)) ∧ w'.cell? ⟨(ad251.add ((a1).toNat * 6)).block, (ad251.add ((a1).toNat * 6)).off + 4, none⟩ = some (.int .i64 ((rd_T34 l0 a1).f4)) ∧ w'.cell? ⟨(ad251.add ((a1).toNat * 6)).block, (ad251.add ((a1).toNat * 6)).off + 5, none⟩ = some (.int .i64 ((rd_T34 l0 a1).f5))) (ds := []) #[false, false, false, false, false, false, false, false, false, false, false, false, false, false, false, false, false, false, false, false, false, false, false, false, false, false, false, false, false, false, false, false, false, false, false, false] (by kernel_rfl) rfl rfl ⟨((HB.out.cell (blt w _ hw253_0)).trans hw253_0), ((HB.out.cell (blt w _ hw253_1)).trans hw253_1), ((HB.out.cell (blt w _ hw253_2)).trans hw253_2), ((HB.out.cell (blt w _ hw253_3)).trans hw253_3), ((HB.out.cell (blt w _ hw253_4)).trans hw253_4), ((HB.out.cell (blt w _ hw253_5)).trans hw253_5), ((HB.out.cell (blt w _ hw255_0)).trans hw255_0), ((HB.out.cell (blt w _ hw255_1)).trans hw255_1), ((HB.out.cell (blt w _ hw255_2)).trans hw255_2), ((HB.out.cell (blt w _ hw255_3)).trans hw255_3), ((HB.out.cell (blt w _ hw255_4)).trans hw255_4), ((HB.out.cell (blt w _ hw255_5)).trans hw255_5), ((HB.out.cell (blt w _ hw257_0)).trans hw257_0), ((HB.out.cell (blt w _ hw257_1)).trans hw257_1), ((HB.out.cell (blt w _ hw257_2)).trans hw257_2), ((HB.out.cell (blt w _ hw257_3)).trans hw257_3), ((HB.out.cell (blt w _ hw257_4)).trans hw257_4), ((HB.out.cell (blt w _ hw257_5)).trans hw257_5), ((HB.out.cell (blt w _ hw259_0)).trans hw259_0), ((HB.out.cell (blt w _ hw259_1)).trans hw259_1), ((HB.out.cell (blt w _ hw259_2)).trans hw259_2), ((HB.out.cell (blt w _ hw259_3)).trans hw259_3), ((HB.out.cell (blt w _ hw259_4)).trans hw259_4), ((HB.out.cell (blt w _ hw259_5)).trans hw259_5)⟩ (fun hHeld => ?_); refine with_tabW larchlaw18_bad.tab3 larchlaw18_bad.bits3 (fun HT_ HW_ => ?_)
    generalize w.drew = w11 at HB hx253_0 hx253_1 hx253_2 hx253_3 hx253_4 hx253_5 hx255_0 hx255_1 hx255_2 hx255_3 hx255_4 hx255_5 hx257_0 hx257_1 hx257_2 hx257_3 hx257_4 hx257_5 hx259_0 hx259_1 hx259_2 hx259_3 hx259_4 hx259_5 hHeld ⊢
    refine pure_ (i := 0) (N := some 19) (v := ?_) (a' := ?_) #[true, false, false, false, false, false, false, false, false, false, false, false, false, false, false, false, false, false, false, false, false, false, false, false, false, false, false, false, false, false, false, false, false, false, false, false] rfl rfl (any_of HT_.out (by kernel_rfl)) (fun _ _ _ h => h) (Or.inl ⟨by rfl, ?_⟩) ?_ ?_
    rotate_left
    ·intro w'
     go_simp
     with_reducible rfl
    rotate_left
    ·simp only [Act.put, sI, sZ, sS, i64_w, i32_w]
     rfl
    refine pure_ (i := 1) (N := some 20) (v := ?_) (a' := ?_) #[true, true, false, false, false, false, false, false, false, false, false, false, false, false, false, false, false, false, false, false, false, false, false, false, false, false, false, false, false, false, false, false, false, false, false, false] rfl rfl (any_of HT_.out (by kernel_rfl)) (fun _ _ _ h => h) (Or.inl ⟨by rfl, ?_⟩) ?_ ?_
    rotate_left
    ·intro w'
     go_simp
     with_reducible rfl
    rotate_left
    ·simp only [Act.put, sI, sZ, sS, i64_w, i32_w]
     rfl
    refine pure_ (i := 2) (N := some 21) (v := ?_) (a' := ?_) #[true, true, true, false, false, false, false, false, false, false, false, false, false, false, false, false, false, false, false, false, false, false, false, false, false, false, false, false, false, false, false, false, false, false, false, false] rfl rfl (any_of HT_.out (by kernel_rfl)) (fun _ _ _ h => h) (Or.inl ⟨by rfl, ?_⟩) ?_ ?_
    rotate_left
    ·intro w'
     go_simp
     with_reducible rfl
    rotate_left
    ·simp only [Act.put, sI, sZ, sS, i64_w, i32_w]
     rfl
    refine pure_ (i := 3) (N := some 22) (v := ?_) (a' := ?_) #[true, true, true, true, false, false, false, false, false, false, false, false, false, false, false, false, false, false, false, false, false, false, false, false, false, false, false, false, false, false, false, false, false, false, false, false] rfl rfl (any_of HT_.out (by kernel_rfl)) (fun _ _ _ h => h) (Or.inl ⟨by rfl, ?_⟩) ?_ ?_
    rotate_left
    ·intro w'
     go_simp
     with_reducible rfl
    rotate_left
    ·simp only [Act.put, sI, sZ, sS, i64_w, i32_w]
     rfl
    refine pure_ (i := 4) (N := some 23) (v := ?_) (a' := ?_) #[true, true, true, true, true, false, false, false, false, false, false, false, false, false, false, false, false, false, false, false, false, false, false, false, false, false, false, false, false, false, false, false, false, false, false, false] rfl rfl (any_of HT_.out (by kernel_rfl)) (fun _ _ _ h => h) (Or.inl ⟨by rfl, ?_⟩) ?_ ?_
    rotate_left
    ·intro w'
     go_simp
     with_reducible rfl
    rotate_left
    ·simp only [Act.put, sI, sZ, sS, i64_w, i32_w]
     rfl
    refine pure_ (i := 5) (N := some 24) (v := ?_) (a' := ?_) #[true, true, true, true, true, true, false, false, false, false, false, false, false, false, false, false, false, false, false, false, false, false, false, false, false, false, false, false, false, false, false, false, false, false, false, false] rfl rfl (any_of HT_.out (by kernel_rfl)) (fun _ _ _ h => h) (Or.inl ⟨by rfl, ?_⟩) ?_ ?_
    rotate_left
    ·intro w'
     go_simp
     with_reducible rfl
    rotate_left
    ·simp only [Act.put, sI, sZ, sS, i64_w, i32_w]
     rfl
    refine pure_ (i := 7) (N := some 26) (v := ?_) (a' := ?_) #[true, true, true, true, true, true, false, true, false, false, false, false, false, false, false, false, false, false, false, false, false, false, false, false, false, false, false, false, false, false, false, false, false, false, false, false] rfl rfl (any_of HT_.out (by kernel_rfl)) (fun _ _ _ h => h) (Or.inl ⟨by rfl, ?_⟩) ?_ ?_
    rotate_left
    ·intro w'
     go_simp
     with_reducible rfl
    rotate_left
    ·simp only [Act.put, sI, sZ, sS, i64_w, i32_w]
     rfl
    refine pure_ (i := 9) (N := some 28) (v := ?_) (a' := ?_) #[true, true, true, true, true, true, false, true, false, true, false, false, false, false, false, false, false, false, false, false, false, false, false, false, false, false, false, false, false, false, false, false, false, false, false, false] rfl rfl (any_of HT_.out (by kernel_rfl)) (fun _ _ _ h => h) (Or.inl ⟨by rfl, ?_⟩) ?_ ?_
    rotate_left
    ·intro w'
     go_simp
     with_reducible rfl
    rotate_left
    ·simp only [Act.put, sI, sZ, sS, i64_w, i32_w]
     rfl
    refine pure_ (i := 10) (N := some 29) (v := ?_) (a' := ?_) #[true, true, true, true, true, true, false, true, false, true, true, false, false, false, false, false, false, false, false, false, false, false, false, false, false, false, false, false, false, false, false, false, false, false, false, false] rfl rfl (any_of HT_.out (by kernel_rfl)) (fun _ _ _ h => h) (Or.inl ⟨by rfl, ?_⟩) ?_ ?_
    rotate_left
    ·intro w'
     go_simp
     with_reducible rfl
    rotate_left
    ·simp only [Act.put, sI, sZ, sS, i64_w, i32_w]
     rfl
    refine pure_ (i := 11) (N := some 30) (v := ?_) (a' := ?_) #[true, true, true, true, true, true, false, true, false, true, true, true, false, false, false, false, false, false, false, false, false, false, false, false, false, false, false, false, false, false, false, false, false, false, false, false] rfl rfl (any_of HT_.out (by kernel_rfl)) (fun _ _ _ h => h) (Or.inl ⟨by rfl, ?_⟩) ?_ ?_
    rotate_left
    ·intro w'
     go_simp
     with_reducible rfl
    rotate_left
    ·simp only [Act.put, sI, sZ, sS, i64_w, i32_w]
     rfl
    refine pure_ (i := 12) (N := some 31) (v := ?_) (a' := ?_) #[true, true, true, true, true, true, false, true, false, true, true, true, true, false, false, false, false, false, false, false, false, false, false, false, false, false, false, false, false, false, false, false, false, false, false, false] rfl rfl (any_of HT_.out (by kernel_rfl)) (fun _ _ _ h => h) (Or.inl ⟨by rfl, ?_⟩) ?_ ?_
    rotate_left
    ·intro w'
     go_simp
     with_reducible rfl
    rotate_left
    ·simp only [Act.put, sI, sZ, sS, i64_w, i32_w]
     rfl
    refine pure_ (i := 13) (N := some 32) (v := ?_) (a' := ?_) #[true, true, true, true, true, true, false, true, false, true, true, true, true, true, false, false, false, false, false, false, false, false, false, false, false, false, false, false, false, false, false, false, false, false, false, false] rfl rfl (any_of HT_.out (by kernel_rfl)) (fun _ _ _ h => h) (Or.inl ⟨by rfl, ?_⟩) ?_ ?_
    rotate_left
    ·intro w'
     go_simp
     with_reducible rfl
    rotate_left
    ·simp only [Act.put, sI, sZ, sS, i64_w, i32_w]
     rfl
    refine pure_ (i := 15) (N := some 34) (v := ?_) (a' := ?_) #[true, true, true, true, true, true, false, true, false, true, true, true, true, true, false, true, false, false, false, false, false, false, false, false, false, false, false, false, false, false, false, false, false, false, false, false] rfl rfl (any_of HT_.out (by kernel_rfl)) (fun _ _ _ h => h) (Or.inl ⟨by rfl, ?_⟩) ?_ ?_
    rotate_left
    ·intro w'
     go_simp
     with_reducible rfl
    rotate_left
    ·simp only [Act.put, sI, sZ, sS, i64_w, i32_w]
     rfl
    refine pure_ (i := 18) (N := some 37) (v := ?_) (a' := ?_) #[true, true, true, true, true, true, false, true, false, true, true, true, true, true, false, true, false, false, true, false, false, false, false, false, false, false, false, false, false, false, false, false, false, false, false, false] rfl rfl (any_of HT_.out (by kernel_rfl)) (fun _ _ _ h => h) (Or.inl ⟨by rfl, ?_⟩) ?_ ?_
    rotate_left
    ·intro w'
     go_simp
     with_reducible rfl
    rotate_left
    ·simp only [Act.put, sI, sZ, sS, i64_w, i32_w]
     rfl
    refine pure_ (i := 19) (N := some 38) (v := ?_) (a' := ?_) #[true, true, true, true, true, true, false, true, false, true, true, true, true, true, false, true, false, false, true, true, false, false, false, false, false, false, false, false, false, false, false, false, false, false, false, false] rfl rfl (any_of HT_.out (by kernel_rfl)) (fun _ _ _ h => h) (Or.inl ⟨by rfl, ?_⟩) ?_ ?_
    rotate_left
    ·intro w'
     go_simp
     with_reducible rfl
    rotate_left
    ·simp only [Act.put, sI, sZ, sS, i64_w, i32_w]
     rfl
    refine pure_ (i := 20) (N := some 39) (v := ?_) (a' := ?_) #[true, true, true, true, true, true, false, true, false, true, true, true, true, true, false, true, false, false, true, true, true, false, false, false, false, false, false, false, false, false, false, false, false, false, false, false] rfl rfl (any_of HT_.out (by kernel_rfl)) (fun _ _ _ h => h) (Or.inl ⟨by rfl, ?_⟩) ?_ ?_
    rotate_left
    ·intro w'
     go_simp
     with_reducible rfl
    rotate_left
    ·simp only [Act.put, sI, sZ, sS, i64_w, i32_w]
     rfl
    refine pure_ (i := 21) (N := some 40) (v := ?_) (a' := ?_) #[true, true, true, true, true, true, false, true, false, true, true, true, true, true, false, true, false, false, true, true, true, true, false, false, false, false, false, false, false, false, false, false, false, false, false, false] rfl rfl (any_of HT_.out (by kernel_rfl)) (fun _ _ _ h => h) (Or.inl ⟨by rfl, ?_⟩) ?_ ?_
    rotate_left
    ·intro w'
     go_simp
     with_reducible rfl
    rotate_left
    ·simp only [Act.put, sI, sZ, sS, i64_w, i32_w]
     rfl
    refine pure_ (i := 22) (N := some 41) (v := ?_) (a' := ?_) #[true, true, true, true, true, true, false, true, false, true, true, true, true, true, false, true, false, false, true, true, true, true, true, false, false, false, false, false, false, false, false, false, false, false, false, false] rfl rfl (any_of HT_.out (by kernel_rfl)) (fun _ _ _ h => h) (Or.inl ⟨by rfl, ?_⟩) ?_ ?_
    rotate_left
    ·intro w'
     go_simp
     with_reducible rfl
    rotate_left
    ·simp only [Act.put, sI, sZ, sS, i64_w, i32_w]
     rfl
    refine pure_ (i := 26) (N := some 45) (v := ?_) (a' := ?_) #[true, true, true, true, true, true, false, true, false, true, true, true, true, true, false, true, false, false, true, true, true, true, true, false, false, false, true, false, false, false, false, false, false, false, false, false] rfl rfl (any_of HT_.out (by kernel_rfl)) (fun _ _ _ h => h) (Or.inl ⟨by rfl, ?_⟩) ?_ ?_
    rotate_left
    ·intro w'
     go_simp
     with_reducible rfl
    rotate_left
    ·simp only [Act.put, sI, sZ, sS, i64_w, i32_w]
     rfl
    refine pure_ (i := 27) (N := some 46) (v := ?_) (a' := ?_) #[true, true, true, true, true, true, false, true, false, true, true, true, true, true, false, true, false, false, true, true, true, true, true, false, false, false, true, true, false, false, false, false, false, false, false, false] rfl rfl (any_of HT_.out (by kernel_rfl)) (fun _ _ _ h => h) (Or.inl ⟨by rfl, ?_⟩) ?_ ?_
    rotate_left
    ·intro w'
     go_simp
     with_reducible rfl
    rotate_left
    ·simp only [Act.put, sI, sZ, sS, i64_w, i32_w]
     rfl
    refine pure_ (i := 28) (N := some 47) (v := ?_) (a' := ?_) #[true, true, true, true, true, true, false, true, false, true, true, true, true, true, false, true, false, false, true, true, true, true, true, false, false, false, true, true, true, false, false, false, false, false, false, false] rfl rfl (any_of HT_.out (by kernel_rfl)) (fun _ _ _ h => h) (Or.inl ⟨by rfl, ?_⟩) ?_ ?_
    rotate_left
    ·intro w'
     go_simp
     with_reducible rfl
    rotate_left
    ·simp only [Act.put, sI, sZ, sS, i64_w, i32_w]
     rfl
    refine pure_ (i := 29) (N := some 48) (v := ?_) (a' := ?_) #[true, true, true, true, true, true, false, true, false, true, true, true, true, true, false, true, false, false, true, true, true, true, true, false, false, false, true, true, true, true, false, false, false, false, false, false] rfl rfl (any_of HT_.out (by kernel_rfl)) (fun _ _ _ h => h) (Or.inl ⟨by rfl, ?_⟩) ?_ ?_
    rotate_left
    ·intro w'
     go_simp
     with_reducible rfl
    rotate_left
    ·simp only [Act.put, sI, sZ, sS, i64_w, i32_w]
     rfl
    refine pure_ (i := 30) (N := some 49) (v := ?_) (a' := ?_) #[true, true, true, true, true, true, false, true, false, true, true, true, true, true, false, true, false, false, true, true, true, true, true, false, false, false, true, true, true, true, true, false, false, false, false, false] rfl rfl (any_of HT_.out (by kernel_rfl)) (fun _ _ _ h => h) (Or.inl ⟨by rfl, ?_⟩) ?_ ?_
    rotate_left
    ·intro w'
     go_simp
     with_reducible rfl
    rotate_left
    ·simp only [Act.put, sI, sZ, sS, i64_w, i32_w]
     rfl
    refine take_ (i := 6) (N := some 25) (v := ?_) (a' := ?_) #[true, true, true, true, true, true, true, true, false, true, true, true, true, true, false, true, false, false, true, true, true, true, true, false, false, false, true, true, true, true, true, false, false, false, false, false] rfl rfl (take_ofW HT_.out HW_.out (by kernel_rfl)) (fun _ _ _ h => h) (Or.inl ⟨by rfl, ?_⟩) hHeld ?_ ?_
    rotate_left
    ·rintro w' ⟨s0, s1, s2, s3, s4, s5, s6, s7, s8, s9, s10, s11, s12, s13, s14, s15, s16, s17, s18, s19, s20, s21, s22, s23⟩
     go_simp
     with_reducible rfl
    rotate_left
    ·simp only [Act.put, sI, sZ, sS, i64_w, i32_w]
     rfl
    refine take_ (i := 14) (N := some 33) (v := ?_) (a' := ?_) #[true, true, true, true, true, true, true, true, false, true, true, true, true, true, true, true, false, false, true, true, true, true, true, false, false, false, true, true, true, true, true, false, false, false, false, false] rfl rfl (take_ofW HT_.out HW_.out (by kernel_rfl)) (fun _ _ _ h => h) (Or.inl ⟨by rfl, ?_⟩) hHeld ?_ ?_
    rotate_left
    ·rintro w' ⟨s0, s1, s2, s3, s4, s5, s6, s7, s8, s9, s10, s11, s12, s13, s14, s15, s16, s17, s18, s19, s20, s21, s22, s23⟩
     go_simp
     with_reducible rfl
    rotate_left
    ·simp only [Act.put, sI, sZ, sS, i64_w, i32_w]
     rfl
    refine take_ (i := 23) (N := some 42) (v := ?_) (a' := ?_) #[true, true, true, true, true, true, true, true, false, true, true, true, true, true, true, true, false, false, true, true, true, true, true, true, false, false, true, true, true, true, true, false, false, false, false, false] rfl rfl (take_ofW HT_.out HW_.out (by kernel_rfl)) (fun _ _ _ h => h) (Or.inl ⟨by rfl, ?_⟩) hHeld ?_ ?_
    rotate_left
    ·rintro w' ⟨s0, s1, s2, s3, s4, s5, s6, s7, s8, s9, s10, s11, s12, s13, s14, s15, s16, s17, s18, s19, s20, s21, s22, s23⟩
     go_simp
     with_reducible rfl
    rotate_left
    ·simp only [Act.put, sI, sZ, sS, i64_w, i32_w]
     rfl
    refine take_ (i := 31) (N := some 50) (v := ?_) (a' := ?_) #[true, true, true, true, true, true, true, true, false, true, true, true, true, true, true, true, false, false, true, true, true, true, true, true, false, false, true, true, true, true, true, true, false, false, false, false] rfl rfl (take_ofW HT_.out HW_.out (by kernel_rfl)) (fun _ _ _ h => h) (Or.inl ⟨by rfl, ?_⟩) hHeld ?_ ?_
    rotate_left
    ·rintro w' ⟨s0, s1, s2, s3, s4, s5, s6, s7, s8, s9, s10, s11, s12, s13, s14, s15, s16, s17, s18, s19, s20, s21, s22, s23⟩
     go_simp
     with_reducible rfl
    rotate_left
    ·simp only [Act.put, sI, sZ, sS, i64_w, i32_w]
     rfl
    refine one_ (i := 8) (N := some 27) #[true, true, true, true, true, true, true, true, true, true, true, true, true, true, true, true, false, false, true, true, true, true, true, true, false, false, true, true, true, true, true, true, false, false, false, false] rfl rfl (one_of HT_.out (by kernel_rfl)) (by decide) (fun K hK => ?_)
    refine goes_ Try.func45 (by kernel_rfl) rfl #[.slice (some ad251) l0.length c0, .int .i64 ((rd_T34 l0 a1).f4), .int .i64 a1] (by rfl) rfl rfl (by (try simp only [List.map_toArray, List.map_cons, List.map_nil]); first | done | rfl | (simp only [List.length_drop, List.length_take]; rfl)) ?_
    with_reducible refine (larchlaw18_red.calls _ _ l0 ((rd_T34 l0 a1).f4) a1 t254 _ ?side1 ?side2 A7.out).mono ?_
    (case side1 => repeat (first | exact (Kd.C_below HR0.out HB.out) | (with_reducible refine Kd.C_alloc ?_ _) | (with_reducible refine Kd.C_drewN ?_ _) | (with_reducible refine Kd.C_drew ?_)))
    (case side2 => exact HC0.out)
    rintro e w' ⟨rfl, ⟨nd, rfl⟩⟩
    refine ⟨_, rfl, ?_⟩
    refine hK.out _ _ ⟨((HB.out.cell (blt w _ hw253_0)).trans hw253_0), ((HB.out.cell (blt w _ hw253_1)).trans hw253_1), ((HB.out.cell (blt w _ hw253_2)).trans hw253_2), ((HB.out.cell (blt w _ hw253_3)).trans hw253_3), ((HB.out.cell (blt w _ hw253_4)).trans hw253_4), ((HB.out.cell (blt w _ hw253_5)).trans hw253_5), ((HB.out.cell (blt w _ hw255_0)).trans hw255_0), ((HB.out.cell (blt w _ hw255_1)).trans hw255_1), ((HB.out.cell (blt w _ hw255_2)).trans hw255_2), ((HB.out.cell (blt w _ hw255_3)).trans hw255_3), ((HB.out.cell (blt w _ hw255_4)).trans hw255_4), ((HB.out.cell (blt w _ hw255_5)).trans hw255_5), ((HB.out.cell (blt w _ hw257_0)).trans hw257_0), ((HB.out.cell (blt w _ hw257_1)).trans hw257_1), ((HB.out.cell (blt w _ hw257_2)).trans hw257_2), ((HB.out.cell (blt w _ hw257_3)).trans hw257_3), ((HB.out.cell (blt w _ hw257_4)).trans hw257_4), ((HB.out.cell (blt w _ hw257_5)).trans hw257_5), ((HB.out.cell (blt w _ hw259_0)).trans hw259_0), ((HB.out.cell (blt w _ hw259_1)).trans hw259_1), ((HB.out.cell (blt w _ hw259_2)).trans hw259_2), ((HB.out.cell (blt w _ hw259_3)).trans hw259_3), ((HB.out.cell (blt w _ hw259_4)).trans hw259_4), ((HB.out.cell (blt w _ hw259_5)).trans hw259_5)⟩ (fun hHeld => ?_)
    clear hK K
    refine norm_ (a' := ?_) ?_ ?_
    rotate_left
    ·show Act.put _ (some 27) _ = _
     simp only [Act.put, sI, sZ, sS, i64_w, i32_w]
     rfl
    refine one_ (i := 16) (N := some 35) #[true, true, true, true, true, true, true, true, true, true, true, true, true, true, true, true, true, false, true, true, true, true, true, true, false, false, true, true, true, true, true, true, false, false, false, false] rfl rfl (one_of HT_.out (by kernel_rfl)) (by decide) (fun K hK => ?_)
    refine goes_ Try.func45 (by kernel_rfl) rfl #[.slice (some ad251) l0.length c0, .int .i64 ((rd_T34 l0 a1).f5), .int .i64 a1] (by rfl) rfl rfl (by (try simp only [List.map_toArray, List.map_cons, List.map_nil]); first | done | rfl | (simp only [List.length_drop, List.length_take]; rfl)) ?_
    with_reducible refine (larchlaw18_red.calls _ _ l0 ((rd_T34 l0 a1).f5) a1 t256 _ ?side1 ?side2 A8.out).mono ?_
    (case side1 => repeat (first | exact (Kd.C_below HR0.out (by repeat (first | (with_reducible first | exact HB.out | apply ba | apply bn | apply bd) | exact HB.out))) | (with_reducible refine Kd.C_alloc ?_ _) | (with_reducible refine Kd.C_drewN ?_ _) | (with_reducible refine Kd.C_drew ?_)))
    (case side2 => exact HC0.out)
    rintro e w' ⟨rfl, ⟨nd, rfl⟩⟩
    refine ⟨_, rfl, ?_⟩
    refine hK.out _ _ ⟨((HB.out.cell (blt w _ hw253_0)).trans hw253_0), ((HB.out.cell (blt w _ hw253_1)).trans hw253_1), ((HB.out.cell (blt w _ hw253_2)).trans hw253_2), ((HB.out.cell (blt w _ hw253_3)).trans hw253_3), ((HB.out.cell (blt w _ hw253_4)).trans hw253_4), ((HB.out.cell (blt w _ hw253_5)).trans hw253_5), ((HB.out.cell (blt w _ hw255_0)).trans hw255_0), ((HB.out.cell (blt w _ hw255_1)).trans hw255_1), ((HB.out.cell (blt w _ hw255_2)).trans hw255_2), ((HB.out.cell (blt w _ hw255_3)).trans hw255_3), ((HB.out.cell (blt w _ hw255_4)).trans hw255_4), ((HB.out.cell (blt w _ hw255_5)).trans hw255_5), ((HB.out.cell (blt w _ hw257_0)).trans hw257_0), ((HB.out.cell (blt w _ hw257_1)).trans hw257_1), ((HB.out.cell (blt w _ hw257_2)).trans hw257_2), ((HB.out.cell (blt w _ hw257_3)).trans hw257_3), ((HB.out.cell (blt w _ hw257_4)).trans hw257_4), ((HB.out.cell (blt w _ hw257_5)).trans hw257_5), ((HB.out.cell (blt w _ hw259_0)).trans hw259_0), ((HB.out.cell (blt w _ hw259_1)).trans hw259_1), ((HB.out.cell (blt w _ hw259_2)).trans hw259_2), ((HB.out.cell (blt w _ hw259_3)).trans hw259_3), ((HB.out.cell (blt w _ hw259_4)).trans hw259_4), ((HB.out.cell (blt w _ hw259_5)).trans hw259_5)⟩ (fun hHeld => ?_)
    clear hK K
    refine norm_ (a' := ?_) ?_ ?_
    rotate_left
    ·show Act.put _ (some 35) _ = _
     simp only [Act.put, sI, sZ, sS, i64_w, i32_w]
     rfl
    refine pure_ (i := 17) (N := some 36) (v := ?_) (a' := ?_) #[true, true, true, true, true, true, true, true, true, true, true, true, true, true, true, true, true, true, true, true, true, true, true, true, false, false, true, true, true, true, true, true, false, false, false, false] rfl rfl (any_of HT_.out (by kernel_rfl)) (fun _ _ _ h => h) (Or.inl ⟨by rfl, ?_⟩) ?_ ?_
    rotate_left
    ·intro w'
     go_simp
     with_reducible rfl
    rotate_left
    ·simp only [Act.put, sI, sZ, sS, i64_w, i32_w]
     rfl
    refine one_ (i := 24) (N := some 43) #[true, true, true, true, true, true, true, true, true, true, true, true, true, true, true, true, true, true, true, true, true, true, true, true, true, false, true, true, true, true, true, true, false, false, false, false] rfl rfl (one_of HT_.out (by kernel_rfl)) (by decide) (fun K hK => ?_)
    refine goes_ Try.func14 (by kernel_rfl) rfl #[.slice (some ad251) l0.length c0, .int .i64 ((rd_T34 l0 a1).f4)] (by rfl) rfl rfl (by (try simp only [List.map_toArray, List.map_cons, List.map_nil]); first | done | rfl | (simp only [List.length_drop, List.length_take]; rfl)) ?_
    with_reducible refine (ih k (by omega) _ _ l0 ((rd_T34 l0 a1).f4) t258 _ ?side1 ?side2 A9.out).mono ?_
    (case side1 => repeat (first | exact (Kd.C_below HR0.out (by repeat (first | (with_reducible first | exact HB.out | apply ba | apply bn | apply bd) | exact HB.out))) | (with_reducible refine Kd.C_alloc ?_ _) | (with_reducible refine Kd.C_drewN ?_ _) | (with_reducible refine Kd.C_drew ?_)))
    (case side2 => exact HC0.out)
    rintro e w12 ⟨rfl, hb⟩
    refine ⟨_, rfl, ?_⟩
    have n0_ := Am (below_step (by repeat (first | (with_reducible first | exact HB.out | apply ba | apply bn | apply bd) | exact HB.out)) hb)
    clear HB
    have HB := n0_
    clear n0_
    (try clear hb)
    (try clear hb2)
    (try clear hk)
    (try clear hi)
    refine hK.out _ _ ⟨((HB.out.cell (blt w _ hw253_0)).trans hw253_0), ((HB.out.cell (blt w _ hw253_1)).trans hw253_1), ((HB.out.cell (blt w _ hw253_2)).trans hw253_2), ((HB.out.cell (blt w _ hw253_3)).trans hw253_3), ((HB.out.cell (blt w _ hw253_4)).trans hw253_4), ((HB.out.cell (blt w _ hw253_5)).trans hw253_5), ((HB.out.cell (blt w _ hw255_0)).trans hw255_0), ((HB.out.cell (blt w _ hw255_1)).trans hw255_1), ((HB.out.cell (blt w _ hw255_2)).trans hw255_2), ((HB.out.cell (blt w _ hw255_3)).trans hw255_3), ((HB.out.cell (blt w _ hw255_4)).trans hw255_4), ((HB.out.cell (blt w _ hw255_5)).trans hw255_5), ((HB.out.cell (blt w _ hw257_0)).trans hw257_0), ((HB.out.cell (blt w _ hw257_1)).trans hw257_1), ((HB.out.cell (blt w _ hw257_2)).trans hw257_2), ((HB.out.cell (blt w _ hw257_3)).trans hw257_3), ((HB.out.cell (blt w _ hw257_4)).trans hw257_4), ((HB.out.cell (blt w _ hw257_5)).trans hw257_5), ((HB.out.cell (blt w _ hw259_0)).trans hw259_0), ((HB.out.cell (blt w _ hw259_1)).trans hw259_1), ((HB.out.cell (blt w _ hw259_2)).trans hw259_2), ((HB.out.cell (blt w _ hw259_3)).trans hw259_3), ((HB.out.cell (blt w _ hw259_4)).trans hw259_4), ((HB.out.cell (blt w _ hw259_5)).trans hw259_5)⟩ (fun hHeld => ?_)
    clear hK K
    refine norm_ (a' := ?_) ?_ ?_
    rotate_left
    ·show Act.put _ (some 43) _ = _
     simp only [Act.put, sI, sZ, sS, i64_w, i32_w]
     rfl
    refine pure_ (i := 25) (N := some 44) (v := ?_) (a' := ?_) #[true, true, true, true, true, true, true, true, true, true, true, true, true, true, true, true, true, true, true, true, true, true, true, true, true, true, true, true, true, true, true, true, false, false, false, false] rfl rfl (any_of HT_.out (by kernel_rfl)) (fun _ _ _ h => h) (Or.inl ⟨by rfl, ?_⟩) ?_ ?_
    rotate_left
    ·intro w'
     go_simp
     with_reducible rfl
    rotate_left
    ·simp only [Act.put, sI, sZ, sS, i64_w, i32_w]
     rfl
    refine one_ (i := 32) (N := some 51) #[true, true, true, true, true, true, true, true, true, true, true, true, true, true, true, true, true, true, true, true, true, true, true, true, true, true, true, true, true, true, true, true, true, false, false, false] rfl rfl (one_of HT_.out (by kernel_rfl)) (by decide) (fun K hK => ?_)
    refine goes_ Try.func14 (by kernel_rfl) rfl #[.slice (some ad251) l0.length c0, .int .i64 ((rd_T34 l0 a1).f5)] (by rfl) rfl rfl (by (try simp only [List.map_toArray, List.map_cons, List.map_nil]); first | done | rfl | (simp only [List.length_drop, List.length_take]; rfl)) ?_
    with_reducible refine (ih k (by omega) _ _ l0 ((rd_T34 l0 a1).f5) t260 _ ?side1 ?side2 A10.out).mono ?_
    (case side1 => repeat (first | exact (Kd.C_below HR0.out HB.out) | (with_reducible refine Kd.C_alloc ?_ _) | (with_reducible refine Kd.C_drewN ?_ _) | (with_reducible refine Kd.C_drew ?_)))
    (case side2 => exact HC0.out)
    rintro e w13 ⟨rfl, hb⟩
    refine ⟨_, rfl, ?_⟩
    have n0_ := Am (below_step (by repeat (first | (with_reducible first | exact HB.out | apply ba | apply bn | apply bd) | exact HB.out)) hb)
    clear HB
    have HB := n0_
    clear n0_
    (try clear hb)
    (try clear hb2)
    (try clear hk)
    (try clear hi)
    refine hK.out _ _ ⟨((HB.out.cell (blt w _ hw253_0)).trans hw253_0), ((HB.out.cell (blt w _ hw253_1)).trans hw253_1), ((HB.out.cell (blt w _ hw253_2)).trans hw253_2), ((HB.out.cell (blt w _ hw253_3)).trans hw253_3), ((HB.out.cell (blt w _ hw253_4)).trans hw253_4), ((HB.out.cell (blt w _ hw253_5)).trans hw253_5), ((HB.out.cell (blt w _ hw255_0)).trans hw255_0), ((HB.out.cell (blt w _ hw255_1)).trans hw255_1), ((HB.out.cell (blt w _ hw255_2)).trans hw255_2), ((HB.out.cell (blt w _ hw255_3)).trans hw255_3), ((HB.out.cell (blt w _ hw255_4)).trans hw255_4), ((HB.out.cell (blt w _ hw255_5)).trans hw255_5), ((HB.out.cell (blt w _ hw257_0)).trans hw257_0), ((HB.out.cell (blt w _ hw257_1)).trans hw257_1), ((HB.out.cell (blt w _ hw257_2)).trans hw257_2), ((HB.out.cell (blt w _ hw257_3)).trans hw257_3), ((HB.out.cell (blt w _ hw257_4)).trans hw257_4), ((HB.out.cell (blt w _ hw257_5)).trans hw257_5), ((HB.out.cell (blt w _ hw259_0)).trans hw259_0), ((HB.out.cell (blt w _ hw259_1)).trans hw259_1), ((HB.out.cell (blt w _ hw259_2)).trans hw259_2), ((HB.out.cell (blt w _ hw259_3)).trans hw259_3), ((HB.out.cell (blt w _ hw259_4)).trans hw259_4), ((HB.out.cell (blt w _ hw259_5)).trans hw259_5)⟩ (fun hHeld => ?_)
    clear hK K
    refine norm_ (a' := ?_) ?_ ?_
    rotate_left
    ·show Act.put _ (some 51) _ = _
     simp only [Act.put, sI, sZ, sS, i64_w, i32_w]
     rfl
    refine pure_ (i := 33) (N := some 52) (v := ?_) (a' := ?_) #[true, true, true, true, true, true, true, true, true, true, true, true, true, true, true, true, true, true, true, true, true, true, true, true, true, true, true, true, true, true, true, true, true, true, false, false] rfl rfl (any_of HT_.out (by kernel_rfl)) (fun _ _ _ h => h) (Or.inl ⟨by rfl, ?_⟩) ?_ ?_
    rotate_left
    ·intro w'
     go_simp
     with_reducible rfl
    rotate_left
    ·simp only [Act.put, sI, sZ, sS, i64_w, i32_w]
     rfl
    refine pure_ (i := 34) (N := some 53) (v := ?_) (a' := ?_) #[true, true, true, true, true, true, true, true, true, true, true, true, true, true, true, true, true, true, true, true, true, true, true, true, true, true, true, true, true, true, true, true, true, true, true, false] rfl rfl (any_of HT_.out (by kernel_rfl)) (fun _ _ _ h => h) (Or.inl ⟨by rfl, ?_⟩) ?_ ?_
    rotate_left
    ·intro w'
     go_simp
     with_reducible rfl
    rotate_left
    ·simp only [Act.put, sI, sZ, sS, i64_w, i32_w]
     rfl
    refine pure_ (i := 35) (N := some 5) (v := ?_) (a' := ?_) #[true, true, true, true, true, true, true, true, true, true, true, true, true, true, true, true, true, true, true, true, true, true, true, true, true, true, true, true, true, true, true, true, true, true, true, true] rfl rfl (any_of HT_.out (by kernel_rfl)) (fun _ _ _ h => h) (Or.inl ⟨by rfl, ?_⟩) ?_ ?_
    rotate_left
    ·intro w'
     go_simp
     with_reducible rfl
    rotate_left
    ·simp only [Act.put, sI, sZ, sS, i64_w, i32_w]
     rfl
    refine done_ (done_of HT_.out (by kernel_rfl)) ?_
    try go_wp2
    go_ret
    exact ⟨by first | rfl | (simp [errW_none, errW_some] <;> rfl) | (simp only [← hji5]; first | rfl | (simp [errW_none, errW_some] <;> rfl)) | (simp [*, errW_none, errW_some] <;> rfl), by repeat (first | (with_reducible first | exact HB.out | apply ba | apply bn | apply bd) | exact HB.out)⟩
   ·rw [if_neg c6] at H
    have c6b0 : decide (0 ≤ ((rd_T34 l0 a1).f4)) = false := decide_eq_false c6
    clear c6
    obtain rfl := Option.some.inj H
    have p251 : 0 ≤ (a1 : Int) := of_decide_eq_true (by first | (with_reducible assumption) | assumption)
    have q251 : a1 < (l0.length : Int) := of_decide_eq_true (by first | (with_reducible assumption) | assumption)
    obtain ⟨ad251, e251, hx251_0, hx251_1, hx251_2, hx251_3, hx251_4, hx251_5⟩ := at_T34 HR0.out a1 p251 q251
    cases e251
    replace p251 := eq_true p251
    replace q251 := eq_true q251
    have p252 : 0 ≤ (a1 : Int) := of_decide_eq_true (by first | (with_reducible assumption) | assumption)
    have q252 : a1 < (l0.length : Int) := of_decide_eq_true (by first | (with_reducible assumption) | assumption)
    obtain ⟨ad252, e252, hx252_0, hx252_1, hx252_2, hx252_3, hx252_4, hx252_5⟩ := at_T34 HR0.out a1 p252 q252
    obtain rfl : ad251 = ad252 := (by injection e252)
    replace p252 := eq_true p252
    replace q252 := eq_true q252
    go_enter Try.func14, Try.ntmps14
    go_wp2
    go_ret
    exact ⟨by first | rfl | (simp [errW_none, errW_some] <;> rfl) | (simp only [← hji5]; first | rfl | (simp [errW_none, errW_some] <;> rfl)) | (simp [*, errW_none, errW_some] <;> rfl), by repeat (first | (with_reducible first | exact HB.out | apply ba | apply bn | apply bd) | exact HB.out)⟩
  ·rw [if_neg c4] at H
   exact absurd H (by simp)
 ·rw [if_neg c3] at H
  exact absurd H (by simp)
def larchlaw18_StepsViolations.j0 : Nat → List (S34) → List (S34) → Int → Int → Bool → Int → Bool → Option (Bool)
 | 0, _, _, _, _, _, _, _ => none
 | k + 1, x0, x7, x9, x11, x45, x262000, x262001 => if x45 = true then (some false) else ((larchlaw18_bad.f k x0 x9).bind fun t271 => ((larchlaw18_bad.f k x7 x11).bind fun t272 => (if x262000 = 2 then (if t272 ≤ t271 then (some (decide (t272 < t271))) else (some false)) else (if x262000 = 3 then (if t272 ≤ t271 then (some (decide (t272 < t271))) else (some false)) else (if x262000 ≥ 5 then (if t272 ≤ t271 then (if x262000 ≤ 11 then (some (decide (t272 < t271))) else (some true)) else (some false)) else (if t272 ≤ t271 then (some true) else (some false)))))))
def larchlaw18_StepsViolations.f (k : Nat) (l0 : List (S34)) (a1 : Int) (a2_0 : Int) (a2_1 : Bool) : Option (Bool) := (larchlaw18_awake.f k).bind fun t262 => (if t262 = true then ((larchlaw18_done.f k l0 a1 a2_0 a2_1).bind fun bt263 => (if bt263.2 = true then ((table_Root.f k l0).bind fun bt267 => ((table_Root.f k bt263.1).bind fun bt269 => (if bt267.2 = 0 then (larchlaw18_StepsViolations.j0 k l0 bt263.1 bt267.1 bt269.1 (bt269.2 != 0) a2_0 a2_1) else (larchlaw18_StepsViolations.j0 k l0 bt263.1 bt267.1 bt269.1 true a2_0 a2_1)))) else (some ((bt263.1.length : Int) == 0)))) else (some false))
set_option maxHeartbeats 8000000 in
set_option maxRecDepth 100000 in
theorem larchlaw18_StepsViolations.calls (k : Nat) (A0 : Option Addr) (c0 : Nat) (l0 : List (S34)) (a1 : Int) (a2_0 : Int) (a2_1 : Bool) (r : Bool) (w : World) (hr0 : Kd.C k34 w A0 l0.length l0) (hc0 : l0.length ≤ c0) (h : larchlaw18_StepsViolations.f k l0 a1 a2_0 a2_1 = some r) :
  Calls Try.prog 4 #[.slice A0 l0.length c0, .int .i64 a1, .agg #[.int .i64 a2_0, .bool a2_1]] w fun e w' => e = .returned (.bool r) ∧ Below w.heap.size w w' := by
 have hu24 := Try.underlying24
 have HR0 := Am hr0
 have HC0 := Am hc0
 clear hr0 hc0
 have HB := Am (Below.refl w.heap.size w)
 have H : ((larchlaw18_awake.f k).bind fun t262 => (if t262 = true then ((larchlaw18_done.f k l0 a1 a2_0 a2_1).bind fun bt263 => (if bt263.2 = true then ((table_Root.f k l0).bind fun bt267 => ((table_Root.f k bt263.1).bind fun bt269 => (if bt267.2 = 0 then (larchlaw18_StepsViolations.j0 k l0 bt263.1 bt267.1 bt269.1 (bt269.2 != 0) a2_0 a2_1) else (larchlaw18_StepsViolations.j0 k l0 bt263.1 bt267.1 bt269.1 true a2_0 a2_1)))) else (some ((bt263.1.length : Int) == 0)))) else (some false))) = some r := h
 clear h
 replace H := Option.bind_eq_some_iff.mp H
 obtain ⟨t262, A40, H⟩ := H
 replace H : (if t262 = true then ((larchlaw18_done.f k l0 a1 a2_0 a2_1).bind fun bt263 => (if bt263.2 = true then ((table_Root.f k l0).bind fun bt267 => ((table_Root.f k bt263.1).bind fun bt269 => (if bt267.2 = 0 then (larchlaw18_StepsViolations.j0 k l0 bt263.1 bt267.1 bt269.1 (bt269.2 != 0) a2_0 a2_1) else (larchlaw18_StepsViolations.j0 k l0 bt263.1 bt267.1 bt269.1 true a2_0 a2_1)))) else (some ((bt263.1.length : Int) == 0)))) else (some false)) = some r := H
 have A4 := Am A40
 clear A40
 by_cases c5 : t262 = true
 ·subst c5
  have H1 : ((larchlaw18_done.f k l0 a1 a2_0 a2_1).bind fun bt263 => (if bt263.2 = true then ((table_Root.f k l0).bind fun bt267 => ((table_Root.f k bt263.1).bind fun bt269 => (if bt267.2 = 0 then (larchlaw18_StepsViolations.j0 k l0 bt263.1 bt267.1 bt269.1 (bt269.2 != 0) a2_0 a2_1) else (larchlaw18_StepsViolations.j0 k l0 bt263.1 bt267.1 bt269.1 true a2_0 a2_1)))) else (some ((bt263.1.length : Int) == 0)))) = some r := by rw [if_pos rfl] at H; exact H
  clear H
  have H := H1
  clear H1
  replace H := Option.bind_eq_some_iff.mp H
  obtain ⟨⟨t263, t266⟩, A60, H⟩ := H
  replace H : (if t266 = true then ((table_Root.f k l0).bind fun bt267 => ((table_Root.f k t263).bind fun bt269 => (if bt267.2 = 0 then (larchlaw18_StepsViolations.j0 k l0 t263 bt267.1 bt269.1 (bt269.2 != 0) a2_0 a2_1) else (larchlaw18_StepsViolations.j0 k l0 t263 bt267.1 bt269.1 true a2_0 a2_1)))) else (some ((t263.length : Int) == 0))) = some r := H
  have A6 := Am A60
  clear A60
  by_cases c7 : t266 = true
  ·subst c7
   have H1 : ((table_Root.f k l0).bind fun bt267 => ((table_Root.f k t263).bind fun bt269 => (if bt267.2 = 0 then (larchlaw18_StepsViolations.j0 k l0 t263 bt267.1 bt269.1 (bt269.2 != 0) a2_0 a2_1) else (larchlaw18_StepsViolations.j0 k l0 t263 bt267.1 bt269.1 true a2_0 a2_1)))) = some r := by rw [if_pos rfl] at H; exact H
   clear H
   have H := H1
   clear H1
   replace H := Option.bind_eq_some_iff.mp H
   obtain ⟨⟨t267, t268⟩, A80, H⟩ := H
   replace H : ((table_Root.f k t263).bind fun bt269 => (if t268 = 0 then (larchlaw18_StepsViolations.j0 k l0 t263 t267 bt269.1 (bt269.2 != 0) a2_0 a2_1) else (larchlaw18_StepsViolations.j0 k l0 t263 t267 bt269.1 true a2_0 a2_1))) = some r := H
   have A8 := Am A80
   clear A80
   replace H := Option.bind_eq_some_iff.mp H
   obtain ⟨⟨t269, t270⟩, A90, H⟩ := H
   replace H : (if t268 = 0 then (larchlaw18_StepsViolations.j0 k l0 t263 t267 t269 (t270 != 0) a2_0 a2_1) else (larchlaw18_StepsViolations.j0 k l0 t263 t267 t269 true a2_0 a2_1)) = some r := H
   have A9 := Am A90
   clear A90
   have HC10 := Am H
   clear H
   go_enter Try.func4, Try.ntmps4
   go_upto_region 8 with (first | ((with_reducible refine gate_dst (N := 5) rfl ?_); refine box_event ?hg (N := 5) ?hd (cs := #[.int .i64 a2_0, .bool a2_1]) (t := 24) ?hr ?_; (case hd => rfl); (case hg => rfl); (case hr => first | (go_simp; done) | (go_simp; rfl)); intro gb261 hg w11 hbox hb; have n0_ := Am (below_step (by repeat (first | (with_reducible first | exact HB.out | apply ba | apply bn | apply bd) | exact HB.out)) hb); have n1_ := Am (hbox); have n2_ := Am ((by rw [hg]; exact (below_size (by repeat (first | (with_reducible first | exact HB.out | apply ba | apply bn | apply bd) | exact HB.out))) : w.heap.size ≤ gb261)); have n3_ := Am ((by rw [hg]; exact (below_size (by repeat (first | (with_reducible first | exact HB.out | apply ba | apply bn | apply bd) | exact HB.out))) : w.heap.size ≤ gb261)); clear HB; have HB := n0_; have BK261 := n1_; have GW261 := n2_; have GE261 := n3_; clear n0_ n1_ n2_ n3_; clear hb hbox hg) | ((with_reducible refine gate_callee (f := 10) rfl ?_); refine goesL_ (some 16) rfl rfl Try.func10 (by kernel_rfl) rfl #[] rfl (by (try simp only [List.map_toArray, List.map_cons, List.map_nil]); first | done | rfl | (simp only [List.length_drop, List.length_take]; rfl)) ?_; (with_reducible refine (larchlaw18_awake.calls k  true _ A4.out).mono ?_); rintro e w12 ⟨rfl, hb⟩; refine ⟨_, rfl, ?_⟩; have n0_ := Am (blk_below (g := gb261) (o := .cells #[.int .i64 a2_0, .bool a2_1] 24 (0, 0)) (by (with_reducible repeat (first | refine blk_drewN ?_ _ | refine blk_drew ?_ | refine blk_alloc ?_ _)); exact BK261.out) hb); have n1_ := Am (below_step (by repeat (first | (with_reducible first | exact HB.out | apply ba | apply bn | apply bd | refine below_set ?_ GE261.out) | exact HB.out)) hb); clear BK261; clear HB; have BK261 := n0_; have HB := n1_; clear n0_ n1_; (try clear hb); (try clear hb2); (try clear hk); (try clear hi); have hcz13_0 : w12.cell? ⟨gb261, 0, none⟩ = some (.int .i64 a2_0) := (blk_cell BK261.out 0).trans rfl; have hcz13_1 : w12.cell? ⟨gb261, 1, none⟩ = some (.bool a2_1) := (blk_cell BK261.out 1).trans rfl; have hfz13_0 := blk_frozen BK261.out 0; have hfz13_1 := blk_frozen BK261.out 1) | ((with_reducible refine gate_callee (f := 11) rfl ?_); refine goesL_ (some 22) rfl rfl Try.func11 (by kernel_rfl) rfl #[.slice A0 l0.length c0, .int .i64 a1, .agg #[.int .i64 a2_0, .bool a2_1]] rfl (by (try simp only [List.map_toArray, List.map_cons, List.map_nil]); first | done | rfl | (simp only [List.length_drop, List.length_take]; rfl)) ?_; (with_reducible refine (larchlaw18_done.calls k _ _ l0 a1 a2_0 a2_1 t263 true _ ?side1 ?side2 A6.out).mono ?_); (case side1 => repeat (first | exact (Kd.C_below HR0.out HB.out) | (with_reducible refine Kd.C_alloc ?_ _) | (with_reducible refine Kd.C_drewN ?_ _) | (with_reducible refine Kd.C_drew ?_))); (case side2 => exact HC0.out); rintro e w14 ⟨v264, rfl, ho0, hb⟩; refine ⟨_, rfl, ?_⟩; have n0_ := Am (Kd.R_lower ho0 (below_size (by repeat (first | (with_reducible first | exact HB.out | apply ba | apply bn | apply bd | refine below_set ?_ GE261.out) | exact HB.out)))); have n1_ := Am (blk_below (g := gb261) (o := .cells #[.int .i64 a2_0, .bool a2_1] 24 (0, 0)) (by (with_reducible repeat (first | refine blk_drewN ?_ _ | refine blk_drew ?_ | refine blk_alloc ?_ _)); exact BK261.out) hb); have n2_ := Am (below_step (by repeat (first | (with_reducible first | exact HB.out | apply ba | apply bn | apply bd | refine below_set ?_ GE261.out) | exact HB.out)) hb); clear BK261; clear HB; have HO265 := n0_; have BK261 := n1_; have HB := n2_; clear n0_ n1_ n2_; (try clear hb); (try clear hb2); (try clear hk); (try clear hi); (try clear ho0)) | ((with_reducible refine gate_callee (f := 12) rfl ?_); refine goesL_ (some 32) rfl rfl Try.func12 (by kernel_rfl) rfl #[.slice A0 l0.length c0] rfl (by (try simp only [List.map_toArray, List.map_cons, List.map_nil]); first | done | rfl | (simp only [List.length_drop, List.length_take]; rfl)) ?_; (with_reducible refine (table_Root.calls k _ _ l0 t267 t268 _ ?side1 ?side2 A8.out).mono ?_); (case side1 => repeat (first | exact (Kd.C_below HR0.out HB.out) | (with_reducible refine Kd.C_alloc ?_ _) | (with_reducible refine Kd.C_drewN ?_ _) | (with_reducible refine Kd.C_drew ?_))); (case side2 => exact HC0.out); rintro e w15 ⟨rfl, hb⟩; refine ⟨_, rfl, ?_⟩; have n0_ := Am (Kd.R_below (by (with_reducible repeat (first | apply Kd.R_alloc | apply Kd.R_drewN | apply Kd.R_drew)); exact HO265.out) hb); have n1_ := Am (blk_below (g := gb261) (o := .cells #[.int .i64 a2_0, .bool a2_1] 24 (0, 0)) (by (with_reducible repeat (first | refine blk_drewN ?_ _ | refine blk_drew ?_ | refine blk_alloc ?_ _)); exact BK261.out) hb); have n2_ := Am (below_step (by repeat (first | (with_reducible first | exact HB.out | apply ba | apply bn | apply bd | refine below_set ?_ GE261.out) | exact HB.out)) hb); clear HO265; clear BK261; clear HB; have HO265 := n0_; have BK261 := n1_; have HB := n2_; clear n0_ n1_ n2_; (try clear hb); (try clear hb2); (try clear hk); (try clear hi); obtain ⟨Ao16, co16, eo16⟩ := Kd.R_slice HO265.out; subst eo16) | ((with_reducible refine gate_callee (f := 12) rfl ?_); refine goesL_ (some 37) rfl rfl Try.func12 (by kernel_rfl) rfl #[.slice Ao16 t263.length co16] rfl (by (try simp only [List.map_toArray, List.map_cons, List.map_nil]); first | done | rfl | (simp only [List.length_drop, List.length_take]; rfl)) ?_; (with_reducible refine (table_Root.calls k _ _ t263 t269 t270 _ ?side1 ?side2 A9.out).mono ?_); (case side1 => repeat (first | exact (Kd.R_reads' HO265.out).2.2 | (with_reducible refine Kd.C_alloc ?_ _) | (with_reducible refine Kd.C_drewN ?_ _) | (with_reducible refine Kd.C_drew ?_))); (case side2 => exact (Kd.R_reads' HO265.out).2.1); rintro e w17 ⟨rfl, hb⟩; refine ⟨_, rfl, ?_⟩; have n0_ := Am (Kd.R_below (by (with_reducible repeat (first | apply Kd.R_alloc | apply Kd.R_drewN | apply Kd.R_drew)); exact HO265.out) hb); have n1_ := Am (blk_below (g := gb261) (o := .cells #[.int .i64 a2_0, .bool a2_1] 24 (0, 0)) (by (with_reducible repeat (first | refine blk_drewN ?_ _ | refine blk_drew ?_ | refine blk_alloc ?_ _)); exact BK261.out) hb); have n2_ := Am (below_step (by repeat (first | (with_reducible first | exact HB.out | apply ba | apply bn | apply bd | refine below_set ?_ GE261.out) | exact HB.out)) hb); clear HO265; clear BK261; clear HB; have HO265 := n0_; have BK261 := n1_; have HB := n2_; clear n0_ n1_ n2_; (try clear hb); (try clear hb2); (try clear hk); (try clear hi)))
   (try simp only [Act.put, sI, sZ, sS])
   go_cut [45] (fun v45 wc => ∃ (kq : Nat) (x45_9 : Bool), v45 = .bool x45_9 ∧ Aside0 (larchlaw18_StepsViolations.j0 kq l0 t263 t267 t269 x45_9 a2_0 a2_1 = some r) ∧ Aside0 (kq ≤ k) ∧ Aside0 (Kd.R k34 34 wc w.heap.size (fun _ => True) (.slice Ao16 t263.length co16) t263) ∧ Aside0 (wc.heap[gb261]? = some (.cells #[.int .i64 a2_0, .bool a2_1] 24 (0, 0))) ∧ Aside0 (Below w.heap.size w wc))
   case first =>
    have H := HC10.out
    clear HC10
    by_cases c18 : t268 = 0
    ·rw [if_pos c18] at H
     have c18b0 : (t268 == 0) = true := beq_iff_eq.mpr c18
     have c18b1 : (t268 != 0) = false := bne_eq_false_iff_eq.mpr c18
     clear c18
     (first | rw [c18b0] | (simp only [i64_w, i32_w]; rw [c18b0]) | skip)
     have H' := Am H
     clear H
     go_wp2
     go_meet
     case rel => exact ⟨_, ((t270 != 0)), (by first | rfl | (simp; done) | (simp [*]; done)), H', ⟨by first | omega | exact Nat.le_refl _⟩, ⟨by (with_reducible repeat (first | apply Kd.R_alloc | apply Kd.R_drewN | apply Kd.R_drew)); exact HO265.out⟩, ⟨by (with_reducible repeat (first | refine blk_drewN ?_ _ | refine blk_drew ?_ | refine blk_alloc ?_ _)); exact BK261.out⟩, ⟨by repeat (first | (with_reducible first | exact HB.out | apply ba | apply bn | apply bd | refine below_set ?_ GE261.out) | exact HB.out)⟩⟩
    ·rw [if_neg c18] at H
     have c18b0 : (t268 == 0) = false := beq_eq_false_iff_ne.mpr c18
     have c18b1 : (t268 != 0) = true := bne_iff_ne.mpr c18
     (first | rw [c18b0] | (simp only [i64_w, i32_w]; rw [c18b0]) | skip)
     have H' := Am H
     clear H
     go_wp2
     go_meet
     case rel => exact ⟨_, (true), (by first | rfl | (simp; done) | (simp [*]; done)), H', ⟨by first | omega | exact Nat.le_refl _⟩, ⟨by (with_reducible repeat (first | apply Kd.R_alloc | apply Kd.R_drewN | apply Kd.R_drew)); exact HO265.out⟩, ⟨by (with_reducible repeat (first | refine blk_drewN ?_ _ | refine blk_drew ?_ | refine blk_alloc ?_ _)); exact BK261.out⟩, ⟨by repeat (first | (with_reducible first | exact HB.out | apply ba | apply bn | apply bd | refine below_set ?_ GE261.out) | exact HB.out)⟩⟩
   case rest =>
    clear HC10
    try clear c1
    try clear p2
    try clear c4
    try clear c5
    try clear c7
    try clear c10
    try clear c11
    try clear c12
    try clear c18
    try clear c18b0
    try clear c18b1
    try clear hcz13_0
    try clear hcz13_1
    try clear hfz13_0
    try clear hfz13_1
    obtain ⟨kq, x45_9, rfl, HA, HJ9, HO_7, BK261, HB⟩ := hcut
    cases kq with
    | zero => exact absurd HA.out (by simp [larchlaw18_StepsViolations.j0])
    | succ kj9 =>
     have H := HA.out
     clear HA
     simp only [larchlaw18_StepsViolations.j0] at H
     by_cases c19 : x45_9 = true
     ·subst c19
      have H1 : (some false) = some r := by rw [if_pos rfl] at H; exact H
      clear H
      have H := H1
      clear H1
      obtain rfl := Option.some.inj H
      go_wp2
      go_ret
      exact ⟨by first | rfl | (simp [errW_none, errW_some] <;> rfl) | (simp [*, errW_none, errW_some] <;> rfl), by repeat (first | (with_reducible first | exact HB.out | apply ba | apply bn | apply bd | refine below_set ?_ GE261.out) | exact HB.out)⟩
     ·replace c19 := Bool.eq_false_iff.mpr c19
      subst c19
      have H1 : ((larchlaw18_bad.f kj9 l0 t267).bind fun t271 => ((larchlaw18_bad.f kj9 t263 t269).bind fun t272 => (if a2_0 = 2 then (if t272 ≤ t271 then (some (decide (t272 < t271))) else (some false)) else (if a2_0 = 3 then (if t272 ≤ t271 then (some (decide (t272 < t271))) else (some false)) else (if a2_0 ≥ 5 then (if t272 ≤ t271 then (if a2_0 ≤ 11 then (some (decide (t272 < t271))) else (some true)) else (some false)) else (if t272 ≤ t271 then (some true) else (some false))))))) = some r := by rw [if_neg (show ¬ (false = true) by decide)] at H; exact H
      clear H
      have H := H1
      clear H1
      replace H := Option.bind_eq_some_iff.mp H
      obtain ⟨t271, A200, H⟩ := H
      replace H : ((larchlaw18_bad.f kj9 t263 t269).bind fun t272 => (if a2_0 = 2 then (if t272 ≤ t271 then (some (decide (t272 < t271))) else (some false)) else (if a2_0 = 3 then (if t272 ≤ t271 then (some (decide (t272 < t271))) else (some false)) else (if a2_0 ≥ 5 then (if t272 ≤ t271 then (if a2_0 ≤ 11 then (some (decide (t272 < t271))) else (some true)) else (some false)) else (if t272 ≤ t271 then (some true) else (some false)))))) = some r := H
      have A20 := Am A200
      clear A200
      replace H := Option.bind_eq_some_iff.mp H
      obtain ⟨t272, A210, H⟩ := H
      replace H : (if a2_0 = 2 then (if t272 ≤ t271 then (some (decide (t272 < t271))) else (some false)) else (if a2_0 = 3 then (if t272 ≤ t271 then (some (decide (t272 < t271))) else (some false)) else (if a2_0 ≥ 5 then (if t272 ≤ t271 then (if a2_0 ≤ 11 then (some (decide (t272 < t271))) else (some true)) else (some false)) else (if t272 ≤ t271 then (some true) else (some false))))) = some r := H
      have A21 := Am A210
      clear A210
      by_cases c22 : a2_0 = 2
      ·rw [if_pos c22] at H
       have c22b0 : (a2_0 == 2) = true := beq_iff_eq.mpr c22
       have c22b1 : (a2_0 != 2) = false := bne_eq_false_iff_eq.mpr c22
       clear c22
       by_cases c23 : t272 ≤ t271
       ·rw [if_pos c23] at H
        have c23b0 : decide (t272 ≤ t271) = true := decide_eq_true c23
        clear c23
        obtain rfl := Option.some.inj H
        go_wp2_with (first | ((with_reducible refine gate_callee (f := 14) rfl ?_); refine goesL_ (some 48) rfl rfl Try.func14 (by kernel_rfl) rfl #[.slice A0 l0.length c0, .int .i64 t267] rfl (by (try simp only [List.map_toArray, List.map_cons, List.map_nil]); first | done | rfl | (simp only [List.length_drop, List.length_take]; rfl)) ?_; (with_reducible refine (larchlaw18_bad.calls kj9 _ _ l0 t267 t271 _ ?side1 ?side2 A20.out).mono ?_); (case side1 => repeat (first | exact (Kd.C_below HR0.out HB.out) | (with_reducible refine Kd.C_alloc ?_ _) | (with_reducible refine Kd.C_drewN ?_ _) | (with_reducible refine Kd.C_drew ?_))); (case side2 => exact HC0.out); rintro e w24 ⟨rfl, hb⟩; refine ⟨_, rfl, ?_⟩; have n0_ := Am (Kd.R_below (by (with_reducible repeat (first | apply Kd.R_alloc | apply Kd.R_drewN | apply Kd.R_drew)); exact HO_7.out) hb); have n1_ := Am (blk_below (g := gb261) (o := .cells #[.int .i64 a2_0, .bool a2_1] 24 (0, 0)) (by (with_reducible repeat (first | refine blk_drewN ?_ _ | refine blk_drew ?_ | refine blk_alloc ?_ _)); exact BK261.out) hb); have n2_ := Am (below_step (by repeat (first | (with_reducible first | exact HB.out | apply ba | apply bn | apply bd | refine below_set ?_ GE261.out) | exact HB.out)) hb); clear HO_7; clear BK261; clear HB; have HO_7 := n0_; have BK261 := n1_; have HB := n2_; clear n0_ n1_ n2_; (try clear hb); (try clear hb2); (try clear hk); (try clear hi)) | ((with_reducible refine gate_callee (f := 14) rfl ?_); refine goesL_ (some 51) rfl rfl Try.func14 (by kernel_rfl) rfl #[.slice Ao16 t263.length co16, .int .i64 t269] rfl (by (try simp only [List.map_toArray, List.map_cons, List.map_nil]); first | done | rfl | (simp only [List.length_drop, List.length_take]; rfl)) ?_; (with_reducible refine (larchlaw18_bad.calls kj9 _ _ t263 t269 t272 _ ?side1 ?side2 A21.out).mono ?_); (case side1 => repeat (first | exact (Kd.R_reads' HO_7.out).2.2 | (with_reducible refine Kd.C_alloc ?_ _) | (with_reducible refine Kd.C_drewN ?_ _) | (with_reducible refine Kd.C_drew ?_))); (case side2 => exact (Kd.R_reads' HO_7.out).2.1); rintro e w25 ⟨rfl, hb⟩; refine ⟨_, rfl, ?_⟩; have n0_ := Am (Kd.R_below (by (with_reducible repeat (first | apply Kd.R_alloc | apply Kd.R_drewN | apply Kd.R_drew)); exact HO_7.out) hb); have n1_ := Am (blk_below (g := gb261) (o := .cells #[.int .i64 a2_0, .bool a2_1] 24 (0, 0)) (by (with_reducible repeat (first | refine blk_drewN ?_ _ | refine blk_drew ?_ | refine blk_alloc ?_ _)); exact BK261.out) hb); have n2_ := Am (below_step (by repeat (first | (with_reducible first | exact HB.out | apply ba | apply bn | apply bd | refine below_set ?_ GE261.out) | exact HB.out)) hb); clear HO_7; clear BK261; clear HB; have HO_7 := n0_; have BK261 := n1_; have HB := n2_; clear n0_ n1_ n2_; (try clear hb); (try clear hb2); (try clear hk); (try clear hi); have hcz26_0 : w25.cell? ⟨gb261, 0, none⟩ = some (.int .i64 a2_0) := (blk_cell BK261.out 0).trans rfl; have hcz26_1 : w25.cell? ⟨gb261, 1, none⟩ = some (.bool a2_1) := (blk_cell BK261.out 1).trans rfl; have hfz26_0 := blk_frozen BK261.out 0; have hfz26_1 := blk_frozen BK261.out 1))
        go_ret
        exact ⟨by first | rfl | (simp [errW_none, errW_some] <;> rfl) | (simp [*, errW_none, errW_some] <;> rfl), by repeat (first | (with_reducible first | exact HB.out | apply ba | apply bn | apply bd | refine below_set ?_ GE261.out) | exact HB.out)⟩
       ·rw [if_neg c23] at H
        have c23b0 : decide (t272 ≤ t271) = false := decide_eq_false c23
        clear c23
        obtain rfl := Option.some.inj H
        go_wp2_with (first | ((with_reducible refine gate_callee (f := 14) rfl ?_); refine goesL_ (some 48) rfl rfl Try.func14 (by kernel_rfl) rfl #[.slice A0 l0.length c0, .int .i64 t267] rfl (by (try simp only [List.map_toArray, List.map_cons, List.map_nil]); first | done | rfl | (simp only [List.length_drop, List.length_take]; rfl)) ?_; (with_reducible refine (larchlaw18_bad.calls kj9 _ _ l0 t267 t271 _ ?side1 ?side2 A20.out).mono ?_); (case side1 => repeat (first | exact (Kd.C_below HR0.out HB.out) | (with_reducible refine Kd.C_alloc ?_ _) | (with_reducible refine Kd.C_drewN ?_ _) | (with_reducible refine Kd.C_drew ?_))); (case side2 => exact HC0.out); rintro e w27 ⟨rfl, hb⟩; refine ⟨_, rfl, ?_⟩; have n0_ := Am (Kd.R_below (by (with_reducible repeat (first | apply Kd.R_alloc | apply Kd.R_drewN | apply Kd.R_drew)); exact HO_7.out) hb); have n1_ := Am (blk_below (g := gb261) (o := .cells #[.int .i64 a2_0, .bool a2_1] 24 (0, 0)) (by (with_reducible repeat (first | refine blk_drewN ?_ _ | refine blk_drew ?_ | refine blk_alloc ?_ _)); exact BK261.out) hb); have n2_ := Am (below_step (by repeat (first | (with_reducible first | exact HB.out | apply ba | apply bn | apply bd | refine below_set ?_ GE261.out) | exact HB.out)) hb); clear HO_7; clear BK261; clear HB; have HO_7 := n0_; have BK261 := n1_; have HB := n2_; clear n0_ n1_ n2_; (try clear hb); (try clear hb2); (try clear hk); (try clear hi)) | ((with_reducible refine gate_callee (f := 14) rfl ?_); refine goesL_ (some 51) rfl rfl Try.func14 (by kernel_rfl) rfl #[.slice Ao16 t263.length co16, .int .i64 t269] rfl (by (try simp only [List.map_toArray, List.map_cons, List.map_nil]); first | done | rfl | (simp only [List.length_drop, List.length_take]; rfl)) ?_; (with_reducible refine (larchlaw18_bad.calls kj9 _ _ t263 t269 t272 _ ?side1 ?side2 A21.out).mono ?_); (case side1 => repeat (first | exact (Kd.R_reads' HO_7.out).2.2 | (with_reducible refine Kd.C_alloc ?_ _) | (with_reducible refine Kd.C_drewN ?_ _) | (with_reducible refine Kd.C_drew ?_))); (case side2 => exact (Kd.R_reads' HO_7.out).2.1); rintro e w28 ⟨rfl, hb⟩; refine ⟨_, rfl, ?_⟩; have n0_ := Am (Kd.R_below (by (with_reducible repeat (first | apply Kd.R_alloc | apply Kd.R_drewN | apply Kd.R_drew)); exact HO_7.out) hb); have n1_ := Am (blk_below (g := gb261) (o := .cells #[.int .i64 a2_0, .bool a2_1] 24 (0, 0)) (by (with_reducible repeat (first | refine blk_drewN ?_ _ | refine blk_drew ?_ | refine blk_alloc ?_ _)); exact BK261.out) hb); have n2_ := Am (below_step (by repeat (first | (with_reducible first | exact HB.out | apply ba | apply bn | apply bd | refine below_set ?_ GE261.out) | exact HB.out)) hb); clear HO_7; clear BK261; clear HB; have HO_7 := n0_; have BK261 := n1_; have HB := n2_; clear n0_ n1_ n2_; (try clear hb); (try clear hb2); (try clear hk); (try clear hi); have hcz29_0 : w28.cell? ⟨gb261, 0, none⟩ = some (.int .i64 a2_0) := (blk_cell BK261.out 0).trans rfl; have hcz29_1 : w28.cell? ⟨gb261, 1, none⟩ = some (.bool a2_1) := (blk_cell BK261.out 1).trans rfl; have hfz29_0 := blk_frozen BK261.out 0; have hfz29_1 := blk_frozen BK261.out 1))
        go_ret
        exact ⟨by first | rfl | (simp [errW_none, errW_some] <;> rfl) | (simp [*, errW_none, errW_some] <;> rfl), by repeat (first | (with_reducible first | exact HB.out | apply ba | apply bn | apply bd | refine below_set ?_ GE261.out) | exact HB.out)⟩
      ·rw [if_neg c22] at H
       have c22b0 : (a2_0 == 2) = false := beq_eq_false_iff_ne.mpr c22
       have c22b1 : (a2_0 != 2) = true := bne_iff_ne.mpr c22
       by_cases c30 : a2_0 = 3
       ·rw [if_pos c30] at H
        have c30b0 : (a2_0 == 3) = true := beq_iff_eq.mpr c30
        have c30b1 : (a2_0 != 3) = false := bne_eq_false_iff_eq.mpr c30
        clear c30
        by_cases c31 : t272 ≤ t271
        ·rw [if_pos c31] at H
         have c31b0 : decide (t272 ≤ t271) = true := decide_eq_true c31
         clear c31
         obtain rfl := Option.some.inj H
         go_wp2_with (first | ((with_reducible refine gate_callee (f := 14) rfl ?_); refine goesL_ (some 48) rfl rfl Try.func14 (by kernel_rfl) rfl #[.slice A0 l0.length c0, .int .i64 t267] rfl (by (try simp only [List.map_toArray, List.map_cons, List.map_nil]); first | done | rfl | (simp only [List.length_drop, List.length_take]; rfl)) ?_; (with_reducible refine (larchlaw18_bad.calls kj9 _ _ l0 t267 t271 _ ?side1 ?side2 A20.out).mono ?_); (case side1 => repeat (first | exact (Kd.C_below HR0.out HB.out) | (with_reducible refine Kd.C_alloc ?_ _) | (with_reducible refine Kd.C_drewN ?_ _) | (with_reducible refine Kd.C_drew ?_))); (case side2 => exact HC0.out); rintro e w32 ⟨rfl, hb⟩; refine ⟨_, rfl, ?_⟩; have n0_ := Am (Kd.R_below (by (with_reducible repeat (first | apply Kd.R_alloc | apply Kd.R_drewN | apply Kd.R_drew)); exact HO_7.out) hb); have n1_ := Am (blk_below (g := gb261) (o := .cells #[.int .i64 a2_0, .bool a2_1] 24 (0, 0)) (by (with_reducible repeat (first | refine blk_drewN ?_ _ | refine blk_drew ?_ | refine blk_alloc ?_ _)); exact BK261.out) hb); have n2_ := Am (below_step (by repeat (first | (with_reducible first | exact HB.out | apply ba | apply bn | apply bd | refine below_set ?_ GE261.out) | exact HB.out)) hb); clear HO_7; clear BK261; clear HB; have HO_7 := n0_; have BK261 := n1_; have HB := n2_; clear n0_ n1_ n2_; (try clear hb); (try clear hb2); (try clear hk); (try clear hi)) | ((with_reducible refine gate_callee (f := 14) rfl ?_); refine goesL_ (some 51) rfl rfl Try.func14 (by kernel_rfl) rfl #[.slice Ao16 t263.length co16, .int .i64 t269] rfl (by (try simp only [List.map_toArray, List.map_cons, List.map_nil]); first | done | rfl | (simp only [List.length_drop, List.length_take]; rfl)) ?_; (with_reducible refine (larchlaw18_bad.calls kj9 _ _ t263 t269 t272 _ ?side1 ?side2 A21.out).mono ?_); (case side1 => repeat (first | exact (Kd.R_reads' HO_7.out).2.2 | (with_reducible refine Kd.C_alloc ?_ _) | (with_reducible refine Kd.C_drewN ?_ _) | (with_reducible refine Kd.C_drew ?_))); (case side2 => exact (Kd.R_reads' HO_7.out).2.1); rintro e w33 ⟨rfl, hb⟩; refine ⟨_, rfl, ?_⟩; have n0_ := Am (Kd.R_below (by (with_reducible repeat (first | apply Kd.R_alloc | apply Kd.R_drewN | apply Kd.R_drew)); exact HO_7.out) hb); have n1_ := Am (blk_below (g := gb261) (o := .cells #[.int .i64 a2_0, .bool a2_1] 24 (0, 0)) (by (with_reducible repeat (first | refine blk_drewN ?_ _ | refine blk_drew ?_ | refine blk_alloc ?_ _)); exact BK261.out) hb); have n2_ := Am (below_step (by repeat (first | (with_reducible first | exact HB.out | apply ba | apply bn | apply bd | refine below_set ?_ GE261.out) | exact HB.out)) hb); clear HO_7; clear BK261; clear HB; have HO_7 := n0_; have BK261 := n1_; have HB := n2_; clear n0_ n1_ n2_; (try clear hb); (try clear hb2); (try clear hk); (try clear hi); have hcz34_0 : w33.cell? ⟨gb261, 0, none⟩ = some (.int .i64 a2_0) := (blk_cell BK261.out 0).trans rfl; have hcz34_1 : w33.cell? ⟨gb261, 1, none⟩ = some (.bool a2_1) := (blk_cell BK261.out 1).trans rfl; have hfz34_0 := blk_frozen BK261.out 0; have hfz34_1 := blk_frozen BK261.out 1))
         go_ret
         exact ⟨by first | rfl | (simp [errW_none, errW_some] <;> rfl) | (simp [*, errW_none, errW_some] <;> rfl), by repeat (first | (with_reducible first | exact HB.out | apply ba | apply bn | apply bd | refine below_set ?_ GE261.out) | exact HB.out)⟩
        ·rw [if_neg c31] at H
         have c31b0 : decide (t272 ≤ t271) = false := decide_eq_false c31
         clear c31
         obtain rfl := Option.some.inj H
         go_wp2_with (first | ((with_reducible refine gate_callee (f := 14) rfl ?_); refine goesL_ (some 48) rfl rfl Try.func14 (by kernel_rfl) rfl #[.slice A0 l0.length c0, .int .i64 t267] rfl (by (try simp only [List.map_toArray, List.map_cons, List.map_nil]); first | done | rfl | (simp only [List.length_drop, List.length_take]; rfl)) ?_; (with_reducible refine (larchlaw18_bad.calls kj9 _ _ l0 t267 t271 _ ?side1 ?side2 A20.out).mono ?_); (case side1 => repeat (first | exact (Kd.C_below HR0.out HB.out) | (with_reducible refine Kd.C_alloc ?_ _) | (with_reducible refine Kd.C_drewN ?_ _) | (with_reducible refine Kd.C_drew ?_))); (case side2 => exact HC0.out); rintro e w35 ⟨rfl, hb⟩; refine ⟨_, rfl, ?_⟩; have n0_ := Am (Kd.R_below (by (with_reducible repeat (first | apply Kd.R_alloc | apply Kd.R_drewN | apply Kd.R_drew)); exact HO_7.out) hb); have n1_ := Am (blk_below (g := gb261) (o := .cells #[.int .i64 a2_0, .bool a2_1] 24 (0, 0)) (by (with_reducible repeat (first | refine blk_drewN ?_ _ | refine blk_drew ?_ | refine blk_alloc ?_ _)); exact BK261.out) hb); have n2_ := Am (below_step (by repeat (first | (with_reducible first | exact HB.out | apply ba | apply bn | apply bd | refine below_set ?_ GE261.out) | exact HB.out)) hb); clear HO_7; clear BK261; clear HB; have HO_7 := n0_; have BK261 := n1_; have HB := n2_; clear n0_ n1_ n2_; (try clear hb); (try clear hb2); (try clear hk); (try clear hi)) | ((with_reducible refine gate_callee (f := 14) rfl ?_); refine goesL_ (some 51) rfl rfl Try.func14 (by kernel_rfl) rfl #[.slice Ao16 t263.length co16, .int .i64 t269] rfl (by (try simp only [List.map_toArray, List.map_cons, List.map_nil]); first | done | rfl | (simp only [List.length_drop, List.length_take]; rfl)) ?_; (with_reducible refine (larchlaw18_bad.calls kj9 _ _ t263 t269 t272 _ ?side1 ?side2 A21.out).mono ?_); (case side1 => repeat (first | exact (Kd.R_reads' HO_7.out).2.2 | (with_reducible refine Kd.C_alloc ?_ _) | (with_reducible refine Kd.C_drewN ?_ _) | (with_reducible refine Kd.C_drew ?_))); (case side2 => exact (Kd.R_reads' HO_7.out).2.1); rintro e w36 ⟨rfl, hb⟩; refine ⟨_, rfl, ?_⟩; have n0_ := Am (Kd.R_below (by (with_reducible repeat (first | apply Kd.R_alloc | apply Kd.R_drewN | apply Kd.R_drew)); exact HO_7.out) hb); have n1_ := Am (blk_below (g := gb261) (o := .cells #[.int .i64 a2_0, .bool a2_1] 24 (0, 0)) (by (with_reducible repeat (first | refine blk_drewN ?_ _ | refine blk_drew ?_ | refine blk_alloc ?_ _)); exact BK261.out) hb); have n2_ := Am (below_step (by repeat (first | (with_reducible first | exact HB.out | apply ba | apply bn | apply bd | refine below_set ?_ GE261.out) | exact HB.out)) hb); clear HO_7; clear BK261; clear HB; have HO_7 := n0_; have BK261 := n1_; have HB := n2_; clear n0_ n1_ n2_; (try clear hb); (try clear hb2); (try clear hk); (try clear hi); have hcz37_0 : w36.cell? ⟨gb261, 0, none⟩ = some (.int .i64 a2_0) := (blk_cell BK261.out 0).trans rfl; have hcz37_1 : w36.cell? ⟨gb261, 1, none⟩ = some (.bool a2_1) := (blk_cell BK261.out 1).trans rfl; have hfz37_0 := blk_frozen BK261.out 0; have hfz37_1 := blk_frozen BK261.out 1))
         go_ret
         exact ⟨by first | rfl | (simp [errW_none, errW_some] <;> rfl) | (simp [*, errW_none, errW_some] <;> rfl), by repeat (first | (with_reducible first | exact HB.out | apply ba | apply bn | apply bd | refine below_set ?_ GE261.out) | exact HB.out)⟩
       ·rw [if_neg c30] at H
        have c30b0 : (a2_0 == 3) = false := beq_eq_false_iff_ne.mpr c30
        have c30b1 : (a2_0 != 3) = true := bne_iff_ne.mpr c30
        by_cases c38 : a2_0 ≥ 5
        ·rw [if_pos c38] at H
         have c38b0 : decide (5 ≤ a2_0) = true := decide_eq_true c38
         clear c38
         by_cases c39 : t272 ≤ t271
         ·rw [if_pos c39] at H
          have c39b0 : decide (t272 ≤ t271) = true := decide_eq_true c39
          clear c39
          by_cases c40 : a2_0 ≤ 11
          ·rw [if_pos c40] at H
           have c40b0 : decide (a2_0 ≤ 11) = true := decide_eq_true c40
           clear c40
           obtain rfl := Option.some.inj H
           go_wp2_with (first | ((with_reducible refine gate_callee (f := 14) rfl ?_); refine goesL_ (some 48) rfl rfl Try.func14 (by kernel_rfl) rfl #[.slice A0 l0.length c0, .int .i64 t267] rfl (by (try simp only [List.map_toArray, List.map_cons, List.map_nil]); first | done | rfl | (simp only [List.length_drop, List.length_take]; rfl)) ?_; (with_reducible refine (larchlaw18_bad.calls kj9 _ _ l0 t267 t271 _ ?side1 ?side2 A20.out).mono ?_); (case side1 => repeat (first | exact (Kd.C_below HR0.out HB.out) | (with_reducible refine Kd.C_alloc ?_ _) | (with_reducible refine Kd.C_drewN ?_ _) | (with_reducible refine Kd.C_drew ?_))); (case side2 => exact HC0.out); rintro e w41 ⟨rfl, hb⟩; refine ⟨_, rfl, ?_⟩; have n0_ := Am (Kd.R_below (by (with_reducible repeat (first | apply Kd.R_alloc | apply Kd.R_drewN | apply Kd.R_drew)); exact HO_7.out) hb); have n1_ := Am (blk_below (g := gb261) (o := .cells #[.int .i64 a2_0, .bool a2_1] 24 (0, 0)) (by (with_reducible repeat (first | refine blk_drewN ?_ _ | refine blk_drew ?_ | refine blk_alloc ?_ _)); exact BK261.out) hb); have n2_ := Am (below_step (by repeat (first | (with_reducible first | exact HB.out | apply ba | apply bn | apply bd | refine below_set ?_ GE261.out) | exact HB.out)) hb); clear HO_7; clear BK261; clear HB; have HO_7 := n0_; have BK261 := n1_; have HB := n2_; clear n0_ n1_ n2_; (try clear hb); (try clear hb2); (try clear hk); (try clear hi)) | ((with_reducible refine gate_callee (f := 14) rfl ?_); refine goesL_ (some 51) rfl rfl Try.func14 (by kernel_rfl) rfl #[.slice Ao16 t263.length co16, .int .i64 t269] rfl (by (try simp only [List.map_toArray, List.map_cons, List.map_nil]); first | done | rfl | (simp only [List.length_drop, List.length_take]; rfl)) ?_; (with_reducible refine (larchlaw18_bad.calls kj9 _ _ t263 t269 t272 _ ?side1 ?side2 A21.out).mono ?_); (case side1 => repeat (first | exact (Kd.R_reads' HO_7.out).2.2 | (with_reducible refine Kd.C_alloc ?_ _) | (with_reducible refine Kd.C_drewN ?_ _) | (with_reducible refine Kd.C_drew ?_))); (case side2 => exact (Kd.R_reads' HO_7.out).2.1); rintro e w42 ⟨rfl, hb⟩; refine ⟨_, rfl, ?_⟩; have n0_ := Am (Kd.R_below (by (with_reducible repeat (first | apply Kd.R_alloc | apply Kd.R_drewN | apply Kd.R_drew)); exact HO_7.out) hb); have n1_ := Am (blk_below (g := gb261) (o := .cells #[.int .i64 a2_0, .bool a2_1] 24 (0, 0)) (by (with_reducible repeat (first | refine blk_drewN ?_ _ | refine blk_drew ?_ | refine blk_alloc ?_ _)); exact BK261.out) hb); have n2_ := Am (below_step (by repeat (first | (with_reducible first | exact HB.out | apply ba | apply bn | apply bd | refine below_set ?_ GE261.out) | exact HB.out)) hb); clear HO_7; clear BK261; clear HB; have HO_7 := n0_; have BK261 := n1_; have HB := n2_; clear n0_ n1_ n2_; (try clear hb); (try clear hb2); (try clear hk); (try clear hi); have hcz43_0 : w42.cell? ⟨gb261, 0, none⟩ = some (.int .i64 a2_0) := (blk_cell BK261.out 0).trans rfl; have hcz43_1 : w42.cell? ⟨gb261, 1, none⟩ = some (.bool a2_1) := (blk_cell BK261.out 1).trans rfl; have hfz43_0 := blk_frozen BK261.out 0; have hfz43_1 := blk_frozen BK261.out 1))
           go_ret
           exact ⟨by first | rfl | (simp [errW_none, errW_some] <;> rfl) | (simp [*, errW_none, errW_some] <;> rfl), by repeat (first | (with_reducible first | exact HB.out | apply ba | apply bn | apply bd | refine below_set ?_ GE261.out) | exact HB.out)⟩
          ·rw [if_neg c40] at H
           have c40b0 : decide (a2_0 ≤ 11) = false := decide_eq_false c40
           clear c40
           obtain rfl := Option.some.inj H
           go_wp2_with (first | ((with_reducible refine gate_callee (f := 14) rfl ?_); refine goesL_ (some 48) rfl rfl Try.func14 (by kernel_rfl) rfl #[.slice A0 l0.length c0, .int .i64 t267] rfl (by (try simp only [List.map_toArray, List.map_cons, List.map_nil]); first | done | rfl | (simp only [List.length_drop, List.length_take]; rfl)) ?_; (with_reducible refine (larchlaw18_bad.calls kj9 _ _ l0 t267 t271 _ ?side1 ?side2 A20.out).mono ?_); (case side1 => repeat (first | exact (Kd.C_below HR0.out HB.out) | (with_reducible refine Kd.C_alloc ?_ _) | (with_reducible refine Kd.C_drewN ?_ _) | (with_reducible refine Kd.C_drew ?_))); (case side2 => exact HC0.out); rintro e w44 ⟨rfl, hb⟩; refine ⟨_, rfl, ?_⟩; have n0_ := Am (Kd.R_below (by (with_reducible repeat (first | apply Kd.R_alloc | apply Kd.R_drewN | apply Kd.R_drew)); exact HO_7.out) hb); have n1_ := Am (blk_below (g := gb261) (o := .cells #[.int .i64 a2_0, .bool a2_1] 24 (0, 0)) (by (with_reducible repeat (first | refine blk_drewN ?_ _ | refine blk_drew ?_ | refine blk_alloc ?_ _)); exact BK261.out) hb); have n2_ := Am (below_step (by repeat (first | (with_reducible first | exact HB.out | apply ba | apply bn | apply bd | refine below_set ?_ GE261.out) | exact HB.out)) hb); clear HO_7; clear BK261; clear HB; have HO_7 := n0_; have BK261 := n1_; have HB := n2_; clear n0_ n1_ n2_; (try clear hb); (try clear hb2); (try clear hk); (try clear hi)) | ((with_reducible refine gate_callee (f := 14) rfl ?_); refine goesL_ (some 51) rfl rfl Try.func14 (by kernel_rfl) rfl #[.slice Ao16 t263.length co16, .int .i64 t269] rfl (by (try simp only [List.map_toArray, List.map_cons, List.map_nil]); first | done | rfl | (simp only [List.length_drop, List.length_take]; rfl)) ?_; (with_reducible refine (larchlaw18_bad.calls kj9 _ _ t263 t269 t272 _ ?side1 ?side2 A21.out).mono ?_); (case side1 => repeat (first | exact (Kd.R_reads' HO_7.out).2.2 | (with_reducible refine Kd.C_alloc ?_ _) | (with_reducible refine Kd.C_drewN ?_ _) | (with_reducible refine Kd.C_drew ?_))); (case side2 => exact (Kd.R_reads' HO_7.out).2.1); rintro e w45 ⟨rfl, hb⟩; refine ⟨_, rfl, ?_⟩; have n0_ := Am (Kd.R_below (by (with_reducible repeat (first | apply Kd.R_alloc | apply Kd.R_drewN | apply Kd.R_drew)); exact HO_7.out) hb); have n1_ := Am (blk_below (g := gb261) (o := .cells #[.int .i64 a2_0, .bool a2_1] 24 (0, 0)) (by (with_reducible repeat (first | refine blk_drewN ?_ _ | refine blk_drew ?_ | refine blk_alloc ?_ _)); exact BK261.out) hb); have n2_ := Am (below_step (by repeat (first | (with_reducible first | exact HB.out | apply ba | apply bn | apply bd | refine below_set ?_ GE261.out) | exact HB.out)) hb); clear HO_7; clear BK261; clear HB; have HO_7 := n0_; have BK261 := n1_; have HB := n2_; clear n0_ n1_ n2_; (try clear hb); (try clear hb2); (try clear hk); (try clear hi); have hcz46_0 : w45.cell? ⟨gb261, 0, none⟩ = some (.int .i64 a2_0) := (blk_cell BK261.out 0).trans rfl; have hcz46_1 : w45.cell? ⟨gb261, 1, none⟩ = some (.bool a2_1) := (blk_cell BK261.out 1).trans rfl; have hfz46_0 := blk_frozen BK261.out 0; have hfz46_1 := blk_frozen BK261.out 1))
           go_ret
           exact ⟨by first | rfl | (simp [errW_none, errW_some] <;> rfl) | (simp [*, errW_none, errW_some] <;> rfl), by repeat (first | (with_reducible first | exact HB.out | apply ba | apply bn | apply bd | refine below_set ?_ GE261.out) | exact HB.out)⟩
         ·rw [if_neg c39] at H
          have c39b0 : decide (t272 ≤ t271) = false := decide_eq_false c39
          clear c39
          obtain rfl := Option.some.inj H
          go_wp2_with (first | ((with_reducible refine gate_callee (f := 14) rfl ?_); refine goesL_ (some 48) rfl rfl Try.func14 (by kernel_rfl) rfl #[.slice A0 l0.length c0, .int .i64 t267] rfl (by (try simp only [List.map_toArray, List.map_cons, List.map_nil]); first | done | rfl | (simp only [List.length_drop, List.length_take]; rfl)) ?_; (with_reducible refine (larchlaw18_bad.calls kj9 _ _ l0 t267 t271 _ ?side1 ?side2 A20.out).mono ?_); (case side1 => repeat (first | exact (Kd.C_below HR0.out HB.out) | (with_reducible refine Kd.C_alloc ?_ _) | (with_reducible refine Kd.C_drewN ?_ _) | (with_reducible refine Kd.C_drew ?_))); (case side2 => exact HC0.out); rintro e w47 ⟨rfl, hb⟩; refine ⟨_, rfl, ?_⟩; have n0_ := Am (Kd.R_below (by (with_reducible repeat (first | apply Kd.R_alloc | apply Kd.R_drewN | apply Kd.R_drew)); exact HO_7.out) hb); have n1_ := Am (blk_below (g := gb261) (o := .cells #[.int .i64 a2_0, .bool a2_1] 24 (0, 0)) (by (with_reducible repeat (first | refine blk_drewN ?_ _ | refine blk_drew ?_ | refine blk_alloc ?_ _)); exact BK261.out) hb); have n2_ := Am (below_step (by repeat (first | (with_reducible first | exact HB.out | apply ba | apply bn | apply bd | refine below_set ?_ GE261.out) | exact HB.out)) hb); clear HO_7; clear BK261; clear HB; have HO_7 := n0_; have BK261 := n1_; have HB := n2_; clear n0_ n1_ n2_; (try clear hb); (try clear hb2); (try clear hk); (try clear hi)) | ((with_reducible refine gate_callee (f := 14) rfl ?_); refine goesL_ (some 51) rfl rfl Try.func14 (by kernel_rfl) rfl #[.slice Ao16 t263.length co16, .int .i64 t269] rfl (by (try simp only [List.map_toArray, List.map_cons, List.map_nil]); first | done | rfl | (simp only [List.length_drop, List.length_take]; rfl)) ?_; (with_reducible refine (larchlaw18_bad.calls kj9 _ _ t263 t269 t272 _ ?side1 ?side2 A21.out).mono ?_); (case side1 => repeat (first | exact (Kd.R_reads' HO_7.out).2.2 | (with_reducible refine Kd.C_alloc ?_ _) | (with_reducible refine Kd.C_drewN ?_ _) | (with_reducible refine Kd.C_drew ?_))); (case side2 => exact (Kd.R_reads' HO_7.out).2.1); rintro e w48 ⟨rfl, hb⟩; refine ⟨_, rfl, ?_⟩; have n0_ := Am (Kd.R_below (by (with_reducible repeat (first | apply Kd.R_alloc | apply Kd.R_drewN | apply Kd.R_drew)); exact HO_7.out) hb); have n1_ := Am (blk_below (g := gb261) (o := .cells #[.int .i64 a2_0, .bool a2_1] 24 (0, 0)) (by (with_reducible repeat (first | refine blk_drewN ?_ _ | refine blk_drew ?_ | refine blk_alloc ?_ _)); exact BK261.out) hb); have n2_ := Am (below_step (by repeat (first | (with_reducible first | exact HB.out | apply ba | apply bn | apply bd | refine below_set ?_ GE261.out) | exact HB.out)) hb); clear HO_7; clear BK261; clear HB; have HO_7 := n0_; have BK261 := n1_; have HB := n2_; clear n0_ n1_ n2_; (try clear hb); (try clear hb2); (try clear hk); (try clear hi); have hcz49_0 : w48.cell? ⟨gb261, 0, none⟩ = some (.int .i64 a2_0) := (blk_cell BK261.out 0).trans rfl; have hcz49_1 : w48.cell? ⟨gb261, 1, none⟩ = some (.bool a2_1) := (blk_cell BK261.out 1).trans rfl; have hfz49_0 := blk_frozen BK261.out 0; have hfz49_1 := blk_frozen BK261.out 1))
          go_ret
          exact ⟨by first | rfl | (simp [errW_none, errW_some] <;> rfl) | (simp [*, errW_none, errW_some] <;> rfl), by repeat (first | (with_reducible first | exact HB.out | apply ba | apply bn | apply bd | refine below_set ?_ GE261.out) | exact HB.out)⟩
        ·rw [if_neg c38] at H
         have c38b0 : decide (5 ≤ a2_0) = false := decide_eq_false c38
         clear c38
         by_cases c50 : t272 ≤ t271
         ·rw [if_pos c50] at H
          have c50b0 : decide (t272 ≤ t271) = true := decide_eq_true c50
          clear c50
          obtain rfl := Option.some.inj H
          go_wp2_with (first | ((with_reducible refine gate_callee (f := 14) rfl ?_); refine goesL_ (some 48) rfl rfl Try.func14 (by kernel_rfl) rfl #[.slice A0 l0.length c0, .int .i64 t267] rfl (by (try simp only [List.map_toArray, List.map_cons, List.map_nil]); first | done | rfl | (simp only [List.length_drop, List.length_take]; rfl)) ?_; (with_reducible refine (larchlaw18_bad.calls kj9 _ _ l0 t267 t271 _ ?side1 ?side2 A20.out).mono ?_); (case side1 => repeat (first | exact (Kd.C_below HR0.out HB.out) | (with_reducible refine Kd.C_alloc ?_ _) | (with_reducible refine Kd.C_drewN ?_ _) | (with_reducible refine Kd.C_drew ?_))); (case side2 => exact HC0.out); rintro e w51 ⟨rfl, hb⟩; refine ⟨_, rfl, ?_⟩; have n0_ := Am (Kd.R_below (by (with_reducible repeat (first | apply Kd.R_alloc | apply Kd.R_drewN | apply Kd.R_drew)); exact HO_7.out) hb); have n1_ := Am (blk_below (g := gb261) (o := .cells #[.int .i64 a2_0, .bool a2_1] 24 (0, 0)) (by (with_reducible repeat (first | refine blk_drewN ?_ _ | refine blk_drew ?_ | refine blk_alloc ?_ _)); exact BK261.out) hb); have n2_ := Am (below_step (by repeat (first | (with_reducible first | exact HB.out | apply ba | apply bn | apply bd | refine below_set ?_ GE261.out) | exact HB.out)) hb); clear HO_7; clear BK261; clear HB; have HO_7 := n0_; have BK261 := n1_; have HB := n2_; clear n0_ n1_ n2_; (try clear hb); (try clear hb2); (try clear hk); (try clear hi)) | ((with_reducible refine gate_callee (f := 14) rfl ?_); refine goesL_ (some 51) rfl rfl Try.func14 (by kernel_rfl) rfl #[.slice Ao16 t263.length co16, .int .i64 t269] rfl (by (try simp only [List.map_toArray, List.map_cons, List.map_nil]); first | done | rfl | (simp only [List.length_drop, List.length_take]; rfl)) ?_; (with_reducible refine (larchlaw18_bad.calls kj9 _ _ t263 t269 t272 _ ?side1 ?side2 A21.out).mono ?_); (case side1 => repeat (first | exact (Kd.R_reads' HO_7.out).2.2 | (with_reducible refine Kd.C_alloc ?_ _) | (with_reducible refine Kd.C_drewN ?_ _) | (with_reducible refine Kd.C_drew ?_))); (case side2 => exact (Kd.R_reads' HO_7.out).2.1); rintro e w52 ⟨rfl, hb⟩; refine ⟨_, rfl, ?_⟩; have n0_ := Am (Kd.R_below (by (with_reducible repeat (first | apply Kd.R_alloc | apply Kd.R_drewN | apply Kd.R_drew)); exact HO_7.out) hb); have n1_ := Am (blk_below (g := gb261) (o := .cells #[.int .i64 a2_0, .bool a2_1] 24 (0, 0)) (by (with_reducible repeat (first | refine blk_drewN ?_ _ | refine blk_drew ?_ | refine blk_alloc ?_ _)); exact BK261.out) hb); have n2_ := Am (below_step (by repeat (first | (with_reducible first | exact HB.out | apply ba | apply bn | apply bd | refine below_set ?_ GE261.out) | exact HB.out)) hb); clear HO_7; clear BK261; clear HB; have HO_7 := n0_; have BK261 := n1_; have HB := n2_; clear n0_ n1_ n2_; (try clear hb); (try clear hb2); (try clear hk); (try clear hi); have hcz53_0 : w52.cell? ⟨gb261, 0, none⟩ = some (.int .i64 a2_0) := (blk_cell BK261.out 0).trans rfl; have hcz53_1 : w52.cell? ⟨gb261, 1, none⟩ = some (.bool a2_1) := (blk_cell BK261.out 1).trans rfl; have hfz53_0 := blk_frozen BK261.out 0; have hfz53_1 := blk_frozen BK261.out 1))
          go_ret
          exact ⟨by first | rfl | (simp [errW_none, errW_some] <;> rfl) | (simp [*, errW_none, errW_some] <;> rfl), by repeat (first | (with_reducible first | exact HB.out | apply ba | apply bn | apply bd | refine below_set ?_ GE261.out) | exact HB.out)⟩
         ·rw [if_neg c50] at H
          have c50b0 : decide (t272 ≤ t271) = false := decide_eq_false c50
          clear c50
          obtain rfl := Option.some.inj H
          go_wp2_with (first | ((with_reducible refine gate_callee (f := 14) rfl ?_); refine goesL_ (some 48) rfl rfl Try.func14 (by kernel_rfl) rfl #[.slice A0 l0.length c0, .int .i64 t267] rfl (by (try simp only [List.map_toArray, List.map_cons, List.map_nil]); first | done | rfl | (simp only [List.length_drop, List.length_take]; rfl)) ?_; (with_reducible refine (larchlaw18_bad.calls kj9 _ _ l0 t267 t271 _ ?side1 ?side2 A20.out).mono ?_); (case side1 => repeat (first | exact (Kd.C_below HR0.out HB.out) | (with_reducible refine Kd.C_alloc ?_ _) | (with_reducible refine Kd.C_drewN ?_ _) | (with_reducible refine Kd.C_drew ?_))); (case side2 => exact HC0.out); rintro e w54 ⟨rfl, hb⟩; refine ⟨_, rfl, ?_⟩; have n0_ := Am (Kd.R_below (by (with_reducible repeat (first | apply Kd.R_alloc | apply Kd.R_drewN | apply Kd.R_drew)); exact HO_7.out) hb); have n1_ := Am (blk_below (g := gb261) (o := .cells #[.int .i64 a2_0, .bool a2_1] 24 (0, 0)) (by (with_reducible repeat (first | refine blk_drewN ?_ _ | refine blk_drew ?_ | refine blk_alloc ?_ _)); exact BK261.out) hb); have n2_ := Am (below_step (by repeat (first | (with_reducible first | exact HB.out | apply ba | apply bn | apply bd | refine below_set ?_ GE261.out) | exact HB.out)) hb); clear HO_7; clear BK261; clear HB; have HO_7 := n0_; have BK261 := n1_; have HB := n2_; clear n0_ n1_ n2_; (try clear hb); (try clear hb2); (try clear hk); (try clear hi)) | ((with_reducible refine gate_callee (f := 14) rfl ?_); refine goesL_ (some 51) rfl rfl Try.func14 (by kernel_rfl) rfl #[.slice Ao16 t263.length co16, .int .i64 t269] rfl (by (try simp only [List.map_toArray, List.map_cons, List.map_nil]); first | done | rfl | (simp only [List.length_drop, List.length_take]; rfl)) ?_; (with_reducible refine (larchlaw18_bad.calls kj9 _ _ t263 t269 t272 _ ?side1 ?side2 A21.out).mono ?_); (case side1 => repeat (first | exact (Kd.R_reads' HO_7.out).2.2 | (with_reducible refine Kd.C_alloc ?_ _) | (with_reducible refine Kd.C_drewN ?_ _) | (with_reducible refine Kd.C_drew ?_))); (case side2 => exact (Kd.R_reads' HO_7.out).2.1); rintro e w55 ⟨rfl, hb⟩; refine ⟨_, rfl, ?_⟩; have n0_ := Am (Kd.R_below (by (with_reducible repeat (first | apply Kd.R_alloc | apply Kd.R_drewN | apply Kd.R_drew)); exact HO_7.out) hb); have n1_ := Am (blk_below (g := gb261) (o := .cells #[.int .i64 a2_0, .bool a2_1] 24 (0, 0)) (by (with_reducible repeat (first | refine blk_drewN ?_ _ | refine blk_drew ?_ | refine blk_alloc ?_ _)); exact BK261.out) hb); have n2_ := Am (below_step (by repeat (first | (with_reducible first | exact HB.out | apply ba | apply bn | apply bd | refine below_set ?_ GE261.out) | exact HB.out)) hb); clear HO_7; clear BK261; clear HB; have HO_7 := n0_; have BK261 := n1_; have HB := n2_; clear n0_ n1_ n2_; (try clear hb); (try clear hb2); (try clear hk); (try clear hi); have hcz56_0 : w55.cell? ⟨gb261, 0, none⟩ = some (.int .i64 a2_0) := (blk_cell BK261.out 0).trans rfl; have hcz56_1 : w55.cell? ⟨gb261, 1, none⟩ = some (.bool a2_1) := (blk_cell BK261.out 1).trans rfl; have hfz56_0 := blk_frozen BK261.out 0; have hfz56_1 := blk_frozen BK261.out 1))
          go_ret
          exact ⟨by first | rfl | (simp [errW_none, errW_some] <;> rfl) | (simp [*, errW_none, errW_some] <;> rfl), by repeat (first | (with_reducible first | exact HB.out | apply ba | apply bn | apply bd | refine below_set ?_ GE261.out) | exact HB.out)⟩
  ·replace c7 := Bool.eq_false_iff.mpr c7
   subst c7
   have H1 : (some ((t263.length : Int) == 0)) = some r := by rw [if_neg (show ¬ (false = true) by decide)] at H; exact H
   clear H
   have H := H1
   clear H1
   obtain rfl := Option.some.inj H
   go_enter Try.func4, Try.ntmps4
   go_wp2_with (first | ((with_reducible refine gate_dst (N := 5) rfl ?_); refine box_event ?hg (N := 5) ?hd (cs := #[.int .i64 a2_0, .bool a2_1]) (t := 24) ?hr ?_; (case hd => rfl); (case hg => rfl); (case hr => first | (go_simp; done) | (go_simp; rfl)); intro gb261 hg w57 hbox hb; have n0_ := Am (below_step (by repeat (first | (with_reducible first | exact HB.out | apply ba | apply bn | apply bd) | exact HB.out)) hb); have n1_ := Am (hbox); have n2_ := Am ((by rw [hg]; exact (below_size (by repeat (first | (with_reducible first | exact HB.out | apply ba | apply bn | apply bd) | exact HB.out))) : w.heap.size ≤ gb261)); have n3_ := Am ((by rw [hg]; exact (below_size (by repeat (first | (with_reducible first | exact HB.out | apply ba | apply bn | apply bd) | exact HB.out))) : w.heap.size ≤ gb261)); clear HB; have HB := n0_; have BK261 := n1_; have GW261 := n2_; have GE261 := n3_; clear n0_ n1_ n2_ n3_; clear hb hbox hg) | ((with_reducible refine gate_callee (f := 10) rfl ?_); refine goesL_ (some 16) rfl rfl Try.func10 (by kernel_rfl) rfl #[] rfl (by (try simp only [List.map_toArray, List.map_cons, List.map_nil]); first | done | rfl | (simp only [List.length_drop, List.length_take]; rfl)) ?_; (with_reducible refine (larchlaw18_awake.calls k  true _ A4.out).mono ?_); rintro e w58 ⟨rfl, hb⟩; refine ⟨_, rfl, ?_⟩; have n0_ := Am (blk_below (g := gb261) (o := .cells #[.int .i64 a2_0, .bool a2_1] 24 (0, 0)) (by (with_reducible repeat (first | refine blk_drewN ?_ _ | refine blk_drew ?_ | refine blk_alloc ?_ _)); exact BK261.out) hb); have n1_ := Am (below_step (by repeat (first | (with_reducible first | exact HB.out | apply ba | apply bn | apply bd | refine below_set ?_ GE261.out) | exact HB.out)) hb); clear BK261; clear HB; have BK261 := n0_; have HB := n1_; clear n0_ n1_; (try clear hb); (try clear hb2); (try clear hk); (try clear hi); have hcz59_0 : w58.cell? ⟨gb261, 0, none⟩ = some (.int .i64 a2_0) := (blk_cell BK261.out 0).trans rfl; have hcz59_1 : w58.cell? ⟨gb261, 1, none⟩ = some (.bool a2_1) := (blk_cell BK261.out 1).trans rfl; have hfz59_0 := blk_frozen BK261.out 0; have hfz59_1 := blk_frozen BK261.out 1) | ((with_reducible refine gate_callee (f := 11) rfl ?_); refine goesL_ (some 22) rfl rfl Try.func11 (by kernel_rfl) rfl #[.slice A0 l0.length c0, .int .i64 a1, .agg #[.int .i64 a2_0, .bool a2_1]] rfl (by (try simp only [List.map_toArray, List.map_cons, List.map_nil]); first | done | rfl | (simp only [List.length_drop, List.length_take]; rfl)) ?_; (with_reducible refine (larchlaw18_done.calls k _ _ l0 a1 a2_0 a2_1 t263 false _ ?side1 ?side2 A6.out).mono ?_); (case side1 => repeat (first | exact (Kd.C_below HR0.out HB.out) | (with_reducible refine Kd.C_alloc ?_ _) | (with_reducible refine Kd.C_drewN ?_ _) | (with_reducible refine Kd.C_drew ?_))); (case side2 => exact HC0.out); rintro e w60 ⟨v264, rfl, ho0, hb⟩; refine ⟨_, rfl, ?_⟩; have n0_ := Am (Kd.R_lower ho0 (below_size (by repeat (first | (with_reducible first | exact HB.out | apply ba | apply bn | apply bd | refine below_set ?_ GE261.out) | exact HB.out)))); have n1_ := Am (blk_below (g := gb261) (o := .cells #[.int .i64 a2_0, .bool a2_1] 24 (0, 0)) (by (with_reducible repeat (first | refine blk_drewN ?_ _ | refine blk_drew ?_ | refine blk_alloc ?_ _)); exact BK261.out) hb); have n2_ := Am (below_step (by repeat (first | (with_reducible first | exact HB.out | apply ba | apply bn | apply bd | refine below_set ?_ GE261.out) | exact HB.out)) hb); clear BK261; clear HB; have HO265 := n0_; have BK261 := n1_; have HB := n2_; clear n0_ n1_ n2_; (try clear hb); (try clear hb2); (try clear hk); (try clear hi); (try clear ho0); obtain ⟨Ao61, co61, eo61⟩ := Kd.R_slice HO265.out; subst eo61))
   go_ret
   exact ⟨by first | rfl | (simp [errW_none, errW_some] <;> rfl) | (simp [*, errW_none, errW_some] <;> rfl), by repeat (first | (with_reducible first | exact HB.out | apply ba | apply bn | apply bd | refine below_set ?_ GE261.out) | exact HB.out)⟩
 ·replace c5 := Bool.eq_false_iff.mpr c5
  subst c5
  have H1 : (some false) = some r := by rw [if_neg (show ¬ (false = true) by decide)] at H; exact H
  clear H
  have H := H1
  clear H1
  obtain rfl := Option.some.inj H
  go_enter Try.func4, Try.ntmps4
  go_wp2_with (first | ((with_reducible refine gate_dst (N := 5) rfl ?_); refine box_event ?hg (N := 5) ?hd (cs := #[.int .i64 a2_0, .bool a2_1]) (t := 24) ?hr ?_; (case hd => rfl); (case hg => rfl); (case hr => first | (go_simp; done) | (go_simp; rfl)); intro gb261 hg w62 hbox hb; have n0_ := Am (below_step (by repeat (first | (with_reducible first | exact HB.out | apply ba | apply bn | apply bd) | exact HB.out)) hb); have n1_ := Am (hbox); have n2_ := Am ((by rw [hg]; exact (below_size (by repeat (first | (with_reducible first | exact HB.out | apply ba | apply bn | apply bd) | exact HB.out))) : w.heap.size ≤ gb261)); have n3_ := Am ((by rw [hg]; exact (below_size (by repeat (first | (with_reducible first | exact HB.out | apply ba | apply bn | apply bd) | exact HB.out))) : w.heap.size ≤ gb261)); clear HB; have HB := n0_; have BK261 := n1_; have GW261 := n2_; have GE261 := n3_; clear n0_ n1_ n2_ n3_; clear hb hbox hg) | ((with_reducible refine gate_callee (f := 10) rfl ?_); refine goesL_ (some 16) rfl rfl Try.func10 (by kernel_rfl) rfl #[] rfl (by (try simp only [List.map_toArray, List.map_cons, List.map_nil]); first | done | rfl | (simp only [List.length_drop, List.length_take]; rfl)) ?_; (with_reducible refine (larchlaw18_awake.calls k  false _ A4.out).mono ?_); rintro e w63 ⟨rfl, hb⟩; refine ⟨_, rfl, ?_⟩; have n0_ := Am (blk_below (g := gb261) (o := .cells #[.int .i64 a2_0, .bool a2_1] 24 (0, 0)) (by (with_reducible repeat (first | refine blk_drewN ?_ _ | refine blk_drew ?_ | refine blk_alloc ?_ _)); exact BK261.out) hb); have n1_ := Am (below_step (by repeat (first | (with_reducible first | exact HB.out | apply ba | apply bn | apply bd | refine below_set ?_ GE261.out) | exact HB.out)) hb); clear BK261; clear HB; have BK261 := n0_; have HB := n1_; clear n0_ n1_; (try clear hb); (try clear hb2); (try clear hk); (try clear hi)))
  go_ret
  exact ⟨by first | rfl | (simp [errW_none, errW_some] <;> rfl) | (simp [*, errW_none, errW_some] <;> rfl), by repeat (first | (with_reducible first | exact HB.out | apply ba | apply bn | apply bd | refine below_set ?_ GE261.out) | exact HB.out)⟩
end Go.Proofs.Ytgleaefhflamnaa.T
namespace Go.Proofs.Ytgleaefhflamnaa.T
open Go.RowKit Go.Proofs.YtgleaefhflamnaaW.PrintWords Go.Proofs.YtgleaefhflamnaaW.PrintLast Go.Proofs.YtgleaefhflamnaaW.PrintMore
/-- How many violations less at the least. -/
def lessBy (kind : Int) : Int := if kind = 1 ∨ kind = 4 ∨ kind = 12 then 0 else 1
theorem doT_bad (m rt : Bool) {X : Tr} {kind : Int} (hk : 1 ≤ kind ∧ kind ≤ 12) (h12 : kind ≠ 12) (hX : Ok X) (hc : canT m rt X kind = true) (p : Int) (hp : 0 ≤ p) : bad (doT m X kind) + rdp p (wt (doT m X kind)) + lessBy kind ≤ bad X + rdp p (wt X) := by
 have hd : kind = 1 ∨ kind = 2 ∨ kind = 3 ∨ kind = 4 ∨ kind = 5 ∨ kind = 6 ∨ kind = 7 ∨ kind = 8 ∨ kind = 9 ∨ kind = 10 ∨ kind = 11 := by omega
 rcases hd with rfl | rfl | rfl | rfl | rfl | rfl | rfl | rfl | rfl | rfl | rfl
 ·have := do1_bad m hX hc p hp; show bad (do1 m X) + rdp p (wt (do1 m X)) + 0 ≤ _; omega
 ·have := do2_bad m hX hc p hp; show bad (do2 m X) + rdp p (wt (do2 m X)) + 1 ≤ _; omega
 ·have := do3_bad m hX hc p hp; show bad (do3 m X) + rdp p (wt (do3 m X)) + 1 ≤ _; omega
 ·have := do4_bad m hX hc p hp; show bad (do4 m X) + rdp p (wt (do4 m X)) + 0 ≤ _; omega
 ·have := do5_bad m hX hc p hp; show bad (do5 m X) + rdp p (wt (do5 m X)) + 1 ≤ _; omega
 ·have := do6_bad m hX hc p hp; show bad (do6 m X) + rdp p (wt (do6 m X)) + 1 ≤ _; omega
 ·have := do7_bad m hX hc p hp; show bad (do7 m X) + rdp p (wt (do7 m X)) + 1 ≤ _; omega
 ·have := do8_bad m hX hc p hp; show bad (do8 m X) + rdp p (wt (do8 m X)) + 1 ≤ _; omega
 ·have := do9_bad m hX hc p hp; show bad (do9 m X) + rdp p (wt (do9 m X)) + 1 ≤ _; omega
 ·have := do10_bad m hX hc p hp; show bad (do10 m X) + rdp p (wt (do10 m X)) + 1 ≤ _; omega
 ·have := do11_bad m hX hc p hp; show bad (do11 m X) + rdp p (wt (do11 m X)) + 1 ≤ _; omega
theorem rdp_b (a b : Int) : 0 ≤ rdp a b ∧ rdp a b ≤ 1 := by unfold rdp; omega
theorem bad_set1 {Y : Tr} (h : Y ≠ .nil) : bad (setW Y 1) ≤ bad Y := by
 cases Y with
 | nil => exact absurd rfl h
 | node n p l r =>
  have h1 := rdp_b n.f2 (wt l)
  have h2 := rdp_b n.f2 (wt r)
  simp only [setW, bad]
  rw [rdp_l (by decide), rdp_l (by decide)]
  omega
theorem lessBy_b (kind : Int) : 0 ≤ lessBy kind ∧ lessBy kind ≤ 1 := by unfold lessBy; omega
/-- At the root of the keys. -/
theorem root_bad (m : Bool) {X : Tr} {kind : Int} (hk : 1 ≤ kind ∧ kind ≤ 12) (hX : Ok X) (hc : canT m true X kind = true) : bad (setW (doT m X kind) 1) + lessBy kind ≤ bad X := by
 by_cases h12 : kind = 12
 ·subst h12
  have e : doT m X 12 = asT 1 X := rfl
  have e2 : asT 1 X = setW (asT 1 X) 1 := (setW_as _ _ _).symm
  rw [e, setW_as, show lessBy 12 = 0 from rfl]
  have h1 := bad_as m 1 (ok_ne hX)
  have h2 := bad_split m (ok_ne hX)
  rw [rdp_l (by decide), rdp_l (by decide)] at h1
  have h3 := rdp_b (wt X) (wt (lT m X))
  have h4 := rdp_b (wt X) (wt (rT m X))
  omega
 ·have h := doT_bad m true hk h12 hX hc 1 (by decide)
  have hn := ok_set_top (doT_does m true hk h12 hX hc).ok1
  have h2 := bad_set1 hn
  rw [rdp_l (by decide), rdp_l (by decide)] at h
  omega
theorem repl_wt (c : Nat) (R : Tr) (T : Tr) : wt (replT c R T) = wt T := by cases T <;> rfl
theorem repl_bad {t : List S34} (hf : ∀ i, i < t.length → fmN (t.getD i z34) t.length = true) {c K : Nat} {X R : Tr} {s : Int} (hs : 0 ≤ s) (hX : mkT t K c = some X) (hb : ∀ p, 0 ≤ p → bad R + rdp p (wt R) + s ≤ bad X + rdp p (wt X)) : ∀ (k i : Nat) (T : Tr), mkT t k i = some T → bad (replT c R T) + (if (c : Int) ∈ plT T ∧ plc T ≠ c then s else 0) ≤ bad T := by
 intro k
 induction k with
 | zero => intro i T h; simp [mkT] at h
 | succ k ih =>
  intro i T h
  rw [mkT] at h
  split at h
  case isFalse => exact absurd h (by simp)
  rename_i hi
  have hfm := (fmN_iff _ _).1 (hf i hi)
  split at h
  ·obtain ⟨l, hl, h⟩ := Option.bind_eq_some_iff.1 h
   obtain ⟨r, hr, h⟩ := Option.bind_eq_some_iff.1 h
   obtain rfl := Option.some.inj h
   have e : ∀ (j : Nat) (S : Tr), mkT t k j = some S → bad (if plc S = c then R else replT c R S) + rdp (t.getD i z34).f2 (wt (if plc S = c then R else replT c R S)) + (if (c : Int) ∈ plT S then s else 0) ≤ bad S + rdp (t.getD i z34).f2 (wt S) := by
    intro j S hS
    by_cases hp : plc S = c
    ·rw [if_pos hp]
     rw [mkT_plc hS] at hp
     obtain rfl : j = c := by omega
     have := hb (t.getD i z34).f2 hfm.1.1
     rw [mkT_fun t hS hX]
     split <;> omega
    ·rw [if_neg hp, repl_wt]
     have := ih j S hS
     by_cases hm : (c : Int) ∈ plT S
     ·rw [if_pos ⟨hm, hp⟩] at this; rw [if_pos hm]; omega
     ·rw [if_neg (fun h => hm h.1)] at this; rw [if_neg hm]; omega
   have el := e _ _ hl
   have er := e _ _ hr
   rw [replT, bad, bad]
   by_cases hc : (c : Int) ∈ plT (.node (t.getD i z34) i l r) ∧ plc (.node (t.getD i z34) i l r) ≠ c
   ·rw [if_pos hc]
    have hor : (c : Int) ∈ plT l ∨ (c : Int) ∈ plT r := by
     have h1 := hc.1
     simp only [plT, List.mem_cons, List.mem_append] at h1
     rcases h1 with h1 | h1
     ·exact absurd h1.symm hc.2
     ·exact h1
    rcases hor with h1 | h1
    ·rw [if_pos h1] at el
     have : 0 ≤ (if (c : Int) ∈ plT r then s else 0) := by split <;> omega
     omega
    ·rw [if_pos h1] at er
     have : 0 ≤ (if (c : Int) ∈ plT l then s else 0) := by split <;> omega
     omega
   ·rw [if_neg hc]
    have : 0 ≤ (if (c : Int) ∈ plT r then s else 0) := by split <;> omega
    have : 0 ≤ (if (c : Int) ∈ plT l then s else 0) := by split <;> omega
    omega
  ·obtain rfl := Option.some.inj h
   rw [replT, if_neg (plc_nil c), replT, if_neg ?_]
   ·omega
   ·intro hh
    have h1 := hh.1
    simp only [plT, List.append_nil, List.mem_cons, List.not_mem_nil, or_false] at h1
    exact hh.2 h1.symm
end Go.Proofs.Ytgleaefhflamnaa.T
namespace Go.Proofs.Ytgleaefhflamnaa.T
open Go.RowKit Go.Proofs.YtgleaefhflamnaaW.PrintWords Go.Proofs.YtgleaefhflamnaaW.PrintLast Go.Proofs.YtgleaefhflamnaaW.PrintMore
theorem red_f {t : List S34} {i j : Nat} (hi : i < t.length) (hj : j < t.length) : larchlaw18_red.f t i j = some (rdp (t.getD j z34).f2 (t.getD i z34).f2) := by
 unfold larchlaw18_red.f
 rw [if_pos (by omega), if_pos (by omega), if_pos (show (0 : Int) ≤ j by omega), if_pos (show (j : Int) < t.length by omega), show rd_T34 t (i : Int) = t.getD i z34 from rfl, show rd_T34 t (j : Int) = t.getD j z34 from rfl]
 unfold rdp
 by_cases h1 : (t.getD i z34).f2 = 0
 ·rw [if_pos h1]
  by_cases h2 : (t.getD j z34).f2 = 0
  ·rw [if_pos h2, if_pos ⟨h2, h1⟩]
  ·rw [if_neg h2, if_neg (fun h => h2 h.1)]
 ·rw [if_neg h1, if_neg (fun h => h1 h.2)]
theorem mx_max (a b : Int) : mx a b = max a b := by unfold mx; omega
theorem bad_f {t : List S34} (hf : ∀ i, i < t.length → fmN (t.getD i z34) t.length = true) : ∀ (k i : Nat) (T : Tr), mkT t k i = some T → sizeT T ≤ 1000000 →
  larchlaw18_bad.f k t i = some (bad T) ∧ 0 ≤ bad T ∧ bad T ≤ 2000000 * sizeT T := by
 intro k
 induction k with
 | zero => intro i T h; simp [mkT] at h
 | succ k ih =>
  intro i T h hs
  rw [mkT] at h
  split at h
  case isFalse => exact absurd h (by simp)
  rename_i hi
  have hfm := (fmN_iff _ _).1 (hf i hi)
  rw [larchlaw18_bad.f, if_pos (by omega), if_pos (by omega), show rd_T34 t (i : Int) = t.getD i z34 from rfl]
  split at h
  ·rename_i h4
   obtain ⟨l, hl, h⟩ := Option.bind_eq_some_iff.1 h
   obtain ⟨r, hr, h⟩ := Option.bind_eq_some_iff.1 h
   obtain rfl := Option.some.inj h
   rw [sizeT] at hs
   have e4 : (t.getD i z34).f4 = ((t.getD i z34).f4.toNat : Nat) := by omega
   have e5 : (t.getD i z34).f5 = ((t.getD i z34).f5.toNat : Nat) := by omega
   obtain ⟨g1, g2, g3⟩ := ih _ l hl (by omega)
   obtain ⟨g4, g5, g6⟩ := ih _ r hr (by omega)
   obtain ⟨tl, wl⟩ := top_wt hl
   obtain ⟨tr, wr⟩ := top_wt hr
   have r1 := red_f tl hi
   have r2 := red_f tr hi
   rw [← e4] at g1 r1
   rw [← e5] at g4 r2
   rw [wl] at r1
   rw [wr] at r2
   have b1 := rdp_b (t.getD i z34).f2 (wt l)
   have b2 := rdp_b (t.getD i z34).f2 (wt r)
   rw [if_pos h4, r1, Option.bind_some, r2, Option.bind_some, g1, Option.bind_some, g4, Option.bind_some, mx_max]
   rw [Go.IntWalk.wrap64_in ((t.getD i z34).f2 - 1) (by omega), Go.IntWalk.wrap64_in (rdp _ _ + rdp _ _) (by omega), Go.IntWalk.wrap64_in (rdp _ _ + rdp _ _ + bad l) (by omega), Go.IntWalk.wrap64_in (rdp _ _ + rdp _ _ + bad l + bad r) (by omega), Go.IntWalk.wrap64_in _ (by omega)]
   refine ⟨rfl, ?_, ?_⟩
   ·rw [bad]; omega
   ·rw [bad, sizeT]; omega
  ·rename_i h4
   obtain rfl := Option.some.inj h
   rw [if_neg (by omega), mx_max, Go.IntWalk.wrap64_in ((t.getD i z34).f2 - 1) (by omega)]
   have e : bad (.node (t.getD i z34) i .nil .nil) = max ((t.getD i z34).f2 - 1) 0 := by
    simp only [bad, wt]
    rw [rdp_r (by decide)]
    omega
   rw [e, sizeT, sizeT]
   exact ⟨rfl, by omega, by omega⟩
theorem moved_bad {t : List S34} {a1 kind : Int} {mir : Bool} {u : List S34} {T X0 X R : Tr} {c : Nat} {rt : Bool} (h : Moved t a1 kind mir u T X0 X R c rt) : bad (renT (newX c R X0) 2) + lessBy kind ≤ bad X0 := by
 obtain ⟨c0, hc0, hcl, hm0, hn0, hl0⟩ := crown_tree h.good h.crown
 have hok0 : Ok X0 := ok_mkT h.good.form hm0
 have hokX : Ok X := ok_mkT h.good.form h.sub
 have hokY : Ok (newX c R X0) := by
  unfold newX
  split
  ·exact h.gives.ok
  ·exact repl_ok h.gives.ok hok0
 have hplace := h.place
 have hisrt := h.isrt
 have hcan := h.can
 have hR := h.isR
 have hlb := lessBy_b kind
 rw [ren_bad hokY]
 by_cases e : plc X0 = c
 ·have hrt : rt = true := by rw [← hisrt]; exact beq_iff_eq.2 (by omega)
  subst hrt
  have hcc : c = c0 := by omega
  subst hcc
  have hXX : X = X0 := by have := h.sub; rw [hm0] at this; exact (Option.some.inj this).symm
  subst hXX
  rw [newX, if_pos e, hR, if_pos rfl]
  exact root_bad mir h.kinds hokX hcan
 ·have hrt : rt = false := by rw [← hisrt]; exact beq_eq_false_iff_ne.2 (by omega)
  subst hrt
  have h12 : kind ≠ 12 := by rintro rfl; exact absurd (can12 hcan).1 (by simp)
  rw [newX, if_neg e]
  rw [if_neg (by simp)] at hR
  subst hR
  have := repl_bad h.good.form hlb.1 h.sub (fun p hp => doT_bad mir false h.kinds h12 hokX hcan p hp) _ _ _ hm0
  rw [if_pos ⟨h.inX, e⟩] at this
  exact this
/-- StepsViolations is true of every input. -/
theorem viol_pure (l0 : List S34) (a1 kind : Int) (mir : Bool) : ∃ k, larchlaw18_StepsViolations.f k l0 a1 kind mir = some true := by
 obtain ⟨ka, hka⟩ := awake_true
 obtain ⟨kd, r1, r2, hkd, hr⟩ := do_total l0 a1 kind mir
 have hdn := done_f hkd
 rcases hr with ⟨h2, rfl⟩ | ⟨rfl, T, X0, X, R, c, rt, hm⟩
 ·refine ⟨max ka kd, ?_⟩
  unfold larchlaw18_StepsViolations.f
  rw [up_to (fun k => larchlaw18_awake.mono k) (Nat.le_max_left _ _) hka, Option.bind_some, if_pos rfl, up_to (fun k => larchlaw18_done.mono l0 a1 kind mir k) (Nat.le_max_right _ _) hdn, Option.bind_some]
  simp only
  rw [if_neg (by simpa using h2)]
  rfl
 ·obtain ⟨c0, ht⟩ := moved_two hm
  have hbad := moved_bad hm
  have hkinds := hm.kinds
  obtain ⟨k1, hk1⟩ := root_at ht.good ht.crown
  obtain ⟨k2, hk2⟩ := root_at ht.goodU ht.crownU
  rw [ht.at0] at hk1
  rw [ht.atU] at hk2
  have hs0 := ht.size0
  have hsU := ht.sizeU
  have s1 := bad_f ht.good.form _ _ X0 ht.mk0 (by omega)
  have s2 := bad_f ht.goodU.form _ _ _ ht.mkU (by omega)
  refine ⟨ka + kd + k1 + k2 + l0.length + r1.length + 2, ?_⟩
  unfold larchlaw18_StepsViolations.f
  rw [up_to (fun k => larchlaw18_awake.mono k) (show ka ≤ _ by omega) hka, Option.bind_some, if_pos rfl, up_to (fun k => larchlaw18_done.mono l0 a1 kind mir k) (show kd ≤ _ by omega) hdn, Option.bind_some]
  simp only
  rw [if_pos (by rfl), up_to (fun k => table_Root.mono l0 k) (show k1 ≤ _ by omega) hk1, Option.bind_some, up_to (fun k => table_Root.mono r1 k) (show k2 ≤ _ by omega) hk2, Option.bind_some]
  simp only
  rw [if_pos trivial, larchlaw18_StepsViolations.j0, if_neg (by decide)]
  rw [up_to (fun k => larchlaw18_bad.mono l0 c0 k) (show l0.length ≤ _ by omega) s1.1, Option.bind_some]
  rw [up_to (fun k => larchlaw18_bad.mono r1 2 k) (show r1.length ≤ _ by omega) s2.1, Option.bind_some]
  have hlb : lessBy kind = if kind = 1 ∨ kind = 4 ∨ kind = 12 then 0 else 1 := rfl
  have hle : bad (renT (newX c R X0) 2) ≤ bad X0 := by have := lessBy_b kind; omega
  have hlt : ¬ (kind = 1 ∨ kind = 4 ∨ kind = 12) → decide (bad (renT (newX c R X0) 2) < bad X0) = true := by
   intro hh
   rw [if_neg hh] at hlb
   exact decide_eq_true (by omega)
  by_cases e2 : kind = 2
  ·rw [if_pos e2, if_pos hle, hlt (by omega)]
  ·rw [if_neg e2]
   by_cases e3 : kind = 3
   ·rw [if_pos e3, if_pos hle, hlt (by omega)]
   ·rw [if_neg e3]
    by_cases e5 : kind ≥ 5
    ·rw [if_pos e5, if_pos hle]
     by_cases e11 : kind ≤ 11
     ·rw [if_pos e11, hlt (by omega)]
     ·rw [if_neg e11]
    ·rw [if_neg e5, if_pos hle]
end Go.Proofs.Ytgleaefhflamnaa.T
