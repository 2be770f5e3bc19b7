/- A part of the proof: see YtaabbaemfnecgaaGreatLawSeqNexts. -/
import Derived.Test.YtaabbaemfnecgaaGreatC9
set_option linter.unusedVariables false
set_option linter.unusedSimpArgs false
set_option maxHeartbeats 32000000
set_option maxRecDepth 100000
namespace Go.Proofs.YtaabbaemfnecgaaGreat.T
open Go.RowKit Go.Proofs.YtaabbaemfnecgaaGreatW.PrintWords Go.Proofs.YtaabbaemfnecgaaGreatW.PrintLast Go.Proofs.YtaabbaemfnecgaaGreatW.PrintMore
def sn34 : S69 := ⟨0, 1, 1, 0, -1, -1⟩
def snB (x : S69) : Bool := x.f0 == 0 && (x.f1 == 1 && (x.f2 == 1 && (x.f3 == 0 && (x.f4 == (-1 : Int) && x.f5 == (-1 : Int)))))
theorem sent_iff (x : S69) : snB x = true ↔ x = sn34 := by
 obtain ⟨a, b, c, d, e, f⟩ := x
 simp only [snB, Bool.and_eq_true, beq_iff_eq, sn34, S69.mk.injEq]
def crP (t : List S69) (n : S69) : Prop := ¬ (n.f4 = -1 ∧ n.f5 = -1) ∧ n.f1 = 1 ∧ n.f2 = 1 ∧ t.getD n.f5.toNat z69 = sn34
theorem crowned_f (t : List S69) (n : S69) (hn : fmN n t.length = true) : ∃ b, table_crowned.f t n.f0 n.f1 n.f2 n.f3 n.f4 n.f5 = some b ∧ (b = true ↔ crP t n) := by
 have hn' := (fmN_iff _ _).1 hn
 unfold table_crowned.f
 rw [leaf_f, Option.bind_some]
 by_cases hl : n.f4 = -1 ∧ n.f5 = -1
 ·exact ⟨false, by rw [if_pos (by simpa using hl)], by simp [crP, hl]⟩
 ·rw [if_neg (by simpa using hl)]
  by_cases h1 : n.f1 = 1
  ·rw [if_pos h1]
   by_cases h2 : n.f2 = 1
   ·rw [if_pos h2, if_pos (by omega), if_pos (by omega)]
    refine ⟨_, rfl, ?_⟩
    exact ⟨fun h => ⟨hl, h1, h2, (sent_iff _).1 h⟩, fun h => (sent_iff _).2 h.2.2.2⟩
   ·exact ⟨false, by rw [if_neg h2], by simp [crP, h2]⟩
  ·exact ⟨false, by rw [if_neg h1], by simp [crP, h1]⟩
def allT (P : S69 → Prop) : Tr → Prop
 | .nil => True
 | .node n _ l r => P n ∧ allT P l ∧ allT P r
theorem allT_mkT {t : List S69} {P : S69 → Prop} : ∀ {k i : Nat} {T : Tr}, mkT t k i = some T → (allT P T ↔ ∀ p ∈ plT T, P (t.getD p.toNat z69)) := by
 intro k
 induction k with
 | zero => intro i T h; simp [mkT] at h
 | succ k ih =>
  intro i T h
  rw [mkT] at h
  split at h
  case isFalse => exact absurd h (by simp)
  rename_i hi
  split at h
  ·rename_i h4
   obtain ⟨l, hl, h⟩ := Option.bind_eq_some_iff.1 h
   obtain ⟨r, hr, h⟩ := Option.bind_eq_some_iff.1 h
   obtain rfl := Option.some.inj h
   rw [allT, ih hl, ih hr, plT]
   constructor
   ·rintro ⟨h1, h2, h3⟩ p hp
    simp only [List.mem_cons, List.mem_append] at hp
    rcases hp with rfl | hp | hp
    ·rwa [Int.toNat_natCast]
    ·exact h2 p hp
    ·exact h3 p hp
   ·intro hh
    exact ⟨by have := hh i List.mem_cons_self; rwa [Int.toNat_natCast] at this, fun p hp => hh p (List.mem_cons_of_mem _ (List.mem_append_left _ hp)), fun p hp => hh p (List.mem_cons_of_mem _ (List.mem_append_right _ hp))⟩
  ·obtain rfl := Option.some.inj h
   simp [allT, plT]
def plc : Tr → Int
 | .nil => -1
 | .node _ p _ _ => p
theorem mkT_plc {t : List S69} {k i : Nat} {T : Tr} (h : mkT t k i = some T) : plc T = i := by
 cases k with
 | zero => simp [mkT] at h
 | succ k =>
  rw [mkT] at h
  split at h
  case isFalse => exact absurd h (by simp)
  split at h
  ·obtain ⟨l, hl, h⟩ := Option.bind_eq_some_iff.1 h
   obtain ⟨r, hr, h⟩ := Option.bind_eq_some_iff.1 h
   obtain rfl := Option.some.inj h
   rfl
  ·obtain rfl := Option.some.inj h
   rfl
def Crown (T X0 : Tr) : Prop := ∃ n0 n1 p1 q1 q0, T = .node n0 0 (.node n1 p1 X0 (.node sn34 q1 .nil .nil)) (.node sn34 q0 .nil .nil) ∧ n0.f1 = 1 ∧ n0.f2 = 1 ∧ n1.f1 = 1 ∧ n1.f2 = 1 ∧ allT (fun n => n.f1 = 0) X0 ∧ X0 ≠ .nil
theorem mkT_inner {t : List S69} (hf : ∀ i, i < t.length → fmN (t.getD i z69) t.length = true) {k i : Nat} {T : Tr} (h : mkT t k i = some T) (hl : ¬ ((t.getD i z69).f4 = -1 ∧ (t.getD i z69).f5 = -1)) :
  ∃ k' l r, k = k' + 1 ∧ i < t.length ∧ mkT t k' (t.getD i z69).f4.toNat = some l ∧ mkT t k' (t.getD i z69).f5.toNat = some r ∧ T = .node (t.getD i z69) i l r := by
 cases k with
 | zero => simp [mkT] at h
 | succ k =>
  rw [mkT] at h
  split at h
  case isFalse => exact absurd h (by simp)
  rename_i hi
  have := (fmN_iff _ _).1 (hf i hi)
  rw [if_pos (by omega)] at h
  obtain ⟨l, hl, h⟩ := Option.bind_eq_some_iff.1 h
  obtain ⟨r, hr, h⟩ := Option.bind_eq_some_iff.1 h
  exact ⟨k, l, r, rfl, hi, hl, hr, (Option.some.inj h).symm⟩
theorem mkT_leaf {t : List S69} (hf : ∀ i, i < t.length → fmN (t.getD i z69) t.length = true) {k i : Nat} {T : Tr} (h : mkT t k i = some T) (hl : (t.getD i z69).f4 = -1 ∧ (t.getD i z69).f5 = -1) : i < t.length ∧ T = .node (t.getD i z69) i .nil .nil := by
 cases k with
 | zero => simp [mkT] at h
 | succ k =>
  rw [mkT] at h
  split at h
  case isFalse => exact absurd h (by simp)
  rename_i hi
  rw [if_neg (by omega)] at h
  exact ⟨hi, (Option.some.inj h).symm⟩
theorem mkT_node {t : List S69} (hf : ∀ i, i < t.length → fmN (t.getD i z69) t.length = true) {k i : Nat} {n : S69} {p : Int} {l r : Tr} (h : mkT t k i = some (.node n p l r)) : i < t.length ∧ n = t.getD i z69 ∧ p = i ∧ (l ≠ .nil → ¬ (n.f4 = -1 ∧ n.f5 = -1) ∧ ∃ k', k = k' + 1 ∧ mkT t k' n.f4.toNat = some l ∧ mkT t k' n.f5.toNat = some r) := by
 by_cases hl : (t.getD i z69).f4 = -1 ∧ (t.getD i z69).f5 = -1
 ·obtain ⟨hi, e⟩ := mkT_leaf hf h hl
  injection e with e1 e2 e3 e4
  exact ⟨hi, e1, e2, fun hn => absurd e3 hn⟩
 ·obtain ⟨k', l', r', hk, hi, h1, h2, e⟩ := mkT_inner hf h hl
  injection e with e1 e2 e3 e4
  subst e1 e3 e4
  exact ⟨hi, rfl, e2, fun _ => ⟨hl, k', hk, h1, h2⟩⟩
theorem crown_cr {t : List S69} {T X0 : Tr} (hg : Good t T) (h : Crown T X0) : crP t (t.getD 0 z69) ∧ t.getD (t.getD 0 z69).f4.toNat z69 ≠ sn34 ∧ crP t (t.getD (t.getD 0 z69).f4.toNat z69) := by
 obtain ⟨n0, n1, p1, q1, q0, rfl, c1, c2, c3, c4, _, hXn⟩ := h
 obtain ⟨h1, h2, _, h3⟩ := mkT_node hg.form hg.tree
 obtain ⟨h4, k1, hk1, h5, h6⟩ := h3 (by simp)
 subst h2
 obtain ⟨_, g2, _, _⟩ := mkT_node hg.form h6
 obtain ⟨e1, e2, _, e3⟩ := mkT_node hg.form h5
 obtain ⟨e4, k2, hk2, e5, e6⟩ := e3 hXn
 subst e2
 obtain ⟨_, d2, _, _⟩ := mkT_node hg.form e6
 exact ⟨⟨h4, c1, c2, g2.symm⟩, fun e => e4 (by rw [e]; exact ⟨rfl, rfl⟩), e4, c3, c4, d2.symm⟩
theorem root_l0 (t : List S69) (v0 v1 v2 v3 v4 v5 : Int) (ps : List Int) (hp : ∀ p ∈ ps, 0 ≤ p ∧ p < t.length) (hlen : ps.length ≤ 1000000) : ∀ (d i k : Nat), i + d = ps.length → d < k → (∀ j, j < i → (t.getD (ps.getD j 0).toNat z69).f1 = 0) →
  ∃ r1 r2, table_Root.l0 k t ps ps.length i v0 v1 v2 v3 v4 v5 = some (r1, r2) ∧ (r2 = 0 → r1 = v4 ∧ ∀ j, j < ps.length → (t.getD (ps.getD j 0).toNat z69).f1 = 0) ∧ ((∀ j, j < ps.length → (t.getD (ps.getD j 0).toNat z69).f1 = 0) → r1 = v4 ∧ r2 = 0) := by
 intro d
 induction d with
 | zero =>
  intro i k hi hk hpre
  cases k with
  | zero => omega
  | succ k =>
   rw [table_Root.l0, if_neg (by omega)]
   exact ⟨v4, 0, rfl, fun _ => ⟨rfl, fun j hj => hpre j (by omega)⟩, fun _ => ⟨rfl, rfl⟩⟩
 | succ d ih =>
  intro i k hi hk hpre
  cases k with
  | zero => omega
  | succ k =>
   have hm : ps.getD i 0 ∈ ps := by rw [List.getD, List.getElem?_eq_getElem (by omega), Option.getD_some]; exact List.getElem_mem _
   have hr := hp _ hm
   rw [table_Root.l0, if_pos (by omega), if_pos (by omega), if_pos (by omega)]
   rw [show rd ps (i : Int) = ps.getD i 0 from rfl, show rd_T69 t (ps.getD i 0) = t.getD (ps.getD i 0).toNat z69 from rfl]
   rw [if_pos hr.1, if_pos hr.2]
   by_cases e : (t.getD (ps.getD i 0).toNat z69).f1 = 0
   ·exact dd60
   ·rw [if_neg e]
    exact ⟨0, 3, rfl, fun h => absurd h (by decide), fun h => absurd (h i (by omega)) e⟩
theorem allmem (t : List S69) (ps : List Int) : (∀ j, j < ps.length → (t.getD (ps.getD j 0).toNat z69).f1 = 0) ↔ ∀ p ∈ ps, (t.getD p.toNat z69).f1 = 0 := by
 constructor
 ·intro h p hp
  obtain ⟨j, hj, rfl⟩ := List.getElem_of_mem hp
  have := h j hj
  rwa [show ps.getD j 0 = ps[j] by rw [List.getD, List.getElem?_eq_getElem hj, Option.getD_some]] at this
 ·intro h j hj
  rw [show ps.getD j 0 = ps[j] by rw [List.getD, List.getElem?_eq_getElem hj, Option.getD_some]]
  exact h _ (List.getElem_mem _)
theorem nodup_app_r {α : Type} {a b : List α} (h : (a ++ b).Nodup) : b.Nodup := (List.nodup_append.1 h).2.1
theorem nodup_app_l {α : Type} {a b : List α} (h : (a ++ b).Nodup) : a.Nodup := (List.nodup_append.1 h).1
theorem root_good {t : List S69} {T : Tr} (hg : Good t T) : ∃ k r1 r2, table_Root.f k t = some (r1, r2) ∧ (r2 = 0 → ∃ X0, Crown T X0 ∧ plc X0 = r1) ∧ (∀ X0, Crown T X0 → r2 = 0 ∧ r1 = plc X0) := by
 have hlen := hg.len
 have hpos := hg.pos
 have htr := hg.tree
 obtain ⟨kc, hc⟩ := check_good hg
 have f0 := hg.form 0 hpos
 obtain ⟨b0, hb0, hb0'⟩ := crowned_f t (t.getD 0 z69) f0
 have hroot : ∀ k, kc ≤ k → table_Root.f k t = if b0 = true then (if 0 ≤ (t.getD 0 z69).f4 then (if (t.getD 0 z69).f4 < t.length then
   (if snB (t.getD (t.getD 0 z69).f4.toNat z69) = true then some (0, 4) else
    ((table_crowned.f t (t.getD (t.getD 0 z69).f4.toNat z69).f0 (t.getD (t.getD 0 z69).f4.toNat z69).f1 (t.getD (t.getD 0 z69).f4.toNat z69).f2 (t.getD (t.getD 0 z69).f4.toNat z69).f3 (t.getD (t.getD 0 z69).f4.toNat z69).f4 (t.getD (t.getD 0 z69).f4.toNat z69).f5).bind fun b1 => if b1 = true then
     ((table_order.f k t (t.getD (t.getD 0 z69).f4.toNat z69).f4).bind fun ps => table_Root.l0 k t ps ps.length 0 (t.getD (t.getD 0 z69).f4.toNat z69).f0 (t.getD (t.getD 0 z69).f4.toNat z69).f1 (t.getD (t.getD 0 z69).f4.toNat z69).f2 (t.getD (t.getD 0 z69).f4.toNat z69).f3 (t.getD (t.getD 0 z69).f4.toNat z69).f4 (t.getD (t.getD 0 z69).f4.toNat z69).f5) else some (0, 3))) else none) else none) else some (0, 3) := by
  intro k hk
  unfold table_Root.f
  rw [up_to (fun k => table_Check.mono t k) hk hc, Option.bind_some, if_pos rfl, if_pos (by omega)]
  rw [show rd_T69 t 0 = t.getD 0 z69 from rfl, show rd_T69 t (t.getD 0 z69).f4 = t.getD (t.getD 0 z69).f4.toNat z69 from rfl]
  rw [hb0, Option.bind_some]
  by_cases hb : b0 = true
  ·rw [if_pos hb, if_pos hb]
   simp only [table_sentinel.f, Option.bind_some]
   rfl
  ·rw [if_neg hb, if_neg hb]
 by_cases hb : b0 = true
 ·have hcr := hb0'.1 hb
  have f0' := (fmN_iff _ _).1 f0
  have hA : ¬ ((t.getD 0 z69).f4 = -1 ∧ (t.getD 0 z69).f5 = -1) := hcr.1
  obtain ⟨k1, l, r, hk1, _, hl, hr, hT⟩ := mkT_inner hg.form htr hcr.1
  have hrl := mkT_leaf hg.form hr (by rw [hcr.2.2.2]; exact ⟨rfl, rfl⟩)
  rw [hcr.2.2.2] at hrl
  have f1 := hg.form (t.getD 0 z69).f4.toNat (by omega)
  obtain ⟨b1, hb1, hb1'⟩ := crowned_f t _ f1
  by_cases hs : t.getD (t.getD 0 z69).f4.toNat z69 = sn34
  ·refine ⟨kc, 0, 4, ?_, fun h => absurd h (by decide), ?_⟩
   ·rw [hroot kc (Nat.le_refl _), if_pos hb, if_pos (by omega), if_pos (by omega), if_pos ((sent_iff _).2 hs)]
   ·rintro X0 ⟨n0, n1, p1, q1, q0, e, _⟩
    have := mkT_leaf hg.form hl (by rw [hs]; exact ⟨rfl, rfl⟩)
    rw [hT, this.2] at e
    injection e with _ _ e _
    injection e with _ _ _ e
    exact absurd e (by simp)
  ·by_cases hb1t : b1 = true
   ·have hcr1 := hb1'.1 hb1t
    have f1' := (fmN_iff _ _).1 f1
    have hB : ¬ ((t.getD (t.getD 0 z69).f4.toNat z69).f4 = -1 ∧ (t.getD (t.getD 0 z69).f4.toNat z69).f5 = -1) := hcr1.1
    obtain ⟨k2, X0, r1, hk2, hi2, hl1, hr1, hT1⟩ := mkT_inner hg.form hl hcr1.1
    have hrl1 := mkT_leaf hg.form hr1 (by rw [hcr1.2.2.2]; exact ⟨rfl, rfl⟩)
    rw [hcr1.2.2.2] at hrl1
    have hn := hg.nodup
    have ha := hg.all
    rw [hT, hT1] at hn ha
    simp only [plT, List.nodup_cons, List.cons_append, List.length_cons, List.length_append] at hn ha
    have hnX : (plT X0).Nodup := by
     have h1 := hn.2
     rw [List.append_assoc] at h1
     exact nodup_app_l h1.2
    have hord : ∀ k, t.length ≤ k → table_order.f k t (t.getD (t.getD 0 z69).f4.toNat z69).f4 = some (plT X0) := fun k hk => order_f_tree hlen (formT_of hg.form) (by omega) hl1 hnX (by omega) k (by omega)
    obtain ⟨q1, q2, hq, hq1, hq2⟩ := root_l0 t (t.getD (t.getD 0 z69).f4.toNat z69).f0 (t.getD (t.getD 0 z69).f4.toNat z69).f1 (t.getD (t.getD 0 z69).f4.toNat z69).f2 (t.getD (t.getD 0 z69).f4.toNat z69).f3 (t.getD (t.getD 0 z69).f4.toNat z69).f4 (t.getD (t.getD 0 z69).f4.toNat z69).f5 (plT X0) (plT_mem _ _ _ hl1).2 (by omega) (plT X0).length 0 (max kc (t.length + 1)) (by omega) (by omega) (fun j hj => absurd hj (by omega))
    have hpX : plc X0 = (t.getD (t.getD 0 z69).f4.toNat z69).f4 := by rw [mkT_plc hl1]; omega
    have hXn : X0 ≠ .nil := by rintro rfl; rw [plc] at hpX; omega
    refine ⟨max kc (t.length + 1), q1, q2, ?_, ?_, ?_⟩
    ·rw [hroot _ (Nat.le_max_left _ _), if_pos hb, if_pos (by omega), if_pos (by omega), if_neg (fun h => hs ((sent_iff _).1 h)), hb1, Option.bind_some, if_pos hb1t, hord _ (by omega), Option.bind_some]
     exact hq
    ·intro h0
     have h1 := hq1 h0
     refine ⟨X0, ⟨t.getD 0 z69, t.getD (t.getD 0 z69).f4.toNat z69, ((t.getD 0 z69).f4.toNat : Nat), ((t.getD (t.getD 0 z69).f4.toNat z69).f5.toNat : Nat), ((t.getD 0 z69).f5.toNat : Nat), ?_, hcr.2.1, hcr.2.2.1, hcr1.2.1, hcr1.2.2.1, ?_, hXn⟩, by rw [h1.1, hpX]⟩
     ·rw [hT, hT1, hrl.2, hrl1.2]; rfl
     ·exact (allT_mkT hl1).2 ((allmem t _).1 h1.2)
    ·rintro Y ⟨n0, n1, p1, q1', q0, e, _, _, _, _, hin, _⟩
     rw [hT, hT1] at e
     injection e with _ _ e _
     injection e with _ _ e _
     subst e
     have h1 := hq2 ((allmem t _).2 ((allT_mkT hl1).1 hin))
     exact ⟨h1.2, by rw [h1.1, hpX]⟩
   ·refine ⟨kc, 0, 3, ?_, fun h => absurd h (by decide), ?_⟩
    ·rw [hroot kc (Nat.le_refl _), if_pos hb, if_pos (by omega), if_pos (by omega), if_neg (fun h => hs ((sent_iff _).1 h)), hb1, Option.bind_some, if_neg hb1t]
    ·intro X0 hX
     exact absurd (hb1'.2 (crown_cr hg hX).2.2) hb1t
 ·refine ⟨kc, 0, 3, ?_, fun h => absurd h (by decide), ?_⟩
  ·rw [hroot kc (Nat.le_refl _), if_neg hb]
  ·intro X0 hX
   exact absurd (hb0'.2 (crown_cr hg hX).1) hb
def Ok : Tr → Prop
 | .nil => False
 | .node n _ l r => (0 ≤ n.f2 ∧ n.f2 ≤ 1000000) ∧ (n.f1 = 0 ∨ (n.f1 = 1 ∧ n.f0 = 0 ∧ n.f3 = 0)) ∧ ((l = .nil ∧ r = .nil ∧ n.f4 = -1 ∧ n.f5 = -1) ∨ (n.f3 = 0 ∧ Ok l ∧ Ok r))
def sums : Tr → Int → List Int
 | .nil, _ => []
 | .node n _ .nil _, a => [a + n.f2]
 | .node n _ (.node m p x y) r, a => sums (.node m p x y) (a + n.f2) ++ sums r (a + n.f2)
theorem ok_ne {T : Tr} (h : Ok T) : T ≠ .nil := by rintro rfl; exact h
theorem ok_mkT {t : List S69} (hf : ∀ i, i < t.length → fmN (t.getD i z69) t.length = true) : ∀ {k i : Nat} {T : Tr}, mkT t k i = some T → Ok T := by
 intro k
 induction k with
 | zero => intro i T h; simp [mkT] at h
 | succ k ih =>
  intro i T h
  by_cases hl : (t.getD i z69).f4 = -1 ∧ (t.getD i z69).f5 = -1
  ·obtain ⟨hi, rfl⟩ := mkT_leaf hf h hl
   have := (fmN_iff _ _).1 (hf i hi)
   exact ⟨this.1, this.2.1, .inl ⟨rfl, rfl, hl⟩⟩
  ·obtain ⟨k', l, r, hk, hi, h1, h2, rfl⟩ := mkT_inner hf h hl
   obtain rfl : k = k' := by omega
   have := (fmN_iff _ _).1 (hf i hi)
   exact ⟨this.1, this.2.1, .inr ⟨by omega, ih h1, ih h2⟩⟩
def renT : Tr → Nat → Tr
 | .nil, _ => .nil
 | .node n _ .nil _, a => .node n a .nil .nil
 | .node n _ (.node n' p' l' r') r, a => .node ⟨n.f0, n.f1, n.f2, n.f3, a + 1, a + 1 + sizeT (.node n' p' l' r')⟩ a (renT (.node n' p' l' r') (a + 1)) (renT r (a + 1 + sizeT (.node n' p' l' r')))
theorem flT_inner (n : S69) (p : Int) {l : Tr} (r : Tr) (a : Nat) (hl : l ≠ .nil) : flatT (.node n p l r) a = ⟨n.f0, n.f1, n.f2, n.f3, a + 1, a + 1 + sizeT l⟩ :: (flatT l (a + 1) ++ flatT r (a + 1 + sizeT l)) := by
 cases l with
 | nil => exact absurd rfl hl
 | node _ _ _ _ => rfl
theorem ren_inner (n : S69) (p : Int) {l : Tr} (r : Tr) (a : Nat) (hl : l ≠ .nil) : renT (.node n p l r) a = .node ⟨n.f0, n.f1, n.f2, n.f3, a + 1, a + 1 + sizeT l⟩ a (renT l (a + 1)) (renT r (a + 1 + sizeT l)) := by
 cases l with
 | nil => exact absurd rfl hl
 | node _ _ _ _ => rfl
theorem flT_leaf (n : S69) (p : Int) (r : Tr) (a : Nat) : flatT (.node n p .nil r) a = [n] := rfl
theorem ren_leaf (n : S69) (p : Int) (r : Tr) (a : Nat) : renT (.node n p .nil r) a = .node n a .nil .nil := rfl
theorem flT_len : ∀ {T : Tr}, Ok T → ∀ a, (flatT T a).length = sizeT T
 | .nil, h, _ => h.elim
 | .node n p l r, h, a => by
  rcases h.2.2 with ⟨rfl, rfl, _⟩ | ⟨_, hl, hr⟩
  ·rfl
  ·rw [flT_inner _ _ _ _ (ok_ne hl), List.length_cons, List.length_append, flT_len hl, flT_len hr, sizeT]; omega
theorem flat_mk : ∀ {T : Tr}, Ok T → ∀ (pre post : List S69) (a K : Nat), pre.length = a → sizeT T ≤ K → mkT (pre ++ flatT T a ++ post) K a = some (renT T a)
 | .nil, h, _, _, _, _, _, _ => h.elim
 | .node n p l r, h, pre, post, a, K, ha, hK => by
  rw [sizeT] at hK
  cases K with
  | zero => omega
  | succ K =>
   rcases h.2.2 with ⟨rfl, rfl, h4, h5⟩ | ⟨_, hl, hr⟩
   ·rw [flT_leaf, ren_leaf]
    have hg : (pre ++ [n] ++ post).getD a z69 = n := by simp [List.getD, ← ha]
    rw [mkT, if_pos (by simp; omega), hg, if_neg (by omega)]
   ·have hll := flT_len hl (a + 1)
    have i1 := flat_mk hl (pre ++ [⟨n.f0, n.f1, n.f2, n.f3, a + 1, a + 1 + sizeT l⟩]) (flatT r (a + 1 + sizeT l) ++ post) (a + 1) K (by simp [ha]) (by omega)
    have i2 := flat_mk hr (pre ++ ⟨n.f0, n.f1, n.f2, n.f3, a + 1, a + 1 + sizeT l⟩ :: flatT l (a + 1)) post (a + 1 + sizeT l) K (by simp [ha, hll]; omega) (by omega)
    rw [flT_inner _ _ _ _ (ok_ne hl), ren_inner _ _ _ _ (ok_ne hl)]
    have e1 : pre ++ (⟨n.f0, n.f1, n.f2, n.f3, a + 1, a + 1 + sizeT l⟩ :: (flatT l (a + 1) ++ flatT r (a + 1 + sizeT l))) ++ post = pre ++ [⟨n.f0, n.f1, n.f2, n.f3, a + 1, a + 1 + sizeT l⟩] ++ flatT l (a + 1) ++ (flatT r (a + 1 + sizeT l) ++ post) := by simp
    have e2 : pre ++ (⟨n.f0, n.f1, n.f2, n.f3, a + 1, a + 1 + sizeT l⟩ :: (flatT l (a + 1) ++ flatT r (a + 1 + sizeT l))) ++ post = pre ++ ⟨n.f0, n.f1, n.f2, n.f3, a + 1, a + 1 + sizeT l⟩ :: flatT l (a + 1) ++ flatT r (a + 1 + sizeT l) ++ post := by simp
    have hg : (pre ++ (⟨n.f0, n.f1, n.f2, n.f3, a + 1, a + 1 + sizeT l⟩ :: (flatT l (a + 1) ++ flatT r (a + 1 + sizeT l))) ++ post).getD a z69 = ⟨n.f0, n.f1, n.f2, n.f3, a + 1, a + 1 + sizeT l⟩ := by simp [List.getD, ← ha]
    rw [← e1] at i1
    rw [← e2] at i2
    rw [mkT, if_pos (by simp; omega), hg]
    simp only
    rw [if_pos (by omega), show ((a : Int) + 1).toNat = a + 1 by omega, i1, Option.bind_some, show ((a : Int) + 1 + sizeT l).toNat = a + 1 + sizeT l by omega, i2, Option.bind_some]
theorem size_pos {T : Tr} (h : Ok T) : 0 < sizeT T := by
 cases T with
 | nil => exact h.elim
 | node _ _ _ _ => rw [sizeT]; omega
theorem flat_fm : ∀ {T : Tr}, Ok T → ∀ (a N : Nat), a + sizeT T ≤ N → ∀ x ∈ flatT T a, fmN x N = true
 | .nil, h, _, _, _, _, _ => h.elim
 | .node n p l r, h, a, N, hN, x, hx => by
  rw [sizeT] at hN
  rcases h.2.2 with ⟨rfl, rfl, h4, h5⟩ | ⟨h3, hl, hr⟩
  ·rw [flT_leaf, List.mem_singleton] at hx
   subst hx
   exact (fmN_iff _ _).2 ⟨h.1, h.2.1, .inl ⟨h4, h5⟩⟩
  ·rw [flT_inner _ _ _ _ (ok_ne hl), List.mem_cons, List.mem_append] at hx
   rcases hx with rfl | hx | hx
   ·have h1 := size_pos hl
    have h2 := size_pos hr
    have hw := h.1
    have hi := h.2.1
    refine (fmN_iff _ _).2 ⟨hw, hi, .inr ?_⟩
    simp only
    omega
   ·exact flat_fm hl (a + 1) N (by omega) x hx
   ·exact flat_fm hr (a + 1 + sizeT l) N (by omega) x hx
theorem ren_pl : ∀ {T : Tr}, Ok T → ∀ a, plT (renT T a) = (List.range' a (sizeT T)).map (fun (i : Nat) => (i : Int))
 | .nil, h, _ => h.elim
 | .node n p l r, h, a => by
  rcases h.2.2 with ⟨rfl, rfl, h4, h5⟩ | ⟨h3, hl, hr⟩
  ·rfl
  ·rw [ren_inner _ _ _ _ (ok_ne hl), plT, ren_pl hl, ren_pl hr, sizeT, show 1 + sizeT l + sizeT r = (sizeT l + sizeT r) + 1 by omega, List.range'_succ, List.map_cons, ← List.map_append, List.range'_append_1]
theorem flat_good {T : Tr} (h : Ok T) (hs : sizeT T ≤ 100000) : Good (flatT T 0) (renT T 0) := by
 have hl := flT_len h 0
 have hm := flat_mk h [] [] 0 (sizeT T) rfl (Nat.le_refl _)
 rw [List.nil_append, List.append_nil] at hm
 refine ⟨by omega, fun i hi => ?_, by rw [hl]; exact hm, ?_, ?_⟩
 ·have hmem : (flatT T 0).getD i z69 ∈ flatT T 0 := by rw [List.getD, List.getElem?_eq_getElem hi, Option.getD_some]; exact List.getElem_mem hi
  exact flat_fm h 0 _ (by omega) _ hmem
 ·rw [ren_pl h]
  refine List.Pairwise.map _ (fun (a b : Nat) hab => ?_) (List.nodup_range' (s := 0) (n := sizeT T) (step := 1) (by decide))
  exact fun e => hab (Int.ofNat.inj e)
 ·rw [ren_pl h, List.length_map, List.length_range', hl]
theorem crown_tree {t : List S69} {T X0 : Tr} (hg : Good t T) (h : Crown T X0) : ∃ c0 : Nat, plc X0 = c0 ∧ c0 < t.length ∧ mkT t t.length c0 = some X0 ∧ (plT X0).Nodup ∧ (plT X0).length ≤ t.length := by
 have hn := hg.nodup
 have ha := hg.all
 obtain ⟨n0, n1, p1, q1, q0, rfl, _, _, _, _, _, hXn⟩ := h
 obtain ⟨_, _, _, h3⟩ := mkT_node hg.form hg.tree
 obtain ⟨_, k1, hk1, h5, _⟩ := h3 (by simp)
 obtain ⟨_, _, _, e3⟩ := mkT_node hg.form h5
 obtain ⟨_, k2, hk2, e5, _⟩ := e3 hXn
 simp only [plT, List.cons_append, List.nodup_cons, List.length_cons, List.length_append] at hn ha
 refine ⟨n1.f4.toNat, mkT_plc e5, ?_, mkT_le t (by omega) e5, ?_, by omega⟩
 ·have := (plT_mem _ _ _ e5).2 _ (plT_mem _ _ _ e5).1
  omega
 ·have h1 := hn.2.2
  rw [List.append_assoc] at h1
  exact nodup_app_l h1
theorem size_pl : ∀ T, sizeT T = (plT T).length
 | .nil => rfl
 | .node _ _ l r => by rw [sizeT, plT, List.length_cons, List.length_append, size_pl l, size_pl r]; omega
theorem ren_ne {T : Tr} (a : Nat) (h : T ≠ .nil) : renT T a ≠ .nil := by
 cases T with
 | nil => exact absurd rfl h
 | node n p l r => cases l <;> simp [renT]
def conv (t : List S69) (num : List Int) (p : Int) : S69 :=
 let n := t.getD p.toNat z69
 if n.f4 = -1 ∧ n.f5 = -1 then n else ⟨n.f0, n.f1, n.f2, n.f3, rd num n.f4, rd num n.f5⟩
theorem plT_head {t : List S69} {k i : Nat} {T : Tr} (h : mkT t k i = some T) : ∃ q, plT T = (i : Int) :: q := by
 have e := mkT_plc h
 cases T with
 | nil => exact absurd h (fun h => mkT_nil h)
 | node n p l r => exact ⟨_, by rw [plT]; rw [plc] at e; rw [e]⟩
theorem conv_flat {t : List S69} (hf : ∀ i, i < t.length → fmN (t.getD i z69) t.length = true) (num : List Int) : ∀ (k i : Nat) (T : Tr) (a : Nat), mkT t k i = some T → (∀ j, j < (plT T).length → rd num ((plT T).getD j 0) = ((a + j : Nat) : Int)) → (plT T).map (conv t num) = flatT T a := by
 intro k
 induction k with
 | zero => intro i T a h; simp [mkT] at h
 | succ k ih =>
  intro i T a h hnum
  by_cases hl : (t.getD i z69).f4 = -1 ∧ (t.getD i z69).f5 = -1
  ·obtain ⟨hi, rfl⟩ := mkT_leaf hf h hl
   rw [flT_leaf]
   simp only [plT, List.append_nil, List.map_cons, List.map_nil, conv, Int.toNat_natCast]
   rw [if_pos hl]
  ·obtain ⟨k', l, r, hk, hi, h1, h2, rfl⟩ := mkT_inner hf h hl
   obtain rfl : k = k' := by omega
   have hfm := (fmN_iff _ _).1 (hf i hi)
   have hln : l ≠ .nil := fun e => mkT_nil (e ▸ h1)
   obtain ⟨ql, el⟩ := plT_head h1
   obtain ⟨qr, er⟩ := plT_head h2
   have hsl : sizeT l = (plT l).length := size_pl l
   simp only [plT, List.length_cons, List.length_append] at hnum
   have n4 : rd num (t.getD i z69).f4 = ((a + 1 : Nat) : Int) := by
    have := hnum 1 (by rw [el]; simp only [List.length_cons]; omega)
    rw [List.getD_cons_succ, el, List.cons_append, List.getD_cons_zero] at this
    rw [show (t.getD i z69).f4 = (((t.getD i z69).f4.toNat : Nat) : Int) by omega]
    exact this
   have n5 : rd num (t.getD i z69).f5 = ((a + 1 + sizeT l : Nat) : Int) := by
    have := hnum (1 + (plT l).length) (by rw [er]; simp only [List.length_cons]; omega)
    rw [Nat.add_comm 1, List.getD_cons_succ, List.getD, List.getElem?_append_right (Nat.le_refl _), Nat.sub_self, er] at this
    rw [show (t.getD i z69).f5 = (((t.getD i z69).f5.toNat : Nat) : Int) by omega]
    rw [hsl, show a + 1 + (plT l).length = a + ((plT l).length + 1) by omega]
    exact this
   have il := ih _ l (a + 1) h1 (fun j hj => by
    have := hnum (j + 1) (by omega)
    rw [List.getD_cons_succ, List.getD, List.getElem?_append_left hj] at this
    rw [show a + 1 + j = a + (j + 1) by omega]
    exact this)
   have ir := ih _ r (a + 1 + sizeT l) h2 (fun j hj => by
    have := hnum ((plT l).length + j + 1) (by omega)
    rw [List.getD_cons_succ, List.getD, List.getElem?_append_right (by omega), Nat.add_sub_cancel_left] at this
    rw [hsl, show a + 1 + (plT l).length + j = a + ((plT l).length + j + 1) by omega]
    exact this)
   rw [flT_inner _ _ _ _ hln, plT, List.map_cons, List.map_append, il, ir, conv, Int.toNat_natCast, if_neg hl, n4, n5]
   rfl
def mirT : Tr → Tr
 | .nil => .nil
 | .node n p l r => .node n p (mirT r) (mirT l)
theorem ok_inner {n : S69} {p : Int} {l r : Tr} (h : Ok (.node n p l r)) (hl : l ≠ .nil) : Ok l ∧ Ok r := by
 rcases h.2.2 with ⟨h1, _⟩ | ⟨_, h1, h2⟩
 ·exact absurd h1 hl
 ·exact ⟨h1, h2⟩
def ordT : Tr → S140 → Bool → Bool
 | .nil, _, _ => true
 | .node n _ .nil _, b, s => !outB n b s
 | .node n _ (.node a p x y) r, b, s => ordT (.node a p x y) (lB n b) s && ordT r (rB n b) (s || n.f1 == 1)
theorem ordT_inner (n : S69) (p : Int) {l : Tr} (r : Tr) (b : S140) (s : Bool) (hl : l ≠ .nil) : ordT (.node n p l r) b s = (ordT l (lB n b) s && ordT r (rB n b) (s || n.f1 == 1)) := by
 cases l with
 | nil => exact absurd rfl hl
 | node _ _ _ _ => rfl
theorem gD_ne {α : Type} (l : List α) (i j : Nat) (x d : α) (h : i ≠ j) : (l.set i x).getD j d = l.getD j d := by
 simp only [List.getD, List.getElem?_set_ne h]
theorem gD_eq {α : Type} (l : List α) (i : Nat) (x d : α) (h : i < l.length) : (l.set i x).getD i d = x := by
 simp only [List.getD, List.getElem?_set_self h, Option.getD_some]
theorem ordL_tree {t : List S69} (hf : ∀ i, i < t.length → fmN (t.getD i z69) t.length = true) : ∀ (k i : Nat) (T : Tr), mkT t k i = some T → (plT T).Nodup → ∀ (ps : List Int) (A : List S140) (B : List Bool), A.length = t.length → B.length = t.length →
  ∃ A' B', A'.length = t.length ∧ B'.length = t.length ∧ (∀ q : Nat, (q : Int) ∉ plT T → A'.getD q z140 = A.getD q z140 ∧ B'.getD q false = B.getD q false) ∧
   ordL t (plT T ++ ps) A B = (ordT T (A.getD i z140) (B.getD i false) && ordL t ps A' B') := by
 intro k
 induction k with
 | zero => intro i T h; simp [mkT] at h
 | succ k ih =>
  intro i T h hn ps A B hA hB
  by_cases hl : (t.getD i z69).f4 = -1 ∧ (t.getD i z69).f5 = -1
  ·obtain ⟨hi, rfl⟩ := mkT_leaf hf h hl
   refine ⟨A, B, hA, hB, fun _ _ => ⟨rfl, rfl⟩, ?_⟩
   simp only [plT, List.append_nil, List.cons_append, List.nil_append]
   rw [ordL, Int.toNat_natCast, if_pos hl, ordT]
   cases outB (t.getD i z69) (A.getD i z140) (B.getD i false) <;> simp
  ·obtain ⟨k', l, r, hk, hi, h1, h2, rfl⟩ := mkT_inner hf h hl
   obtain rfl : k = k' := by omega
   have hfm := (fmN_iff _ _).1 (hf i hi)
   have hln : l ≠ .nil := fun e => mkT_nil (e ▸ h1)
   have p1 := mkT_plc h1
   have p2 := mkT_plc h2
   have m1 := (plT_mem _ _ _ h1).1
   have m2 := (plT_mem _ _ _ h2).1
   simp only [plT, List.nodup_cons, List.mem_append, not_or] at hn
   have hd := (List.nodup_append.1 hn.2).2.2
   obtain ⟨x, hx⟩ : ∃ x : Nat, (t.getD i z69).f4 = x := ⟨(t.getD i z69).f4.toNat, by omega⟩
   obtain ⟨y, hy⟩ : ∃ y : Nat, (t.getD i z69).f5 = y := ⟨(t.getD i z69).f5.toNat, by omega⟩
   rw [hx, Int.toNat_natCast] at h1 m1
   rw [hy, Int.toNat_natCast] at h2 m2
   have hxy : x ≠ y := fun e => hd _ m1 _ (e ▸ m2) rfl
   have hyl : (y : Int) ∉ plT l := fun e => hd _ e _ m2 rfl
   generalize hN : t.getD i z69 = n at *
   generalize hb : A.getD i z140 = b
   generalize hs : B.getD i false = s
   obtain ⟨A1, B1, a1, b1, c1, e1⟩ := ih x l h1 (nodup_app_l hn.2) (plT r ++ ps) ((A.set x (lB n b)).set y (rB n b)) ((B.set x s).set y (s || n.f1 == 1)) (by rw [List.length_set, List.length_set, hA]) (by rw [List.length_set, List.length_set, hB])
   obtain ⟨A2, B2, a2, b2, c2, e2⟩ := ih y r h2 (nodup_app_r hn.2) ps A1 B1 a1 b1
   refine ⟨A2, B2, a2, b2, fun q hq => ?_, ?_⟩
   ·simp only [plT, List.mem_cons, List.mem_append, not_or] at hq
    have hqx : x ≠ q := fun e => hq.2.1 (e ▸ m1)
    have hqy : y ≠ q := fun e => hq.2.2 (e ▸ m2)
    rw [(c2 q hq.2.2).1, (c2 q hq.2.2).2, (c1 q hq.2.1).1, (c1 q hq.2.1).2, gD_ne _ _ _ _ _ hqy, gD_ne _ _ _ _ _ hqx, gD_ne _ _ _ _ _ hqy, gD_ne _ _ _ _ _ hqx]
    exact ⟨rfl, rfl⟩
   ·rw [plT, List.cons_append, List.append_assoc, ordL, Int.toNat_natCast, hN, if_neg hl, hx, hy, Int.toNat_natCast, Int.toNat_natCast, hb, hs, e1, e2, ordT_inner _ _ _ _ _ hln, (c1 y hyl).1, (c1 y hyl).2, gD_ne _ _ _ _ _ (Ne.symm hxy), gD_eq _ _ _ _ (by omega), gD_ne _ _ _ _ _ (Ne.symm hxy), gD_eq _ _ _ _ (by omega), gD_eq _ _ _ _ (by rw [List.length_set]; omega), gD_eq _ _ _ _ (by rw [List.length_set]; omega), Bool.and_assoc]
theorem ordL_good {t : List S69} {T : Tr} (hg : Good t T) : ordL t (plT T) (List.replicate t.length z140) (List.replicate t.length false) = ordT T z140 false := by
 obtain ⟨A', B', _, _, _, e⟩ := ordL_tree hg.form _ _ T hg.tree hg.nodup [] (List.replicate t.length z140) (List.replicate t.length false) List.length_replicate List.length_replicate
 have r1 : (List.replicate t.length z140).getD 0 z140 = z140 := by simp [List.getD, List.getElem?_replicate, hg.pos]
 have r2 : (List.replicate t.length false).getD 0 false = false := by simp [List.getD, List.getElem?_replicate, hg.pos]
 rw [List.append_nil, ordL, Bool.and_true, r1, r2] at e
 exact e
theorem refnode_f (n : S69) (len k : Nat) : larchref16_node.f (k + 2) n.f0 n.f1 n.f2 n.f3 n.f4 n.f5 len = some (fmN n len) := by
 have e : ∀ b : Bool, (b = true ↔ (0 ≤ n.f2 ∧ n.f2 ≤ 1000000) ∧ (n.f1 = 0 ∨ (n.f1 = 1 ∧ n.f0 = 0 ∧ n.f3 = 0)) ∧ ((n.f4 = -1 ∧ n.f5 = -1) ∨ (n.f3 = 0 ∧ 1 ≤ n.f4 ∧ n.f4 < len ∧ 1 ≤ n.f5 ∧ n.f5 < len ∧ n.f4 ≠ n.f5))) → some b = some (fmN n len) := fun b h => by
  congr 1
  rw [Bool.eq_iff_iff, fmN_iff]
  exact h
 unfold larchref16_node.f
 simp only [larchref16_node.j0, larchref16_node.j1]
 generalize n.f0 = a at *
 generalize n.f1 = b at *
 generalize n.f2 = c at *
 generalize n.f3 = d at *
 generalize n.f4 = x at *
 generalize n.f5 = y at *
 simp only [Bool.false_eq_true, if_false, if_true, beq_iff_eq]
 clear k
 by_cases h1 : x = -1 <;> by_cases h2 : y = -1 <;> simp only [h1, h2, if_true, if_false]
 all_goals
  repeat' split
  all_goals
   refine e _ ?_
   clear e
   simp only [beq_iff_eq, decide_eq_true_eq, Bool.false_eq_true, false_iff, iff_true, true_iff]
   omega
def chB (n : S69) (c : Nat) : Nat := if n.f4 = -1 then 0 else (if n.f4.toNat = c then 1 else 0) + (if n.f5.toNat = c then 1 else 0)
def cnt (t : List S69) : Nat → Nat → Nat
 | 0, _ => 0
 | m + 1, c => cnt t m c + chB (t.getD m z69) c
theorem chB_le (n : S69) (c : Nat) : chB n c ≤ 2 := by unfold chB; split <;> (try split) <;> (try split) <;> omega
theorem cnt_le (t : List S69) (c : Nat) : ∀ m, cnt t m c ≤ 2 * m
 | 0 => Nat.le_refl _
 | m + 1 => by have := cnt_le t c m; have := chB_le (t.getD m z69) c; rw [cnt]; omega
abbrev Fm (t : List S69) : Prop := ∀ i, i < t.length → fmN (t.getD i z69) t.length = true
theorem cnt_one {t : List S69} {c m : Nat} : ∀ {n : Nat}, m < n → chB (t.getD m z69) c ≤ cnt t n c
 | n + 1, h => by
  rw [cnt]
  by_cases e : m = n
  ·subst e; omega
  ·have := cnt_one (t := t) (c := c) (m := m) (n := n) (by omega); omega
theorem cnt_two {t : List S69} {c m m' : Nat} : ∀ {n : Nat}, m < n → m' < n → m ≠ m' → chB (t.getD m z69) c + chB (t.getD m' z69) c ≤ cnt t n c
 | n + 1, h, h', hne => by
  rw [cnt]
  by_cases e : m = n
  ·subst e; have := cnt_one (t := t) (c := c) (m := m') (n := m) (by omega); omega
  ·by_cases e' : m' = n
   ·subst e'; have := cnt_one (t := t) (c := c) (m := m) (n := m') (by omega); omega
   ·have := cnt_two (t := t) (c := c) (m := m) (m' := m') (n := n) (by omega) (by omega) hne; omega
theorem chB_child {t : List S69} {m c : Nat} (h : childOf t m c) : 1 ≤ chB (t.getD m z69) c := by
 unfold chB
 obtain ⟨h1, h2⟩ := h
 rw [if_neg (by omega)]
 rcases h2 with h2 | h2
 ·rw [if_pos h2]; omega
 ·rw [if_pos h2]; omega
abbrev Uq (t : List S69) : Prop := ∀ c, 1 ≤ c → c < t.length → cnt t t.length c = 1
theorem child_rng {t : List S69} (hf : Fm t) {m c : Nat} (hm : m < t.length) (h : childOf t m c) : 1 ≤ c ∧ c < t.length := by
 have := (fmN_iff _ _).1 (hf m hm)
 obtain ⟨h1, h2⟩ := h
 omega
theorem child_one {t : List S69} (hf : Fm t) (hu : Uq t) {m m' c : Nat} (hm : m < t.length) (hm' : m' < t.length) (h : childOf t m c) (h' : childOf t m' c) : m = m' := by
 refine Decidable.byContradiction fun hne => ?_
 have hr := child_rng hf hm h
 have h1 := chB_child h
 have h2 := chB_child h'
 have h3 := cnt_two (t := t) (c := c) hm hm' hne
 have h4 := hu c hr.1 hr.2
 omega
def Up (t : List S69) : Nat → Nat → Nat → Prop
 | 0, p, q => p = q
 | d + 1, p, q => ∃ m, m < t.length ∧ childOf t m p ∧ Up t d m q
theorem up_split {t : List S69} (hf : Fm t) (hu : Uq t) : ∀ {d e p a b : Nat}, Up t d p a → Up t (d + e) p b → Up t e a b
 | 0, e, p, a, b, h, h' => by obtain rfl := h; rwa [Nat.zero_add] at h'
 | d + 1, e, p, a, b, ⟨m, hm, hc, h⟩, h' => by
  rw [Nat.add_right_comm] at h'
  obtain ⟨m', hm', hc', h'⟩ := h'
  obtain rfl := child_one hf hu hm hm' hc hc'
  exact up_split hf hu h h'
theorem up_trans {t : List S69} : ∀ {d e p a b : Nat}, Up t d p a → Up t e a b → Up t (d + e) p b
 | 0, e, p, a, b, h, h' => by obtain rfl := h; rwa [Nat.zero_add]
 | d + 1, e, p, a, b, ⟨m, hm, hc, h⟩, h' => by rw [Nat.add_right_comm]; exact ⟨m, hm, hc, up_trans h h'⟩
theorem no_cycle {t : List S69} (hf : Fm t) (hu : Uq t) {i c : Nat} (hc : Up t (c + 1) i i) : ∀ n e : Nat, e ≤ n → Up t e i 0 → False := by
 intro n
 induction n with
 | zero =>
  intro e he h
  obtain rfl : e = 0 := by omega
  obtain rfl := h
  obtain ⟨m, hm, hch, _⟩ := hc
  have := child_rng hf hm hch
  omega
 | succ n ih =>
  intro e he h
  by_cases hle : c + 1 ≤ e
  ·obtain ⟨x, rfl⟩ : ∃ x, e = (c + 1) + x := ⟨e - (c + 1), by omega⟩
   exact ih x (by omega) (up_split hf hu hc h)
  ·obtain ⟨x, hx⟩ : ∃ x, c + 1 = e + (x + 1) := ⟨c - e, by omega⟩
   rw [hx] at hc
   obtain ⟨m, hm, hch, _⟩ := up_split hf hu h hc
   have := child_rng hf hm hch
   omega
theorem up_list {t : List S69} (hf : Fm t) (hu : Uq t) : ∀ (d i : Nat), i < t.length → Up t d i 0 → ∃ L : List Nat, L.length = d + 1 ∧ L.Nodup ∧ (∀ x ∈ L, x < t.length) ∧ ∀ x ∈ L, ∃ c, Up t c i x
 | 0, i, hi, h => ⟨[i], rfl, by simp, by simpa using hi, fun x hx => ⟨0, by simp at hx; exact hx.symm⟩⟩
 | d + 1, i, hi, h => by
  have h0 := h
  obtain ⟨m, hm, hc, h⟩ := h
  obtain ⟨L, h1, h2, h3, h4⟩ := up_list hf hu d m hm h
  refine ⟨i :: L, by simp [h1], List.nodup_cons.2 ⟨fun hin => ?_, h2⟩, fun x hx => ?_, fun x hx => ?_⟩
  ·obtain ⟨c, hc'⟩ := h4 i hin
   exact no_cycle hf hu (c := c) ⟨m, hm, hc, hc'⟩ (d + 1) (d + 1) (Nat.le_refl _) h0
  ·rcases List.mem_cons.1 hx with rfl | hx
   ·exact hi
   ·exact h3 x hx
  ·rcases List.mem_cons.1 hx with rfl | hx
   ·exact ⟨0, rfl⟩
   ·obtain ⟨c, hc'⟩ := h4 x hx
    exact ⟨c + 1, m, hm, hc, hc'⟩
theorem up_lt {t : List S69} (hf : Fm t) (hu : Uq t) {d i : Nat} (hi : i < t.length) (h : Up t d i 0) : d < t.length := by
 obtain ⟨L, h1, h2, h3, _⟩ := up_list hf hu d i hi h
 have := List.Nodup.length_le_of_subset h2 (l₂ := List.range t.length) (fun x hx => List.mem_range.2 (h3 x hx))
 rw [List.length_range] at this
 omega
theorem mk_total {t : List S69} (hf : Fm t) (hu : Uq t) : ∀ (k i d : Nat), i < t.length → Up t d i 0 → d + k = t.length → ∃ T, mkT t k i = some T := by
 intro k
 induction k with
 | zero => intro i d hi h hd; have := up_lt hf hu hi h; omega
 | succ k ih =>
  intro i d hi h hd
  have hfm := (fmN_iff _ _).1 (hf i hi)
  rw [mkT, if_pos hi]
  by_cases h4 : 0 ≤ (t.getD i z69).f4
  ·rw [if_pos h4]
   obtain ⟨l, hl⟩ := ih (t.getD i z69).f4.toNat (d + 1) (by omega) ⟨i, hi, ⟨h4, .inl rfl⟩, h⟩ (by omega)
   obtain ⟨r, hr⟩ := ih (t.getD i z69).f5.toNat (d + 1) (by omega) ⟨i, hi, ⟨h4, .inr rfl⟩, h⟩ (by omega)
   exact ⟨_, by rw [hl, Option.bind_some, hr, Option.bind_some]⟩
  ·exact ⟨_, if_neg h4⟩
theorem mem_up {t : List S69} (hf : Fm t) : ∀ (k i : Nat) (T : Tr), mkT t k i = some T → ∀ p : Nat, (p : Int) ∈ plT T → ∃ d, Up t d p i := by
 intro k
 induction k with
 | zero => intro i T h; simp [mkT] at h
 | succ k ih =>
  intro i T h p hp
  by_cases hl : (t.getD i z69).f4 = -1 ∧ (t.getD i z69).f5 = -1
  ·obtain ⟨hi, rfl⟩ := mkT_leaf hf h hl
   simp only [plT, List.append_nil, List.mem_singleton] at hp
   exact ⟨0, (by omega : p = i)⟩
  ·obtain ⟨k', l, r, hk, hi, h1, h2, rfl⟩ := mkT_inner hf h hl
   obtain rfl : k = k' := by omega
   have hfm := (fmN_iff _ _).1 (hf i hi)
   simp only [plT, List.mem_cons, List.mem_append] at hp
   rcases hp with hp | hp | hp
   ·exact ⟨0, (by omega : p = i)⟩
   ·obtain ⟨d, hd⟩ := ih _ l h1 p hp
    exact ⟨d + 1, up_trans hd (show Up t 1 _ i from ⟨i, hi, ⟨by omega, .inl rfl⟩, rfl⟩)⟩
   ·obtain ⟨d, hd⟩ := ih _ r h2 p hp
    exact ⟨d + 1, up_trans hd (show Up t 1 _ i from ⟨i, hi, ⟨by omega, .inr rfl⟩, rfl⟩)⟩
theorem up_two {t : List S69} (hf : Fm t) (hu : Uq t) {i a b d1 d2 p e : Nat} (hi : i < t.length) (ha : childOf t i a) (hb : childOf t i b) (hab : a ≠ b) (h1 : Up t d1 p a) (h2 : Up t d2 p b) (he : Up t e i 0) (hle : d1 ≤ d2) : False := by
 obtain ⟨x, rfl⟩ : ∃ x, d2 = d1 + x := ⟨d2 - d1, by omega⟩
 have h := up_split hf hu h1 h2
 cases x with
 | zero => exact hab h
 | succ x =>
  obtain ⟨m, hm, hc, h⟩ := h
  obtain rfl := child_one hf hu hm hi hc ha
  exact no_cycle hf hu (up_trans h (show Up t 1 b m from ⟨m, hi, hb, rfl⟩)) e e (Nat.le_refl _) he
theorem mk_nodup {t : List S69} (hf : Fm t) (hu : Uq t) : ∀ (k i : Nat) (T : Tr), mkT t k i = some T → (∃ e, Up t e i 0) → (plT T).Nodup := by
 intro k
 induction k with
 | zero => intro i T h; simp [mkT] at h
 | succ k ih =>
  intro i T h ⟨e, he⟩
  by_cases hl : (t.getD i z69).f4 = -1 ∧ (t.getD i z69).f5 = -1
  ·obtain ⟨hi, rfl⟩ := mkT_leaf hf h hl
   simp [plT]
  ·obtain ⟨k', l, r, hk, hi, h1, h2, rfl⟩ := mkT_inner hf h hl
   obtain rfl : k = k' := by omega
   have hfm := (fmN_iff _ _).1 (hf i hi)
   have ca : childOf t i (t.getD i z69).f4.toNat := ⟨by omega, .inl rfl⟩
   have cb : childOf t i (t.getD i z69).f5.toNat := ⟨by omega, .inr rfl⟩
   have no : ∀ {j : Nat} {S : Tr}, mkT t k j = some S → childOf t i j → (i : Int) ∉ plT S := fun {j S} hS hc hin => by
    obtain ⟨d, hd⟩ := mem_up hf _ _ _ hS i hin
    exact no_cycle hf hu (up_trans hd (show Up t 1 j i from ⟨i, hi, hc, rfl⟩)) e e (Nat.le_refl _) he
   rw [plT, List.nodup_cons, List.mem_append, not_or, List.nodup_append]
   refine ⟨⟨no h1 ca, no h2 cb⟩, ih _ l h1 ⟨e + 1, i, hi, ca, he⟩, ih _ r h2 ⟨e + 1, i, hi, cb, he⟩, fun p hp q hq hpq => ?_⟩
   subst hpq
   have h0 := (plT_mem _ _ _ h1).2 p hp
   obtain ⟨x, rfl⟩ : ∃ x : Nat, p = x := ⟨p.toNat, by omega⟩
   obtain ⟨d1, u1⟩ := mem_up hf _ _ _ h1 x hp
   obtain ⟨d2, u2⟩ := mem_up hf _ _ _ h2 x hq
   rcases Nat.le_total d1 d2 with hle | hle
   ·exact up_two hf hu hi ca cb (by omega) u1 u2 he hle
   ·exact up_two hf hu hi cb ca (by omega) u2 u1 he hle
def sumF (t : List S69) (c : Nat) : List Int → Nat
 | [] => 0
 | p :: ps => chB (t.getD p.toNat z69) c + sumF t c ps
theorem sumF_app (t : List S69) (c : Nat) : ∀ a b, sumF t c (a ++ b) = sumF t c a + sumF t c b
 | [], b => by simp [sumF]
 | p :: a, b => by rw [List.cons_append, sumF, sumF, sumF_app t c a b, Nat.add_assoc]
theorem sumF_perm {t : List S69} {c : Nat} {a b : List Int} (h : a.Perm b) : sumF t c a = sumF t c b := by
 induction h with
 | nil => rfl
 | cons x _ ih => rw [sumF, sumF, ih]
 | swap x y l => simp only [sumF]; omega
 | trans _ _ h1 h2 => rw [h1, h2]
theorem sumF_range (t : List S69) (c : Nat) : ∀ m, sumF t c ((List.range m).map (fun (i : Nat) => (i : Int))) = cnt t m c
 | 0 => rfl
 | m + 1 => by rw [List.range_succ, List.map_append, sumF_app, sumF_range t c m, cnt]; simp [sumF]
theorem tree_cnt {t : List S69} (hf : Fm t) (c : Nat) : ∀ (k i : Nat) (T : Tr), mkT t k i = some T → sumF t c (plT T) + (if i = c then 1 else 0) = (plT T).count (c : Int) := by
 intro k
 induction k with
 | zero => intro i T h; simp [mkT] at h
 | succ k ih =>
  intro i T h
  by_cases hl : (t.getD i z69).f4 = -1 ∧ (t.getD i z69).f5 = -1
  ·obtain ⟨hi, rfl⟩ := mkT_leaf hf h hl
   simp only [plT, List.append_nil, sumF, Int.toNat_natCast, chB, if_pos hl.1, List.count_cons, List.count_nil]
   by_cases e : i = c
   ·simp [e]
   ·simp [e]; omega
  ·obtain ⟨k', l, r, hk, hi, h1, h2, rfl⟩ := mkT_inner hf h hl
   obtain rfl : k = k' := by omega
   have hfm := (fmN_iff _ _).1 (hf i hi)
   have i1 := ih _ l h1
   have i2 := ih _ r h2
   have hc : chB (t.getD i z69) c = (if (t.getD i z69).f4.toNat = c then 1 else 0) + (if (t.getD i z69).f5.toNat = c then 1 else 0) := if_neg (by omega)
   rw [plT, sumF, sumF_app, Int.toNat_natCast, hc, List.count_cons, List.count_append, ← i1, ← i2]
   have : ((i : Int) == (c : Int)) = decide (i = c) := by rw [Bool.eq_iff_iff]; simp; omega
   rw [this]
   by_cases e : i = c
   ·simp [e]; omega
   ·simp [e]; omega
theorem perm_range : ∀ (n : Nat) (l : List Int), l.Nodup → (∀ x ∈ l, 0 ≤ x ∧ x < n) → l.length = n → l.Perm ((List.range n).map (fun (i : Nat) => (i : Int)))
 | 0, l, _, _, h => by rw [List.length_eq_zero_iff.1 h]; exact List.Perm.nil
 | n + 1, l, hn, hb, h => by
  have hin : (n : Int) ∈ l := by
   refine Decidable.byContradiction fun hni => ?_
   have := List.Nodup.length_le_of_subset hn (l₂ := (List.range n).map (fun (i : Nat) => (i : Int))) (fun x hx => by
    have h1 := hb x hx
    have h2 : x ≠ n := fun e => hni (e ▸ hx)
    exact List.mem_map.2 ⟨x.toNat, List.mem_range.2 (by omega), by omega⟩)
   rw [List.length_map, List.length_range] at this
   omega
  have hp := List.perm_cons_erase hin
  have hn' := hp.nodup_iff.1 hn
  rw [List.nodup_cons] at hn'
  have := perm_range n (l.erase (n : Int)) hn'.2 (fun x hx => by
   have h1 := hb x (List.mem_of_mem_erase hx)
   have h2 : x ≠ n := fun e => hn'.1 (e ▸ hx)
   omega) (by have := hp.length_eq; rw [List.length_cons] at this; omega)
  rw [List.range_succ, List.map_append]
  exact hp.trans ((this.cons _).trans (List.perm_append_comm (l₁ := [(n : Int)])))
theorem good_uq {t : List S69} {T : Tr} (hg : Good t T) : Uq t := by
 intro c hc hcl
 have hp := perm_range t.length (plT T) hg.nodup (plT_mem _ _ _ hg.tree).2 hg.all
 have h := tree_cnt hg.form c _ _ _ hg.tree
 rw [sumF_perm hp, sumF_range, if_neg (by omega), Nat.add_zero] at h
 rw [h]
 have hm : (c : Int) ∈ plT T := hp.mem_iff.2 (List.mem_map.2 ⟨c, List.mem_range.2 hcl, rfl⟩)
 have h1 := List.nodup_iff_count.1 hg.nodup (c : Int)
 have h2 := List.count_pos_iff.2 hm
 omega
theorem wi {i : Nat} (h : i ≤ 10000000) : wrap64 ((i : Int) + 1) = ((i + 1 : Nat) : Int) := by rw [Go.IntWalk.wrap64_in _ (by omega)]; rfl
theorem rc_l0_bad {t : List S69} (hlen : t.length ≤ 100000) : ∀ (d i k : Nat) (x3 : List Int), i + d = t.length → d + 2 < k → x3.length = t.length → (∀ j, j < i → fmN (t.getD j z69) t.length = true) → ¬ Fm t → larchref16_Check.l0 k t x3 i = some 3 := by
 intro d
 induction d with
 | zero =>
  intro i k x3 hi hk hx hpre hb
  exact absurd (fun j hj => hpre j (by omega)) hb
 | succ d ih =>
  intro i k x3 hi hk hx hpre hb
  obtain ⟨k, rfl⟩ : ∃ x, k = x + 3 := ⟨k - 3, by omega⟩
  rw [larchref16_Check.l0, if_pos (by omega), if_pos (by omega), show rd_T69 t (i : Int) = t.getD i z69 from rfl, refnode_f, Option.bind_some]
  cases hn : fmN (t.getD i z69) t.length with
  | false => rw [if_neg (by simp)]
  | true =>
   have hfm := (fmN_iff _ _).1 hn
   have hpre' : ∀ j, j < i + 1 → fmN (t.getD j z69) t.length = true := fun j hj => by
    by_cases e : j = i
    ·rw [e]; exact hn
    ·exact hpre j (by omega)
   rw [if_pos rfl]
   by_cases h4 : (t.getD i z69).f4 = -1
   ·rw [if_pos h4, Go.IntWalk.wrap64_in _ (by omega)]
    exact ih (i + 1) (k + 2) x3 (by omega) (by omega) hx hpre' hb
   ·rw [if_neg h4, if_pos (by omega), if_pos (by omega), Option.bind_some, if_pos (by omega), if_pos (by omega), wi (i := i) (by omega)]
    exact ih (i + 1) (k + 2) _ (by omega) (by omega) (by rw [List.length_set, List.length_set]; exact hx) hpre' hb
theorem rc_l0 {t : List S69} (hlen : t.length ≤ 100000) (hf : Fm t) : ∀ (d i k : Nat) (x3 : List Int), i + d = t.length → x3.length = t.length → (∀ c, c < t.length → rd x3 c = cnt t i c) →
  ∃ x3', x3'.length = t.length ∧ (∀ c, c < t.length → rd x3' c = cnt t t.length c) ∧ larchref16_Check.l0 (k + d + 3) t x3 i = larchref16_Check.l1 (k + 2) t x3' ((1 : Nat) : Int) := by
 intro d
 induction d with
 | zero =>
  intro i k x3 hi hx hc
  obtain rfl : i = t.length := by omega
  exact ⟨x3, hx, hc, by rw [larchref16_Check.l0, if_neg (by omega)]; rfl⟩
 | succ d ih =>
  intro i k x3 hi hx hc
  have hn := hf i (by omega)
  have hfm := (fmN_iff _ _).1 hn
  rw [show k + (d + 1) + 3 = (k + d + 3) + 1 from rfl, larchref16_Check.l0, if_pos (by omega), if_pos (by omega), show rd_T69 t (i : Int) = t.getD i z69 from rfl, refnode_f, Option.bind_some, hn, if_pos rfl]
  by_cases h4 : (t.getD i z69).f4 = -1
  ·rw [if_pos h4, Go.IntWalk.wrap64_in _ (by omega)]
   exact ih (i + 1) k x3 (by omega) hx (fun c hcl => by rw [hc c hcl, cnt, chB, if_pos h4, Nat.add_zero])
  ·have hb4 := cnt_le t (t.getD i z69).f4.toNat i
   have hb5 := cnt_le t (t.getD i z69).f5.toNat i
   have r4 := hc (t.getD i z69).f4.toNat (by omega)
   have r5 := hc (t.getD i z69).f5.toNat (by omega)
   rw [Int.toNat_of_nonneg (by omega)] at r4 r5
   have e5 : rd (x3.set (t.getD i z69).f4.toNat (wrap64 (rd x3 (t.getD i z69).f4 + 1))) (t.getD i z69).f5 = rd x3 (t.getD i z69).f5 := by
    simp only [rd]
    rw [getD_set_ne _ _ _ (by omega)]
   rw [if_neg h4, if_pos (by omega), if_pos (by omega), Option.bind_some, if_pos (by omega), if_pos (by omega), e5, r4, r5, Go.IntWalk.wrap64_in _ (by omega), Go.IntWalk.wrap64_in _ (by omega), Go.IntWalk.wrap64_in _ (by omega)]
   refine ih (i + 1) k _ (by omega) (by rw [List.length_set, List.length_set]; exact hx) (fun c hcl => ?_)
   have h0 := hc c hcl
   rw [cnt, chB, if_neg h4]
   simp only [rd, Int.toNat_natCast] at h0 ⊢
   by_cases e2 : (t.getD i z69).f5.toNat = c
   ·rw [← e2, getD_set_eq _ _ _ (by rw [List.length_set]; omega), if_neg (by omega), if_pos rfl]
    omega
   ·rw [getD_set_ne _ _ _ e2, if_neg e2]
    by_cases e1 : (t.getD i z69).f4.toNat = c
    ·rw [← e1, getD_set_eq _ _ _ (by omega), if_pos rfl]
     omega
    ·rw [getD_set_ne _ _ _ e1, if_neg e1, h0]
     omega
theorem rc_l1_bad {t : List S69} (hlen : t.length ≤ 100000) {x3 : List Int} (hx : x3.length = t.length) (hc : ∀ c, c < t.length → rd x3 c = cnt t t.length c) : ∀ (d i k : Nat), i + d = t.length → d < k → (∀ c, 1 ≤ c → c < i → cnt t t.length c = 1) → 1 ≤ i → ¬ Uq t → larchref16_Check.l1 k t x3 i = some 3 := by
 intro d
 induction d with
 | zero =>
  intro i k hi hk hpre h1 hb
  exact absurd (fun c hc1 hcl => hpre c hc1 (by omega)) hb
 | succ d ih =>
  intro i k hi hk hpre h1 hb
  obtain ⟨k, rfl⟩ : ∃ x, k = x + 1 := ⟨k - 1, by omega⟩
  rw [larchref16_Check.l1, if_pos (by omega), if_pos (by omega), if_pos (by omega), hc i (by omega)]
  by_cases e : cnt t t.length i = 1
  ·rw [if_pos (by omega), Go.IntWalk.wrap64_in _ (by omega)]
   exact ih (i + 1) k (by omega) (by omega) (fun c hc1 hcl => by
    by_cases e2 : c = i
    ·rw [e2]; exact e
    ·exact hpre c hc1 (by omega)) (by omega) hb
  ·rw [if_neg (by omega)]
theorem rc_l1 {t : List S69} (hlen : t.length ≤ 100000) {x3 : List Int} (hx : x3.length = t.length) (hc : ∀ c, c < t.length → rd x3 c = cnt t t.length c) (hu : Uq t) : ∀ (d i k : Nat), i + d = t.length → 1 ≤ i → larchref16_Check.l1 (k + d + 1) t x3 i = larchref16_Check.l2 k t 0 [0] := by
 intro d
 induction d with
 | zero => intro i k hi h1; rw [larchref16_Check.l1, if_neg (by omega)]
 | succ d ih =>
  intro i k hi h1
  rw [show k + (d + 1) + 1 = (k + d + 1) + 1 from rfl, larchref16_Check.l1, if_pos (by omega), if_pos (by omega), if_pos (by omega), hc i (by omega), hu i h1 (by omega), if_pos (by omega), Go.IntWalk.wrap64_in _ (by omega)]
  exact ih (i + 1) k (by omega) (by omega)
theorem rc_l2 {t : List S69} (hlen : t.length ≤ 100000) (hf : Fm t) (K : Nat) : ∀ (k seen : Nat) (s ps : List Int), plF t K s = some ps → ps.length < k → seen + ps.length ≤ 1000000 →
  larchref16_Check.l2 k t seen s.reverse = some (if seen + ps.length = t.length then 0 else 3) := by
 intro k
 induction k with
 | zero => intro seen s ps _ h; exact absurd h (by omega)
 | succ k ih =>
  intro seen s ps hp hk ho
  cases s with
  | nil =>
   rw [plF] at hp
   injection hp with hp
   subst hp
   rw [List.reverse_nil, larchref16_Check.l2, if_neg (by simp)]
   by_cases e : seen = t.length
   ·rw [if_pos (by omega), if_pos (by simpa using e)]
   ·rw [if_neg (by omega), if_neg (by simpa using e)]
  | cons i s =>
   obtain ⟨T, q, h0, hT, hq, rfl⟩ := plF_cons hp
   have hsl := plF_len hp
   rw [List.length_cons, List.length_append] at hsl
   rw [List.length_append] at hk ho ⊢
   have e : (i :: s).reverse = s.reverse ++ [i] := List.reverse_cons
   have hl : s.reverse.length = s.length := List.length_reverse
   rw [e]
   have h1 : wrap64 (((s.reverse ++ [i]).length : Int) - 1) = s.length := by rw [List.length_append, List.length_singleton, hl, Go.IntWalk.wrap64_in _ (by omega)]; omega
   have h2 : rd (s.reverse ++ [i]) (s.length : Int) = i := by simp [rd]
   have h3 : (s.reverse ++ [i]).take ((s.length : Int)).toNat = s.reverse := by rw [Int.toNat_natCast, ← hl, List.take_left]
   cases K with
   | zero => simp [mkT] at hT
   | succ K =>
    have hi : i.toNat < t.length := by
     rw [mkT] at hT
     split at hT
     ·assumption
     ·exact absurd hT (by simp)
    rw [larchref16_Check.l2, h1, h2, h3, if_pos (by rw [List.length_append, List.length_singleton]; omega), if_pos (by omega), if_pos (by rw [List.length_append, List.length_singleton]; omega), if_pos h0, if_pos (by omega), if_pos (by rw [List.length_append, List.length_singleton]; omega), Option.bind_some, show rd_T69 t i = t.getD i.toNat z69 from rfl, Go.IntWalk.wrap64_in _ (by omega)]
    by_cases hlf : (t.getD i.toNat z69).f4 = -1 ∧ (t.getD i.toNat z69).f5 = -1
    ·obtain ⟨_, rfl⟩ := mkT_leaf hf hT hlf
     rw [if_pos hlf.1]
     have := ih (seen + 1) s q hq (by simp only [plT, List.length_cons, List.length_append, List.length_nil] at hk; omega) (by simp only [plT, List.length_cons, List.length_append, List.length_nil] at ho; omega)
     rw [show ((seen : Int) + 1) = ((seen + 1 : Nat) : Int) by omega, this]
     congr 1
     simp only [plT, List.length_cons, List.length_append, List.length_nil]
     rw [show seen + 1 + q.length = seen + (0 + 0 + 1 + q.length) by omega]
    ·obtain ⟨k', l, r, hk', _, m1, m2, rfl⟩ := mkT_inner hf hT hlf
     obtain rfl : K = k' := by omega
     have hfm := (fmN_iff _ _).1 (hf i.toNat hi)
     simp only [plT, List.length_cons, List.length_append] at hk ho hsl
     have hp2 := plF_mk (i := (t.getD i.toNat z69).f5) (by omega) (mkT_mono t _ _ _ m2) (plF_mk (i := (t.getD i.toNat z69).f4) (by omega) (mkT_mono t _ _ _ m1) hq)
     rw [if_neg (by omega), Option.bind_some, if_pos (by rw [hl]; simp; omega)]
     have := ih (seen + 1) _ _ hp2 (by simp only [List.length_append]; omega) (by simp only [List.length_append]; omega)
     rw [show s.reverse ++ [(t.getD i.toNat z69).f4, (t.getD i.toNat z69).f5] = ((t.getD i.toNat z69).f5 :: (t.getD i.toNat z69).f4 :: s).reverse by simp, show ((seen : Int) + 1) = ((seen + 1 : Nat) : Int) by omega, this]
     congr 1
     simp only [plT, List.length_cons, List.length_append]
     rw [show seen + 1 + ((plT r).length + ((plT l).length + q.length)) = seen + ((plT l).length + (plT r).length + 1 + q.length) by omega]
theorem check_03 (t : List S69) : ∀ (k i : Nat) (r : Int), table_Check.l0 k t t t.length i = some r → i ≤ t.length → t.length ≤ 100000 → r = 0 ∨ r = 3 := by
 intro k
 induction k with
 | zero => intro i r h; simp [table_Check.l0] at h
 | succ k ih =>
  intro i r h hi hlen
  rw [table_Check.l0] at h
  split at h
  ·split at h
   ·obtain ⟨b, hb, h⟩ := Option.bind_eq_some_iff.1 h
    split at h
    ·rw [wi (i := i) (by omega)] at h
     exact ih (i + 1) r h (by omega) hlen
    ·exact .inr (Option.some.inj h).symm
   ·exact absurd h (by simp)
  ·obtain ⟨b, hb, h⟩ := Option.bind_eq_some_iff.1 h
   split at h
   ·exact .inl (Option.some.inj h).symm
   ·exact .inr (Option.some.inj h).symm
theorem checks_alike (t : List S69) : ∃ k v, table_Check.f k t = some v ∧ larchref16_Check.f k t = some v ∧ (v = 0 → ∃ T, Good t T) := by
 obtain ⟨k0, r0, h0, hr0⟩ := check_total t
 have bnd : ∀ {k'}, larchref16_Check.f k' t = some r0 → ∃ k v, table_Check.f k t = some v ∧ larchref16_Check.f k t = some v ∧ (v = 0 → ∃ T, Good t T) := fun {k'} h => ⟨max k0 k', r0, up_to (fun k => table_Check.mono t k) (Nat.le_max_left _ _) h0, up_to (fun k => larchref16_Check.mono t k) (Nat.le_max_right _ _) h, hr0⟩
 unfold table_Check.f at h0
 by_cases h1 : (t.length : Int) > 100000
 ·rw [if_pos h1] at h0
  exact bnd (k' := 0) (by unfold larchref16_Check.f; rw [if_pos h1]; exact h0)
 ·rw [if_neg h1] at h0
  by_cases h2 : (t.length : Int) = 0
  ·rw [if_pos h2] at h0
   exact bnd (k' := 0) (by unfold larchref16_Check.f; rw [if_neg h1, if_pos h2]; exact h0)
  ·rw [if_neg h2] at h0
   have hlen : t.length ≤ 100000 := by omega
   have h03 := check_03 t k0 0 r0 h0 (Nat.zero_le _) hlen
   have rep : ∀ c, c < t.length → rd (List.replicate t.length (0 : Int)) c = cnt t 0 c := fun c hc => by simp [rd, cnt, List.getD, List.getElem?_replicate, hc]
   have start : ∀ k, larchref16_Check.f k t = larchref16_Check.l0 k t (List.replicate t.length 0) ((0 : Nat) : Int) := fun k => by
    unfold larchref16_Check.f
    rw [if_neg h1, if_neg h2, if_pos (by omega), if_pos (by omega), Int.toNat_natCast]
    rfl
   by_cases hf : Fm t
   ·obtain ⟨x3, hx, hc, e0⟩ := rc_l0 hlen hf t.length 0 (2 * t.length + 5) _ (by omega) List.length_replicate rep
    by_cases hu : Uq t
    ·obtain ⟨T, hT⟩ := mk_total hf hu t.length 0 0 (by omega) rfl (by omega)
     have hn := mk_nodup hf hu _ _ _ hT ⟨0, rfl⟩
     have hle : (plT T).length ≤ t.length := by
      have := List.Nodup.length_le_of_subset hn (l₂ := (List.range t.length).map (fun (i : Nat) => (i : Int))) (fun x hx => by
       have h1 := (plT_mem _ _ _ hT).2 x hx
       exact List.mem_map.2 ⟨x.toNat, List.mem_range.2 (by omega), by omega⟩)
      rw [List.length_map, List.length_range] at this
      exact this
     have hp := plF_mk (i := 0) (by omega) hT (plF.eq_1 t t.length)
     rw [List.append_nil] at hp
     have e2 := rc_l2 hlen hf t.length (t.length + 8) 0 [0] (plT T) hp (by omega) (by omega)
     have e1 := rc_l1 hlen hx hc hu (t.length - 1) 1 (t.length + 8) (by omega) (by omega)
     rw [show t.length + 8 + (t.length - 1) + 1 = (2 * t.length + 5) + 2 + 1 by omega] at e1
     have hk : larchref16_Check.f ((2 * t.length + 6) + t.length + 3) t = some (if (plT T).length = t.length then 0 else 3) := by
      obtain ⟨x3', hx', hc', e0'⟩ := rc_l0 hlen hf t.length 0 (2 * t.length + 6) _ (by omega) List.length_replicate rep
      have e1' := rc_l1 hlen hx' hc' hu (t.length - 1) 1 (t.length + 8) (by omega) (by omega)
      rw [show t.length + 8 + (t.length - 1) + 1 = (2 * t.length + 6) + 2 by omega] at e1'
      have e2' := e2
      rw [show ([0] : List Int).reverse = [0] from rfl, Nat.zero_add, show ((0 : Nat) : Int) = 0 from rfl] at e2'
      rw [start, e0', e1', e2']
     refine bnd (hk.trans ?_)
     congr 1
     by_cases ha : (plT T).length = t.length
     ·have hg : Good t T := ⟨hlen, hf, hT, hn, ha⟩
      obtain ⟨kk, hkk⟩ := check_good hg
      have := up_to (fun k => table_Check.mono t k) (Nat.le_max_left k0 kk) (by unfold table_Check.f; rw [if_neg h1, if_neg h2]; exact h0)
      rw [up_to (fun k => table_Check.mono t k) (Nat.le_max_right k0 kk) hkk] at this
      rw [if_pos ha]
      exact Option.some.inj this
     ·rw [if_neg ha]
      rcases h03 with e | e
      ·obtain ⟨T', hg'⟩ := hr0 e
       have := hg'.tree
       rw [hT] at this
       obtain rfl := Option.some.inj this
       exact absurd hg'.all ha
      ·exact e.symm
    ·refine bnd (k' := (2 * t.length + 5) + t.length + 3) ?_
     rw [start, e0, rc_l1_bad hlen hx hc (t.length - 1) 1 _ (by omega) (by omega) (fun c h1 h2 => by omega) (Nat.le_refl _) hu]
     rcases h03 with e | e
     ·obtain ⟨T', hg'⟩ := hr0 e
      exact absurd (good_uq hg') hu
     ·rw [e]
   ·refine bnd (k' := t.length + 3) ?_
    rw [start, rc_l0_bad hlen t.length 0 _ _ (by omega) (by omega) List.length_replicate (fun j hj => absurd hj (by omega)) hf]
    rcases h03 with e | e
    ·obtain ⟨T', hg'⟩ := hr0 e
     exact absurd hg'.form hf
    ·rw [e]
def infB (t : List S69) (p : Int) : Bool := decide ((t.getD p.toNat z69).f1 = 0)
theorem drop_cons {ps : List Int} {i : Nat} (h : i < ps.length) : ps.drop i = ps.getD i 0 :: ps.drop (i + 1) := by
 rw [List.drop_eq_getElem_cons h, List.getD, List.getElem?_eq_getElem h, Option.getD_some]
theorem getD_mem {ps : List Int} {i : Nat} (h : i < ps.length) : ps.getD i 0 ∈ ps := by rw [List.getD, List.getElem?_eq_getElem h, Option.getD_some]; exact List.getElem_mem _
theorem root_all (t : List S69) (v0 v1 v2 v3 v4 v5 : Int) (ps : List Int) (hp : ∀ p ∈ ps, 0 ≤ p ∧ p < t.length) (hlen : ps.length ≤ 1000000) : ∀ (d i k : Nat), i + d = ps.length → d < k →
  table_Root.l0 k t ps ps.length i v0 v1 v2 v3 v4 v5 = some (if (ps.drop i).all (infB t) then (v4, 0) else (0, 3)) := by
 intro d
 induction d with
 | zero =>
  intro i k hi hk
  obtain ⟨k, rfl⟩ : ∃ x, k = x + 1 := ⟨k - 1, by omega⟩
  rw [table_Root.l0, if_neg (by omega), List.drop_eq_nil_of_le (by omega), List.all_nil, if_pos rfl]
 | succ d ih =>
  intro i k hi hk
  obtain ⟨k, rfl⟩ : ∃ x, k = x + 1 := ⟨k - 1, by omega⟩
  have hr := hp _ (getD_mem (show i < ps.length by omega))
  rw [table_Root.l0, if_pos (by omega), if_pos (by omega), if_pos (by omega), show rd ps (i : Int) = ps.getD i 0 from rfl, show rd_T69 t (ps.getD i 0) = t.getD (ps.getD i 0).toNat z69 from rfl, if_pos hr.1, if_pos hr.2, drop_cons (by omega), List.all_cons]
  exact dd45
theorem crown_all (t : List S69) (x4 : Int) (h4 : 0 ≤ x4 ∧ x4 < t.length) (ps : List Int) (hp : ∀ p ∈ ps, 0 ≤ p ∧ p < t.length) (hlen : ps.length ≤ 1000000) : ∀ (d i k : Nat), i + d = ps.length → d < k →
  larchref16_Crown.l0 k t x4 ps i = some (if (ps.drop i).all (infB t) then ((t.getD x4.toNat z69).f4, true) else (0, false)) := by
 intro d
 induction d with
 | zero =>
  intro i k hi hk
  obtain ⟨k, rfl⟩ : ∃ x, k = x + 1 := ⟨k - 1, by omega⟩
  rw [larchref16_Crown.l0, if_neg (by omega), if_pos h4.1, if_pos h4.2, List.drop_eq_nil_of_le (by omega), List.all_nil, if_pos rfl]
  rfl
 | succ d ih =>
  intro i k hi hk
  obtain ⟨k, rfl⟩ : ∃ x, k = x + 1 := ⟨k - 1, by omega⟩
  have hr := hp _ (getD_mem (show i < ps.length by omega))
  rw [larchref16_Crown.l0, if_pos (by omega), if_pos (by omega), show rd ps (i : Int) = ps.getD i 0 from rfl, show rd_T69 t (ps.getD i 0) = t.getD (ps.getD i 0).toNat z69 from rfl, if_pos hr.1, if_pos hr.2, drop_cons (by omega), List.all_cons]
  exact dd45
theorem rows_tree {t : List S69} (hlen : t.length ≤ 100000) (hf : Fm t) (K : Nat) : ∀ (k : Nat) (out s ps : List Int), plF t K s = some ps → ps.length < k → out.length + ps.length ≤ 1000000 → larchref16_Rows.l0 k t out s.reverse = some (out ++ ps) := by
 intro k
 induction k with
 | zero => intro out s ps _ h; exact absurd h (by omega)
 | succ k ih =>
  intro out s ps hp hk ho
  cases s with
  | nil =>
   rw [plF] at hp
   injection hp with hp
   subst hp
   rw [List.reverse_nil, larchref16_Rows.l0, if_neg (by simp), List.append_nil]
  | cons i s =>
   obtain ⟨T, q, h0, hT, hq, rfl⟩ := plF_cons hp
   have hsl := plF_len hp
   rw [List.length_cons, List.length_append] at hsl
   rw [List.length_append] at hk ho
   have e : (i :: s).reverse = s.reverse ++ [i] := List.reverse_cons
   have hl : s.reverse.length = s.length := List.length_reverse
   rw [e]
   have h1 : wrap64 (((s.reverse ++ [i]).length : Int) - 1) = s.length := by rw [List.length_append, List.length_singleton, hl, Go.IntWalk.wrap64_in _ (by omega)]; omega
   have h2 : rd (s.reverse ++ [i]) (s.length : Int) = i := by simp [rd]
   have h3 : (s.reverse ++ [i]).take ((s.length : Int)).toNat = s.reverse := by rw [Int.toNat_natCast, ← hl, List.take_left]
   cases K with
   | zero => simp [mkT] at hT
   | succ K =>
    have hi : i.toNat < t.length := by
     rw [mkT] at hT
     split at hT
     ·assumption
     ·exact absurd hT (by simp)
    have hfm := (fmN_iff _ _).1 (hf i.toNat hi)
    rw [larchref16_Rows.l0, h1, h2, h3, if_pos (by rw [List.length_append, List.length_singleton]; omega), if_pos (by omega), if_pos (by rw [List.length_append, List.length_singleton]; omega), if_pos (by rw [List.length_append, List.length_singleton]; omega), Option.bind_some, if_pos (by omega), Option.bind_some, if_pos h0, if_pos (by omega), larchref16_Leaf.f, Option.bind_some, show rd_T69 t i = t.getD i.toNat z69 from rfl]
    by_cases hlf : (t.getD i.toNat z69).f4 = -1 ∧ (t.getD i.toNat z69).f5 = -1
    ·obtain ⟨_, rfl⟩ := mkT_leaf hf hT hlf
     simp only [plT, List.length_cons, List.length_append, List.length_nil] at hk ho
     rw [if_pos (by simpa using hlf.1)]
     exact dd59
    ·obtain ⟨k', l, r, hk', _, m1, m2, rfl⟩ := mkT_inner hf hT hlf
     obtain rfl : K = k' := by omega
     simp only [plT, List.length_cons, List.length_append] at hk ho hsl
     have hp2 := plF_mk (i := (t.getD i.toNat z69).f4) (by omega) (mkT_mono t _ _ _ m1) (plF_mk (i := (t.getD i.toNat z69).f5) (by omega) (mkT_mono t _ _ _ m2) hq)
     rw [if_neg (by simp only [beq_iff_eq]; omega), Option.bind_some, if_pos (by rw [hl]; simp; omega)]
     exact dd36
theorem end_f {t : List S69} (n : S69) (hn : fmN n t.length = true) : larchref16_end.f n.f0 n.f1 n.f2 n.f3 n.f4 n.f5 = some (snB n) := by
 have h := (fmN_iff _ _).1 hn
 unfold larchref16_end.f larchref16_Leaf.f
 rw [Option.bind_some]
 have hs := sent_iff n
 by_cases h4 : n.f4 = -1
 ·rw [if_pos (by simpa using h4)]
  by_cases h1 : n.f1 = 1
  ·rw [if_pos h1]
   congr 1
   rw [Bool.eq_iff_iff]
   simp only [snB, Bool.and_eq_true, beq_iff_eq]
   omega
  ·rw [if_neg h1]
   congr 1
   rw [eq_comm, Bool.eq_false_iff]
   intro e
   exact h1 (by rw [hs.1 e]; rfl)
 ·rw [if_neg (by simpa using h4)]
  congr 1
  rw [eq_comm, Bool.eq_false_iff]
  intro e
  exact h4 (by rw [hs.1 e]; rfl)
theorem top_f {t : List S69} (hf : Fm t) (i : Int) (h0 : 0 ≤ i) (hi : i < t.length) : ∃ b, larchref16_top.f t i = some b ∧ (b = true ↔ crP t (t.getD i.toNat z69)) := by
 have hfm := (fmN_iff _ _).1 (hf i.toNat (by omega))
 unfold larchref16_top.f larchref16_Leaf.f
 rw [if_pos h0, if_pos hi, Option.bind_some, show rd_T69 t i = t.getD i.toNat z69 from rfl]
 generalize t.getD i.toNat z69 = n at hfm ⊢
 by_cases h4 : n.f4 = -1
 ·exact ⟨false, by rw [if_pos (by simpa using h4)], by simp only [crP, Bool.false_eq_true, false_iff]; omega⟩
 ·rw [if_neg (by simpa using h4)]
  by_cases h1 : n.f1 = 1
  ·rw [if_pos h1]
   by_cases h2 : n.f2 = 1
   ·rw [if_pos h2, if_pos (by omega), if_pos (by omega), show rd_T69 t n.f5 = t.getD n.f5.toNat z69 from rfl, end_f _ (hf n.f5.toNat (by omega)), Option.bind_some]
    refine ⟨_, rfl, ?_⟩
    rw [sent_iff]
    exact ⟨fun h => ⟨fun e => h4 e.1, h1, h2, h⟩, fun h => h.2.2.2⟩
   ·exact ⟨false, by rw [if_neg h2], by simp [crP, h2]⟩
  ·exact ⟨false, by rw [if_neg h1], by simp [crP, h1]⟩
theorem mkT_ne {t : List S69} {k i : Nat} {T : Tr} (h : mkT t k i = some T) : T ≠ .nil := by
 rintro rfl
 have := mkT_plc h
 rw [plc] at this
 omega
theorem mkT_sz {t : List S69} {k i : Nat} {T : Tr} (h : mkT t k i = some T) : 0 < sizeT T := by
 cases T with
 | nil => exact absurd rfl (mkT_ne h)
 | node n p l r => rw [sizeT]; omega
def bS (s : S165) : S140 := ⟨s.f1, s.f2, s.f3, s.f4⟩
theorem bS_l (n : S69) (s : S165) (h : n.f1 = 0 ∨ n.f1 = 1) : bS (lS n s) = lB n (bS s) := by
 rcases h with h | h
 ·by_cases hc : s.f4 = false ∨ n.f0 < s.f2 <;> simp [lS, lB, bS, h, hc]
 ·simp [lS, lB, bS, h]
theorem bS_r (n : S69) (s : S165) (h : n.f1 = 0 ∨ n.f1 = 1) : bS (rS n s) = rB n (bS s) := by
 rcases h with h | h
 ·by_cases hc : s.f3 = false ∨ n.f0 > s.f1 <;> simp [rS, rB, bS, h, hc]
 ·simp [rS, rB, bS, h]
def spF (t : List S69) (K : Nat) : List S165 → Option (Nat × Bool)
 | [] => some (0, true)
 | s :: st => if 0 ≤ s.f0 then (mkT t K s.f0.toNat).bind fun T => (spF t K st).map fun q => (sizeT T + q.1, ordT T (bS s) s.f5 && q.2) else none
theorem spF_mk {t : List S69} {K : Nat} {s : S165} {st : List S165} {T : Tr} {n : Nat} {b : Bool} (h0 : 0 ≤ s.f0) (hT : mkT t K s.f0.toNat = some T) (hq : spF t K st = some (n, b)) : spF t K (s :: st) = some (sizeT T + n, ordT T (bS s) s.f5 && b) := by
 rw [spF, if_pos h0, hT, Option.bind_some, hq, Option.map_some]
theorem spF_cons {t : List S69} {K : Nat} {s : S165} {st : List S165} {n : Nat} {b : Bool} (h : spF t K (s :: st) = some (n, b)) : ∃ T m c, 0 ≤ s.f0 ∧ mkT t K s.f0.toNat = some T ∧ spF t K st = some (m, c) ∧ n = sizeT T + m ∧ b = (ordT T (bS s) s.f5 && c) := by
 rw [spF] at h
 split at h
 ·rename_i h0
  obtain ⟨T, hT, h⟩ := Option.bind_eq_some_iff.1 h
  obtain ⟨⟨m, c⟩, hq, h⟩ := Option.map_eq_some_iff.1 h
  injection h with h1 h2
  exact ⟨T, m, c, h0, hT, hq, h1.symm, h2.symm⟩
 ·exact absurd h (by simp)
theorem spF_len {t : List S69} {K : Nat} : ∀ {st : List S165} {n : Nat} {b : Bool}, spF t K st = some (n, b) → st.length ≤ n := by
 intro st
 induction st with
 | nil => intro n b h; exact Nat.zero_le _
 | cons s st ih =>
  intro n b h
  obtain ⟨T, m, c, h0, hT, hq, rfl, rfl⟩ := spF_cons h
  have h1 := mkT_sz hT
  have h2 := ih hq
  rw [List.length_cons]
  omega
theorem inO_tree {t : List S69} (hf : Fm t) (K : Nat) : ∀ (k : Nat) (st : List S165) (n : Nat) (b : Bool), spF t K st = some (n, b) → n < k → n ≤ 1000000 → inO t k st = some b := by
 intro k
 induction k with
 | zero => intro st n b _ h; exact absurd h (by omega)
 | succ k ih =>
  intro st n b h hk hn
  cases st with
  | nil =>
   rw [spF] at h
   injection h with h
   injection h with h1 h2
   rw [inO, h2]
  | cons s st =>
   obtain ⟨T, m, c, h0, hT, hq, rfl, rfl⟩ := spF_cons h
   have hsz := mkT_sz hT
   have hl := spF_len hq
   by_cases hlf : (t.getD s.f0.toNat z69).f4 = -1 ∧ (t.getD s.f0.toNat z69).f5 = -1
   ·obtain ⟨hi, rfl⟩ := mkT_leaf hf hT hlf
    rw [inO, if_pos ⟨h0, by omega, by omega⟩, if_pos hlf.1, ordT]
    have e : outS (t.getD s.f0.toNat z69) s = outB (t.getD s.f0.toNat z69) (bS s) s.f5 := rfl
    cases ho : outB (t.getD s.f0.toNat z69) (bS s) s.f5 with
    | true => rw [if_pos (e.trans ho)]; rfl
    | false =>
     rw [if_neg (by rw [e, ho]; simp)]
     exact ih st m _ (by rw [hq]; rfl) (by omega) (by omega)
   ·obtain ⟨k', l, r, rfl, hi, hl', hr', rfl⟩ := mkT_inner hf hT hlf
    have hfm := (fmN_iff _ _).1 (hf _ hi)
    have h4 : 1 ≤ (t.getD s.f0.toNat z69).f4 ∧ 1 ≤ (t.getD s.f0.toNat z69).f5 := by omega
    rw [inO, if_pos ⟨h0, by omega, by omega⟩, if_neg (by omega)]
    have g1 : (lS (t.getD s.f0.toNat z69) s).f0 = (t.getD s.f0.toNat z69).f4 := by unfold lS; split <;> (try split) <;> rfl
    have g2 : (rS (t.getD s.f0.toNat z69) s).f0 = (t.getD s.f0.toNat z69).f5 := by unfold rS; split <;> (try split) <;> rfl
    have g3 : (lS (t.getD s.f0.toNat z69) s).f5 = s.f5 := by unfold lS; split <;> (try split) <;> rfl
    have g4 : (rS (t.getD s.f0.toNat z69) s).f5 = (s.f5 || (t.getD s.f0.toNat z69).f1 == 1) := by
     unfold rS
     split
     ·rename_i h1; rw [h1]; simp
     ·rename_i h1
      have : ((t.getD s.f0.toNat z69).f1 == 1) = false := by rw [beq_eq_false_iff_ne]; exact h1
      rw [this, Bool.or_false]
      split <;> rfl
    have hinf : (t.getD s.f0.toNat z69).f1 = 0 ∨ (t.getD s.f0.toNat z69).f1 = 1 := by omega
    have g5 := bS_l (t.getD s.f0.toNat z69) s hinf
    have g6 := bS_r (t.getD s.f0.toNat z69) s hinf
    have q1 := spF_mk (s := lS (t.getD s.f0.toNat z69) s) (by rw [g1]; omega) (by rw [g1]; exact mkT_mono t _ _ _ hl') hq
    have q2 := spF_mk (s := rS (t.getD s.f0.toNat z69) s) (by rw [g2]; omega) (by rw [g2]; exact mkT_mono t _ _ _ hr') q1
    rw [g3, g4, g5, g6] at q2
    rw [sizeT] at hk hn
    rw [ih _ _ _ q2 (by omega) (by omega), ordT_inner _ _ _ _ _ (mkT_ne hl')]
    congr 1
    cases ordT l (lB (t.getD s.f0.toNat z69) (bS s)) s.f5 <;> cases ordT r (rB (t.getD s.f0.toNat z69) (bS s)) (s.f5 || (t.getD s.f0.toNat z69).f1 == 1) <;> rfl
theorem inO_good {t : List S69} {T : Tr} (hg : Good t T) : inO t (t.length + 1) [z165] = some (ordT T z140 false) := by
 have hlen := hg.len
 have hs := size_pl T
 have ha := hg.all
 have q := spF_mk (s := z165) (st := []) (n := 0) (b := true) (by decide) hg.tree rfl
 rw [inO_tree hg.form _ _ _ _ _ q (by omega) (by omega), Bool.and_true]
 rfl
def Al : Tr → Int → Int → Prop
 | .nil, _, _ => True
 | .node n _ .nil _, a, c => n.f2 ≠ 0 ∧ a + n.f2 = c
 | .node n _ (.node m p x y) r, a, c => Al (.node m p x y) (a + n.f2) c ∧ Al r (a + n.f2) c
theorem al_inner (n : S69) (p : Int) {l : Tr} (r : Tr) (a c : Int) (hl : l ≠ .nil) : Al (.node n p l r) a c ↔ Al l (a + n.f2) c ∧ Al r (a + n.f2) c := by
 cases l with
 | nil => exact absurd rfl hl
 | node _ _ _ _ => exact Iff.rfl
def AlF (t : List S69) (K : Nat) : List (Int × Int) → Int → Prop
 | [], _ => True
 | x :: st, c => (∃ T, mkT t K x.1.toNat = some T ∧ Al T x.2 c) ∧ AlF t K st c
def SzF (t : List S69) (K : Nat) : List (Int × Int) → Nat → Prop
 | [], n => n = 0
 | x :: st, n => 0 ≤ x.1 ∧ ∃ T m, mkT t K x.1.toNat = some T ∧ 0 ≤ x.2 ∧ x.2 + 1000000 * (sizeT T : Int) ≤ 1000000000000000 ∧ SzF t K st m ∧ n = sizeT T + m
theorem szF_len {t : List S69} {K : Nat} : ∀ {st : List (Int × Int)} {n : Nat}, SzF t K st n → st.length ≤ n
 | [], _, _ => Nat.zero_le _
 | x :: st, n, h => by
  obtain ⟨h0, T, m, hT, _, _, hs, rfl⟩ := h
  have := szF_len hs
  have := mkT_sz hT
  rw [List.length_cons]
  omega
theorem alF_at {t : List S69} {K : Nat} {p a : Int} {st : List (Int × Int)} {T : Tr} (hT : mkT t K p.toNat = some T) (c : Int) : AlF t K ((p, a) :: st) c ↔ Al T a c ∧ AlF t K st c := by
 rw [AlF]
 constructor
 ·rintro ⟨⟨T', h1, h2⟩, h3⟩
  rw [hT] at h1
  injection h1 with h1
  subst h1
  exact ⟨h2, h3⟩
 ·rintro ⟨h1, h2⟩
  exact ⟨⟨T, hT, h1⟩, h2⟩
theorem rsums_tree {t : List S69} (hf : Fm t) (K : Nat) : ∀ (k : Nat) (st : List (Int × Int)) (n : Nat) (sum : Int), SzF t K st n → n < k → n ≤ 1000000 →
  ∃ b, rsums t k st sum = some b ∧ (sum ≠ -1 → (b = true ↔ AlF t K st sum)) ∧ (sum = -1 → (b = true ↔ ∃ c, 0 ≤ c ∧ AlF t K st c)) := by
 intro k
 induction k with
 | zero => intro st n sum _ h; exact absurd h (by omega)
 | succ k ih =>
  intro st n sum h hk hn
  cases st with
  | nil => exact ⟨true, rfl, fun _ => ⟨fun _ => trivial, fun _ => rfl⟩, fun _ => ⟨fun _ => ⟨0, by omega, trivial⟩, fun _ => rfl⟩⟩
  | cons x st =>
   obtain ⟨p, a⟩ := x
   have hlen := szF_len h
   rw [List.length_cons] at hlen
   obtain ⟨h0, T, m, hT, ha, hb, hs, rfl⟩ := h
   dsimp only at h0 hT ha hb
   have hsz := mkT_sz hT
   have hlm := szF_len hs
   simp only [alF_at hT]
   by_cases hlf : (t.getD p.toNat z69).f4 = -1 ∧ (t.getD p.toNat z69).f5 = -1
   ·obtain ⟨hi, rfl⟩ := mkT_leaf hf hT hlf
    have hfm := (fmN_iff _ _).1 (hf _ hi)
    simp only [sizeT] at hk hn hb
    rw [rsums, if_pos ⟨h0, by omega, by omega, .inl hlf.1⟩, if_pos hlf.1, Go.IntWalk.wrap64_in _ (by omega)]
    simp only [Al]
    by_cases hw : (t.getD p.toNat z69).f2 = 0 ∨ (sum ≠ -1 ∧ a + (t.getD p.toNat z69).f2 ≠ sum)
    ·rw [if_pos hw]
     refine ⟨false, rfl, fun h1 => ?_, fun h1 => ?_⟩
     ·simp only [Bool.false_eq_true, false_iff]
      rintro ⟨⟨h2, h3⟩, _⟩
      omega
     ·simp only [Bool.false_eq_true, false_iff]
      rintro ⟨c, _, ⟨h2, h3⟩, _⟩
      omega
    ·rw [if_neg hw]
     obtain ⟨b, e1, e2, e3⟩ := ih st m (a + (t.getD p.toNat z69).f2) hs (by omega) (by omega)
     have e4 := e2 (by omega)
     refine ⟨b, e1, fun h1 => ?_, fun h1 => ?_⟩
     ·rw [e4]
      have : a + (t.getD p.toNat z69).f2 = sum := Decidable.byContradiction fun hx => hw (.inr ⟨h1, hx⟩)
      rw [this]
      exact ⟨fun h => ⟨⟨by omega, rfl⟩, h⟩, fun h => h.2⟩
     ·rw [e4]
      constructor
      ·intro h; exact ⟨_, by omega, ⟨by omega, rfl⟩, h⟩
      ·rintro ⟨c, _, ⟨_, rfl⟩, h⟩; exact h
   ·obtain ⟨k', l, r, rfl, hi, hl', hr', rfl⟩ := mkT_inner hf hT hlf
    have hfm := (fmN_iff _ _).1 (hf _ hi)
    have h4 : 1 ≤ (t.getD p.toNat z69).f4 ∧ 1 ≤ (t.getD p.toNat z69).f5 := by omega
    simp only [sizeT] at hk hn hb
    rw [rsums, if_pos ⟨h0, by omega, by omega, .inr (by omega)⟩, if_neg (by omega), Go.IntWalk.wrap64_in _ (by omega)]
    have hL := mkT_mono t _ _ _ hl'
    have hR := mkT_mono t _ _ _ hr'
    obtain ⟨b, e1, e2, e3⟩ := ih (((t.getD p.toNat z69).f5, a + (t.getD p.toNat z69).f2) :: ((t.getD p.toNat z69).f4, a + (t.getD p.toNat z69).f2) :: st) (sizeT r + (sizeT l + m)) sum
     ⟨by dsimp only; omega, r, sizeT l + m, hR, by dsimp only; omega, by dsimp only; omega, ⟨by dsimp only; omega, l, m, hL, by dsimp only; omega, by dsimp only; omega, hs, rfl⟩, rfl⟩ (by omega) (by omega)
    refine ⟨b, e1, fun h1 => ?_, fun h1 => ?_⟩
    ·rw [e2 h1, alF_at hR, alF_at hL, al_inner _ _ _ _ _ (mkT_ne hl')]
     exact ⟨fun h => ⟨⟨h.2.1, h.1⟩, h.2.2⟩, fun h => ⟨h.1.2, h.1.1, h.2⟩⟩
    ·rw [e3 h1]
     simp only [alF_at hR, alF_at hL, al_inner _ _ _ _ _ (mkT_ne hl')]
     exact ⟨fun ⟨c, h0, h⟩ => ⟨c, h0, ⟨h.2.1, h.1⟩, h.2.2⟩, fun ⟨c, h0, h⟩ => ⟨c, h0, h.1.2, h.1.1, h.2⟩⟩
theorem rsums_good {t : List S69} {T : Tr} (hg : Good t T) : ∃ b, rsums t (t.length + 1) [(0, 0)] (-1) = some b ∧ (b = true ↔ ∃ c, 0 ≤ c ∧ Al T 0 c) := by
 have hlen := hg.len
 have hs := size_pl T
 have ha := hg.all
 obtain ⟨b, e1, _, e3⟩ := rsums_tree hg.form t.length (t.length + 1) [(0, 0)] (sizeT T) (-1) ⟨by decide, T, 0, hg.tree, by decide, by dsimp only; omega, rfl, rfl⟩ (by omega) (by omega)
 refine ⟨b, e1, ?_⟩
 rw [e3 rfl]
 constructor
 ·rintro ⟨c, h0, h⟩; exact ⟨c, h0, ((alF_at hg.tree c).1 h).1⟩
 ·rintro ⟨c, h0, h⟩; exact ⟨c, h0, (alF_at hg.tree c).2 ⟨h, trivial⟩⟩
theorem al_ren : ∀ {T : Tr}, Ok T → ∀ (b : Nat) (a c : Int), Al (renT T b) a c ↔ Al T a c
 | .nil, h, _, _, _ => h.elim
 | .node n p .nil r, h, b, a, c => Iff.rfl
 | .node n p (.node d q x y) r, h, b, a, c => by
  have hk := ok_inner h (by simp)
  rw [ren_inner _ _ _ _ (by simp), al_inner _ _ _ _ _ (ren_ne _ (by simp)), al_inner _ _ _ _ _ (by simp), al_ren hk.1, al_ren hk.2]
theorem par_child {t : List S69} (hf : Fm t) (hu : Uq t) : ∀ (n : Nat), n ≤ t.length → ∀ m c, m < n → childOf t m c → (parP t n).getD c 0 = m
 | 0, _, m, c, h, _ => absurd h (by omega)
 | n + 1, hn, m, c, h, hc => by
  have hr := child_rng hf (show m < t.length by omega) hc
  have hfm := (fmN_iff _ _).1 (hf n (by omega))
  rw [parP]
  split
  ·rename_i hl
   refine par_child hf hu n (by omega) m c ?_ hc
   rcases Nat.lt_or_ge m n with h1 | h1
   ·exact h1
   ·obtain rfl : m = n := by omega
    have := hc.1
    omega
  ·rename_i hl
   by_cases e : m = n
   ·subst e
    by_cases h5 : (t.getD m z69).f5.toNat = c
    ·rw [h5, getD_set_eq _ _ _ (by simp only [List.length_set, parP_len]; omega)]
    ·have h4 : (t.getD m z69).f4.toNat = c := by rcases hc.2 with h | h; exact h; exact absurd h h5
     rw [getD_set_ne _ _ _ h5, h4, getD_set_eq _ _ _ (by rw [parP_len]; omega)]
   ·have h4 : (t.getD n z69).f4.toNat ≠ c := fun h4 => e (child_one hf hu (by omega) (by omega) hc ⟨by omega, .inl h4⟩)
    have h5 : (t.getD n z69).f5.toNat ≠ c := fun h5 => e (child_one hf hu (by omega) (by omega) hc ⟨by omega, .inr h5⟩)
    rw [getD_set_ne _ _ _ h5, getD_set_ne _ _ _ h4]
    exact par_child hf hu n (by omega) m c (by omega) hc
theorem inR_good {t : List S69} (hf : Fm t) : inR t = true := by
 rw [inR, List.all_eq_true]
 intro x hx
 obtain ⟨i, hi, rfl⟩ := List.mem_iff_getElem.1 hx
 have := (fmN_iff _ _).1 (hf i hi)
 rw [List.getD, List.getElem?_eq_getElem hi, Option.getD_some] at this
 simp only [Bool.or_eq_true, Bool.and_eq_true, beq_iff_eq, decide_eq_true_eq]
 omega
theorem parents_good {t : List S69} {T : Tr} (hg : Good t T) : ∃ k, table_Parents.f k t = some (parP t t.length, 0) := by
 obtain ⟨k, hk⟩ := check_good hg
 refine ⟨k, ?_⟩
 unfold table_Parents.f
 have h1 := hg.pos
 have h2 := hg.len
 rw [hk, Option.bind_some, if_pos rfl, if_neg (by rw [inR_good hg.form]; rintro (h | h | h); (rw [h] at h1; simp at h1); omega; cases h)]
theorem sumsL_tree {t : List S69} (hf : Fm t) (hu : Uq t) : ∀ (k i : Nat) (T : Tr), mkT t k i = some T → (plT T).Nodup → ∀ (q a : Int) (j : Nat) (M : Int → Int) (out ps : List Int), j ≠ 0 → (parP t t.length).getD i 0 = q → M q = a → q ∉ plT T → 0 ≤ a → a + 1000000 * (sizeT T : Int) ≤ 1000000000000000 →
  ∃ M' : Int → Int, sumsL t (parP t t.length) (plT T ++ ps) j M out = sumsL t (parP t t.length) ps (j + sizeT T) M' (out ++ sums T a) ∧ ∀ x, x ∉ plT T → M' x = M x := by
 intro k
 induction k with
 | zero => intro i T h; simp [mkT] at h
 | succ k ih =>
  intro i T hT hn q a j M out ps hj hq hM hqT ha hb
  have hi : i < t.length := by have := (plT_mem _ _ _ hT).2 i (plT_mem _ _ _ hT).1; omega
  have hfm := (fmN_iff _ _).1 (hf _ hi)
  have hqi : q ≠ (i : Int) := fun h => hqT (h ▸ (plT_mem _ _ _ hT).1)
  by_cases hlf : (t.getD i z69).f4 = -1 ∧ (t.getD i z69).f5 = -1
  ·obtain ⟨_, rfl⟩ := mkT_leaf hf hT hlf
   simp only [sizeT] at hb
   simp only [plT, List.nil_append, List.cons_append, sumsL, sums, sizeT, Int.toNat_natCast]
   rw [if_pos ⟨by omega, by omega, by rw [parP_len]; omega⟩, if_neg hj, if_pos (by omega), hq]
   refine ⟨updI (updI M i (t.getD i z69).f2) i (wrap64 (updI M i (t.getD i z69).f2 i + updI M i (t.getD i z69).f2 q)), ?_, ?_⟩
   ·have e : updI (updI M i (t.getD i z69).f2) i (wrap64 (updI M i (t.getD i z69).f2 i + updI M i (t.getD i z69).f2 q)) i = a + (t.getD i z69).f2 := by
     exact dd85
    rw [e]
   ·intro x hx
    have hx' : ¬ x = (i : Int) := fun h => hx (h ▸ List.mem_cons_self)
    simp only [updI, if_neg hx']
  ·obtain ⟨k', l, r, hk', _, hl, hr, rfl⟩ := mkT_inner hf hT hlf
   obtain rfl : k = k' := by omega
   have c1 : childOf t i (t.getD i z69).f4.toNat := ⟨by omega, .inl rfl⟩
   have c2 : childOf t i (t.getD i z69).f5.toNat := ⟨by omega, .inr rfl⟩
   have p1 := par_child hf hu t.length (Nat.le_refl _) i _ hi c1
   have p2 := par_child hf hu t.length (Nat.le_refl _) i _ hi c2
   simp only [sizeT] at hb
   simp only [plT, List.nodup_cons, List.mem_append, not_or] at hn
   have hn1 := nodup_app_l hn.2
   have hn2 := nodup_app_r hn.2
   have e : updI (updI M i (t.getD i z69).f2) i (wrap64 (updI M i (t.getD i z69).f2 i + updI M i (t.getD i z69).f2 q)) i = a + (t.getD i z69).f2 := by
    exact dd85
   have hs1 := mkT_sz hl
   have hs2 := mkT_sz hr
   obtain ⟨M1, e1, m1⟩ := ih _ l hl hn1 i (a + (t.getD i z69).f2) (j + 1) (updI (updI M i (t.getD i z69).f2) i (wrap64 (updI M i (t.getD i z69).f2 i + updI M i (t.getD i z69).f2 q))) out (plT r ++ ps) (by omega) p1 e hn.1.1 (by omega) (by omega)
   obtain ⟨M2, e2, m2⟩ := ih _ r hr hn2 i (a + (t.getD i z69).f2) (j + 1 + sizeT l) M1 (out ++ sums l (a + (t.getD i z69).f2)) ps (by omega) p2 (by rw [m1 _ hn.1.1, e]) hn.1.2 (by omega) (by omega)
   refine ⟨M2, ?_, ?_⟩
   ·simp only [plT, List.cons_append, List.append_assoc, sumsL, Int.toNat_natCast]
    rw [if_pos ⟨by omega, by omega, by rw [parP_len]; omega⟩, if_neg hj, if_neg (by omega), hq, e1, e2]
    have : sums (.node (t.getD i z69) i l r) a = sums l (a + (t.getD i z69).f2) ++ sums r (a + (t.getD i z69).f2) := by
     exact dd93
    rw [this, List.append_assoc, sizeT, show j + 1 + sizeT l + sizeT r = j + (1 + sizeT l + sizeT r) by omega]
   ·intro x hx
    simp only [plT, List.mem_cons, List.mem_append, not_or] at hx
    rw [m2 x hx.2.2, m1 x hx.2.1]
    simp only [updI, if_neg hx.1]
theorem sumsL_root {t : List S69} (hf : Fm t) (hu : Uq t) (k i : Nat) (X : Tr) (hX : mkT t k i = some X) (hn : (plT X).Nodup) (hsz : sizeT X ≤ 100000) : sumsL t (parP t t.length) (plT X) 0 (fun _ => 0) [] = some (sums X 0) := by
 have hi : i < t.length := by have := (plT_mem _ _ _ hX).2 i (plT_mem _ _ _ hX).1; omega
 have hfm := (fmN_iff _ _).1 (hf _ hi)
 by_cases hlf : (t.getD i z69).f4 = -1 ∧ (t.getD i z69).f5 = -1
 ·obtain ⟨_, rfl⟩ := mkT_leaf hf hX hlf
  simp only [plT, List.nil_append, sumsL, sums, Int.toNat_natCast]
  rw [if_pos ⟨by omega, by omega, by rw [parP_len]; omega⟩, if_pos (show (t.getD i z69).f4 < 0 by omega)]
  simp [updI]
 ·obtain ⟨k', l, r, _, _, hl, hr, rfl⟩ := mkT_inner hf hX hlf
  have c1 : childOf t i (t.getD i z69).f4.toNat := ⟨by omega, .inl rfl⟩
  have c2 : childOf t i (t.getD i z69).f5.toNat := ⟨by omega, .inr rfl⟩
  have p1 := par_child hf hu t.length (Nat.le_refl _) i _ hi c1
  have p2 := par_child hf hu t.length (Nat.le_refl _) i _ hi c2
  simp only [sizeT] at hsz
  simp only [plT, List.nodup_cons, List.mem_append, not_or] at hn
  have e : updI (fun _ => 0) i (t.getD i z69).f2 i = (t.getD i z69).f2 := by simp [updI]
  obtain ⟨M1, e1, m1⟩ := sumsL_tree hf hu _ _ l hl (nodup_app_l hn.2) i (t.getD i z69).f2 1 (updI (fun _ => 0) i (t.getD i z69).f2) [] (plT r) (by omega) p1 e hn.1.1 (by omega) (by omega)
  obtain ⟨M2, e2, m2⟩ := sumsL_tree hf hu _ _ r hr (nodup_app_r hn.2) i (t.getD i z69).f2 (1 + sizeT l) M1 ([] ++ sums l (t.getD i z69).f2) [] (by omega) p2 (by rw [m1 _ hn.1.1, e]) hn.1.2 (by omega) (by omega)
  rw [List.append_nil] at e2
  rw [plT, sumsL, if_pos ⟨by omega, by omega, by rw [parP_len]; omega⟩, if_pos rfl, Int.toNat_natCast, if_neg (by omega), e1, e2, sumsL]
  have : sums (.node (t.getD i z69) i l r) 0 = sums l (0 + (t.getD i z69).f2) ++ sums r (0 + (t.getD i z69).f2) := by
   exact dd93
  rw [this, Int.zero_add, List.nil_append]
def NZ : Tr → Prop
 | .nil => True
 | .node n _ .nil _ => n.f2 ≠ 0
 | .node _ _ (.node m p x y) r => NZ (.node m p x y) ∧ NZ r
theorem al_sums : ∀ (T : Tr) (a c : Int), Al T a c ↔ NZ T ∧ ∀ s ∈ sums T a, s = c
 | .nil, a, c => by simp [Al, NZ, sums]
 | .node n p .nil r, a, c => by simp [Al, NZ, sums]
 | .node n p (.node m q x y) r, a, c => by
  rw [Al, al_sums (.node m q x y), al_sums r, NZ, sums]
  simp only [List.mem_append]
  constructor
  ·rintro ⟨⟨h1, h2⟩, h3, h4⟩
   exact ⟨⟨h1, h3⟩, fun s hs => hs.elim (h2 s) (h4 s)⟩
  ·rintro ⟨⟨h1, h3⟩, h⟩
   exact ⟨⟨h1, fun s hs => h s (.inl hs)⟩, h3, fun s hs => h s (.inr hs)⟩
theorem nz_mk {t : List S69} (hf : Fm t) : ∀ (k i : Nat) (X : Tr), mkT t k i = some X → (NZ X ↔ ∀ p ∈ plT X, (t.getD p.toNat z69).f4 < 0 → (t.getD p.toNat z69).f2 ≠ 0)
 | 0, i, X, h => by simp [mkT] at h
 | k + 1, i, X, h => by
  have hi : i < t.length := by have := (plT_mem _ _ _ h).2 i (plT_mem _ _ _ h).1; omega
  have hfm := (fmN_iff _ _).1 (hf _ hi)
  by_cases hlf : (t.getD i z69).f4 = -1 ∧ (t.getD i z69).f5 = -1
  ·obtain ⟨_, rfl⟩ := mkT_leaf hf h hlf
   simp only [NZ, plT, List.append_nil, List.mem_singleton, forall_eq, Int.toNat_natCast]
   exact ⟨fun h _ => h, fun h => h (by omega)⟩
  ·obtain ⟨k', l, r, hk', _, hl, hr, rfl⟩ := mkT_inner hf h hlf
   obtain rfl : k = k' := by omega
   have e : NZ (.node (t.getD i z69) i l r) ↔ NZ l ∧ NZ r := by
    cases l with
    | nil => exact absurd rfl (mkT_ne hl)
    | node _ _ _ _ => exact Iff.rfl
   rw [e, nz_mk hf k _ l hl, nz_mk hf k _ r hr]
   simp only [plT, List.mem_cons, List.mem_append]
   constructor
   ·rintro ⟨h1, h2⟩ p (rfl | hp | hp) h4
    ·rw [Int.toNat_natCast] at h4; omega
    ·exact h1 p hp h4
    ·exact h2 p hp h4
   ·intro h
    exact ⟨fun p hp => h p (.inr (.inl hp)), fun p hp => h p (.inr (.inr hp))⟩
theorem pickL_eq {t : List S69} {par : List Int} {P : Int → Int → Bool} : ∀ (ps : List Int) (i : Nat) (out : List Int), i ≠ 0 → (∀ p ∈ ps, 0 ≤ p ∧ p < t.length ∧ p < par.length ∧ par.getD p.toNat 0 < t.length) → pickL t par P ps i out = some (out ++ ps.filter (fun p => P p (par.getD p.toNat 0)))
 | [], _, out, _, _ => by rw [pickL, List.filter_nil, List.append_nil]
 | p :: ps, i, out, hi, h => by
  rw [pickL, if_pos (h p List.mem_cons_self), if_neg hi, pickL_eq ps (i + 1) _ (by omega) (fun q hq => h q (List.mem_cons_of_mem _ hq)), List.filter_cons]
  split <;> simp
theorem kids_of {t : List S69} (hf : Fm t) {m : Nat} (hm : m < t.length) (h : 0 ≤ (t.getD m z69).f4) : kids t m = some ((t.getD m z69).f4.toNat, (t.getD m z69).f5.toNat) := by
 have hfm := (fmN_iff _ _).1 (hf _ hm)
 rw [kids, if_pos ⟨hm, by omega, by omega, by omega, by omega⟩]
def Way (t : List S69) (l : List Nat) : Prop := (∀ i, i < l.length → l.getD i 0 < t.length) ∧ ∀ i, i + 1 < l.length → childOf t (l.getD i 0) (l.getD (i + 1) 0)
theorem path_tree {t : List S69} (hf : Fm t) (key : Int) : ∀ (k i : Nat) (T : Tr), mkT t k i = some T → ∃ l, pathI t key k i = some l ∧ 0 < l.length ∧ l.length ≤ sizeT T ∧ l.getD 0 0 = i ∧ Way t l ∧
  ∀ j, j < l.length → 0 ≤ (t.getD (l.getD j 0) z69).f4 → j + 1 < l.length ∧ ((l.getD (j + 1) 0 : Nat) : Int) = if leftB (t.getD (l.getD j 0) z69) key = true then (t.getD (l.getD j 0) z69).f4 else (t.getD (l.getD j 0) z69).f5
 | 0, i, T, h => by simp [mkT] at h
 | k + 1, i, T, h => by
  have hi : i < t.length := by have := (plT_mem _ _ _ h).2 i (plT_mem _ _ _ h).1; omega
  have hfm := (fmN_iff _ _).1 (hf _ hi)
  by_cases hlf : (t.getD i z69).f4 = -1 ∧ (t.getD i z69).f5 = -1
  ·obtain ⟨_, rfl⟩ := mkT_leaf hf h hlf
   refine ⟨[i], by rw [pathI, if_pos hi, if_pos hlf.1], by simp, by simp [sizeT], rfl, ⟨fun j hj => ?_, fun j hj => by simp at hj⟩, fun j hj h0 => ?_⟩
   ·obtain rfl : j = 0 := by simp at hj; exact hj
    exact hi
   ·obtain rfl : j = 0 := by simp at hj; exact hj
    rw [List.getD_cons_zero] at h0
    omega
  ·obtain ⟨k', l, r, hk', _, hl, hr, rfl⟩ := mkT_inner hf h hlf
   obtain rfl : k = k' := by omega
   have hs1 := mkT_sz hl
   have hs2 := mkT_sz hr
   rw [pathI, if_pos hi, if_neg (by omega)]
   have hg : ∀ (n : Int) (Y : Tr), childOf t i n.toNat → 0 ≤ n → mkT t k n.toNat = some Y → sizeT Y ≤ sizeT l + sizeT r → (if leftB (t.getD i z69) key = true then (t.getD i z69).f4 else (t.getD i z69).f5) = n →
     ∃ l', (if 0 ≤ n then (pathI t key k n.toNat).bind fun l => some (i :: l) else none) = some l' ∧ 0 < l'.length ∧ l'.length ≤ sizeT (.node (t.getD i z69) i l r) ∧ l'.getD 0 0 = i ∧ Way t l' ∧
      ∀ j, j < l'.length → 0 ≤ (t.getD (l'.getD j 0) z69).f4 → j + 1 < l'.length ∧ ((l'.getD (j + 1) 0 : Nat) : Int) = if leftB (t.getD (l'.getD j 0) z69) key = true then (t.getD (l'.getD j 0) z69).f4 else (t.getD (l'.getD j 0) z69).f5 := by
    intro n Y hc hn hY hsz hk
    obtain ⟨q, e1, e2, e3, e4, e5, e6⟩ := path_tree hf key k n.toNat Y hY
    refine ⟨i :: q, by rw [if_pos hn, e1]; rfl, by simp, by rw [List.length_cons, sizeT]; omega, rfl, ⟨fun j hj => ?_, fun j hj => ?_⟩, fun j hj h0 => ?_⟩
    ·cases j with
     | zero => exact hi
     | succ j => rw [List.getD_cons_succ]; rw [List.length_cons] at hj; exact e5.1 j (by omega)
    ·cases j with
     | zero => rw [List.getD_cons_succ, e4]; exact hc
     | succ j => rw [List.getD_cons_succ, List.getD_cons_succ]; rw [List.length_cons] at hj; exact e5.2 j (by omega)
    ·rw [List.length_cons] at hj ⊢
     cases j with
     | zero => rw [List.getD_cons_succ, List.getD_cons_zero, e4, hk]; exact ⟨by omega, by omega⟩
     | succ j =>
      rw [List.getD_cons_succ] at h0 ⊢
      rw [List.getD_cons_succ]
      have := e6 j (by omega) h0
      exact ⟨by omega, this.2⟩
   by_cases hb : leftB (t.getD i z69) key = true
   ·simp only [if_pos hb] at hg ⊢
    exact hg _ l ⟨by omega, .inl rfl⟩ (by omega) hl (by omega) rfl
   ·simp only [if_neg hb] at hg ⊢
    exact hg _ r ⟨by omega, .inr rfl⟩ (by omega) hr (by omega) rfl
theorem mem_child {t : List S69} (hf : Fm t) : ∀ (k i : Nat) (X : Tr), mkT t k i = some X → ∀ p c : Nat, (p : Int) ∈ plT X → childOf t p c → (c : Int) ∈ plT X
 | 0, i, X, h, _, _, _, _ => by simp [mkT] at h
 | k + 1, i, X, h, p, c, hp, hc => by
  by_cases hlf : (t.getD i z69).f4 = -1 ∧ (t.getD i z69).f5 = -1
  ·obtain ⟨_, rfl⟩ := mkT_leaf hf h hlf
   simp only [plT, List.append_nil, List.mem_singleton] at hp
   obtain rfl : p = i := by omega
   have := hc.1
   omega
  ·obtain ⟨k', l, r, hk', _, hl, hr, rfl⟩ := mkT_inner hf h hlf
   obtain rfl : k = k' := by omega
   simp only [plT, List.mem_cons, List.mem_append] at hp ⊢
   rcases hp with hp | hp | hp
   ·obtain rfl : p = i := by omega
    rcases hc.2 with h1 | h1
    ·exact .inr (.inl (by rw [← h1]; exact (plT_mem _ _ _ hl).1))
    ·exact .inr (.inr (by rw [← h1]; exact (plT_mem _ _ _ hr).1))
   ·exact .inr (.inl (mem_child hf k _ l hl p c hp hc))
   ·exact .inr (.inr (mem_child hf k _ r hr p c hp hc))
theorem way_mem {t : List S69} (hf : Fm t) {l : List Nat} (hw : Way t l) {K c : Nat} {X : Tr} (hX : mkT t K c = some X) {j0 : Nat} (h0 : ((l.getD j0 0 : Nat) : Int) ∈ plT X) : ∀ j, j0 ≤ j → j < l.length → ((l.getD j 0 : Nat) : Int) ∈ plT X := by
 intro j hj
 induction j with
 | zero => intro _; obtain rfl : j0 = 0 := (by omega); exact h0
 | succ j ih =>
  intro hjl
  by_cases e : j0 = j + 1
  ·subst e; exact h0
  ·exact mem_child hf K c X hX _ _ (ih (by omega) (by omega)) (hw.2 j hjl)
theorem al_way {t : List S69} (hf : Fm t) {l : List Nat} (hw : Way t l) {c : Int} {j0 K : Nat} {X : Tr} {a0 : Int} (hX : mkT t K (l.getD j0 0) = some X) (ha : Al X a0 c) : ∀ j, j0 ≤ j → j < l.length → ∃ K Y a, mkT t K (l.getD j 0) = some Y ∧ Al Y a c := by
 intro j hj
 induction j with
 | zero => intro _; obtain rfl : j0 = 0 := (by omega); exact ⟨K, X, a0, hX, ha⟩
 | succ j ih =>
  intro hjl
  by_cases e : j0 = j + 1
  ·subst e; exact ⟨K, X, a0, hX, ha⟩
  ·obtain ⟨K', Y, a, hY, hA⟩ := ih (by omega) (by omega)
   have hc := hw.2 j hjl
   have hfm := (fmN_iff _ _).1 (hf _ (hw.1 j (by omega)))
   have h0 := hc.1
   obtain ⟨k', l1, r1, _, _, hl, hr, rfl⟩ := mkT_inner hf hY (by omega)
   rw [al_inner _ _ _ _ _ (mkT_ne hl)] at hA
   rcases hc.2 with h1 | h1
   ·exact ⟨k', l1, _, by rw [← h1]; exact hl, hA.1⟩
   ·exact ⟨k', r1, _, by rw [← h1]; exact hr, hA.2⟩
theorem al_le {t : List S69} (hf : Fm t) : ∀ (k i : Nat) (T : Tr) (a c : Int), mkT t k i = some T → Al T a c → a + (t.getD i z69).f2 ≤ c
 | 0, i, T, a, c, h, _ => by simp [mkT] at h
 | k + 1, i, T, a, c, h, hA => by
  have hi : i < t.length := by have := (plT_mem _ _ _ h).2 i (plT_mem _ _ _ h).1; omega
  have hfm := (fmN_iff _ _).1 (hf _ hi)
  by_cases hlf : (t.getD i z69).f4 = -1 ∧ (t.getD i z69).f5 = -1
  ·obtain ⟨_, rfl⟩ := mkT_leaf hf h hlf
   rw [Al] at hA
   omega
  ·obtain ⟨k', l, r, hk', _, hl, hr, rfl⟩ := mkT_inner hf h hlf
   obtain rfl : k = k' := by omega
   rw [al_inner _ _ _ _ _ (mkT_ne hl)] at hA
   have h1 := al_le hf k _ l _ c hl hA.1
   have hil : (t.getD i z69).f4.toNat < t.length := by have := (plT_mem _ _ _ hl).2 _ (plT_mem _ _ _ hl).1; omega
   have := (fmN_iff _ _).1 (hf _ hil)
   omega
theorem sib_inner {t : List S69} (hf : Fm t) {K f : Nat} {Y : Tr} {a c : Int} (hY : mkT t K f = some Y) (hA : Al Y a c) {v r : Nat} (h0 : 0 ≤ (t.getD f z69).f4)
  (hv : (v = (t.getD f z69).f4.toNat ∧ r = (t.getD f z69).f5.toNat) ∨ (v = (t.getD f z69).f5.toNat ∧ r = (t.getD f z69).f4.toNat)) (hr : (t.getD r z69).f2 < (t.getD v z69).f2) :
  ∃ K' Z, mkT t K' r = some Z ∧ Al Z (a + (t.getD f z69).f2) c ∧ 0 ≤ (t.getD r z69).f4 ∧ a + (t.getD f z69).f2 + (t.getD v z69).f2 ≤ c := by
 have hi : f < t.length := by have := (plT_mem _ _ _ hY).2 f (plT_mem _ _ _ hY).1; omega
 have hfm := (fmN_iff _ _).1 (hf _ hi)
 obtain ⟨k', l1, r1, _, _, hl, hr', rfl⟩ := mkT_inner hf hY (by omega)
 rw [al_inner _ _ _ _ _ (mkT_ne hl)] at hA
 have hg : ∀ (V R : Tr), mkT t k' v = some V → mkT t k' r = some R → Al V (a + (t.getD f z69).f2) c → Al R (a + (t.getD f z69).f2) c → ∃ K' Z, mkT t K' r = some Z ∧ Al Z (a + (t.getD f z69).f2) c ∧ 0 ≤ (t.getD r z69).f4 ∧ a + (t.getD f z69).f2 + (t.getD v z69).f2 ≤ c := by
  intro V R hV hR aV aR
  have h1 := al_le hf _ _ _ _ _ hV aV
  refine ⟨k', R, hR, aR, ?_, h1⟩
  have hrl : r < t.length := by have := (plT_mem _ _ _ hR).2 _ (plT_mem _ _ _ hR).1; omega
  have hfr := (fmN_iff _ _).1 (hf _ hrl)
  by_cases hlf : (t.getD r z69).f4 = -1 ∧ (t.getD r z69).f5 = -1
  ·obtain ⟨_, rfl⟩ := mkT_leaf hf hR hlf
   rw [Al] at aR
   omega
  ·omega
 rcases hv with ⟨rfl, rfl⟩ | ⟨rfl, rfl⟩
 ·exact hg l1 r1 hl hr' hA.1 hA.2
 ·exact hg r1 l1 hr' hl hA.2 hA.1
theorem part_l1 {t : List S69} (hf : FormT t) (num ps : List Int) (hn : num.length = t.length) (hp : ∀ p ∈ ps, 0 ≤ p ∧ p < t.length) (hl : ps.length ≤ 1000000) : ∀ (d i k : Nat), i + d = ps.length → d < k →
  larchref16_Part.l1 k t ps num ((ps.take i).map (conv t num)) i = some (ps.map (conv t num)) := by
 intro d
 induction d with
 | zero =>
  intro i k hi hk
  obtain ⟨k, rfl⟩ : ∃ x, k = x + 1 := ⟨k - 1, by omega⟩
  obtain rfl : i = ps.length := by omega
  rw [larchref16_Part.l1, if_neg (by omega), List.take_length]
 | succ d ih =>
  intro i k hi hk
  obtain ⟨k, rfl⟩ : ∃ x, k = x + 1 := ⟨k - 1, by omega⟩
  have hil : i < ps.length := by omega
  have hg : ps.getD i 0 = ps[i] := by rw [List.getD, List.getElem?_eq_getElem hil, Option.getD_some]
  have hr := hp (ps.getD i 0) (by rw [hg]; exact List.getElem_mem _)
  have htake : ps.take (i + 1) = ps.take i ++ [ps.getD i 0] := by rw [hg, List.take_append_getElem hil]
  have hlen : ((ps.take i).map (conv t num)).length = i := by rw [List.length_map, List.length_take]; omega
  have step := ih (i + 1) k (by omega) (by omega)
  rw [htake, List.map_append, List.map_singleton] at step
  have hfm := hf (ps.getD i 0).toNat (by omega)
  rw [larchref16_Part.l1, if_pos (by omega), if_pos (by omega), show rd ps (i : Int) = ps.getD i 0 from rfl, if_pos hr.1, if_pos hr.2, show rd_T69 t (ps.getD i 0) = t.getD (ps.getD i 0).toNat z69 from rfl, larchref16_Leaf.f, Option.bind_some]
  by_cases hlf : (t.getD (ps.getD i 0).toNat z69).f4 = -1 ∧ (t.getD (ps.getD i 0).toNat z69).f5 = -1
  ·rw [if_pos (by simpa using hlf.1), if_pos (by omega), wi (i := i) (by omega)]
   rw [conv, if_pos hlf] at step
   exact step
  ·rw [if_neg (by simp only [beq_iff_eq]; omega), if_pos (by omega), if_pos (by omega), if_pos (by omega), if_pos (by omega), if_pos (by omega), wi (i := i) (by omega)]
   rw [conv, if_neg hlf] at step
   exact step
theorem part_l0 {t : List S69} (hf : FormT t) (ps : List Int) (hp : ∀ p ∈ ps, 0 ≤ p ∧ p < t.length) (hnd : ps.Nodup) (hl : ps.length ≤ 1000000) (htl : t.length ≤ 100000) : ∀ (d i k : Nat) (num : List Int), i + d = ps.length → d + ps.length + 2 < k → num.length = t.length → (∀ j, j < i → rd num (ps.getD j 0) = j) →
  ∃ num', num'.length = t.length ∧ (∀ j, j < ps.length → rd num' (ps.getD j 0) = j) ∧ larchref16_Part.l0 k t ps num i = some (ps.map (conv t num')) := by
 intro d
 induction d with
 | zero =>
  intro i k num hi hk hn hj
  obtain ⟨k, rfl⟩ : ∃ x, k = x + 1 := ⟨k - 1, by omega⟩
  refine ⟨num, hn, fun j h => hj j (by omega), ?_⟩
  rw [larchref16_Part.l0, if_neg (by omega)]
  have := part_l1 hf num ps hn hp hl ps.length 0 k (by omega) (by omega)
  rw [List.take_zero, List.map_nil] at this
  exact this
 | succ d ih =>
  intro i k num hi hk hn hj
  obtain ⟨k, rfl⟩ : ∃ x, k = x + 1 := ⟨k - 1, by omega⟩
  have hil : i < ps.length := by omega
  have hg : ∀ j (h : j < ps.length), ps.getD j 0 = ps[j] := fun j h => by rw [List.getD, List.getElem?_eq_getElem h, Option.getD_some]
  have hr := hp (ps.getD i 0) (by rw [hg i hil]; exact List.getElem_mem _)
  obtain ⟨num', h1, h2, h3⟩ := ih (i + 1) k (num.set (ps.getD i 0).toNat i) (by omega) (by omega) (by rw [List.length_set, hn]) (fun j h => by
   by_cases e : j = i
   ·subst e
    simp only [rd]
    rw [getD_set_eq _ _ _ (by omega)]
   ·have hjl : j < ps.length := by omega
    have hrj := hp (ps.getD j 0) (by rw [hg j hjl]; exact List.getElem_mem _)
    have hne : ps.getD i 0 ≠ ps.getD j 0 := by
     rw [hg i hil, hg j hjl]
     intro e2
     rcases Nat.lt_trichotomy i j with hlt | heq | hgt
     ·exact List.pairwise_iff_getElem.1 hnd i j hil hjl hlt e2
     ·exact e heq.symm
     ·exact List.pairwise_iff_getElem.1 hnd j i hjl hil hgt e2.symm
    have := hj j (by omega)
    simp only [rd] at this ⊢
    rw [getD_set_ne _ _ _ (by omega)]
    exact this)
  refine ⟨num', h1, h2, ?_⟩
  rw [larchref16_Part.l0, if_pos (by omega), if_pos (by omega), show rd ps (i : Int) = ps.getD i 0 from rfl, if_pos hr.1, if_pos (by omega), wi (i := i) (by omega)]
  exact h3
theorem rows_f {t : List S69} (hlen : t.length ≤ 100000) (hf : Fm t) {K : Nat} {a : Int} {T : Tr} (h0 : 0 ≤ a) (hT : mkT t K a.toNat = some T) (hl : (plT T).length ≤ 1000000) (k : Nat) (hk : (plT T).length < k) : larchref16_Rows.f k t a = some (plT T) := by
 have hp := plF_mk h0 hT (plF.eq_1 t K)
 rw [List.append_nil] at hp
 have hrows := rows_tree hlen hf K k [] [a] (plT T) hp hk (by simp; omega)
 exact hrows
theorem part_tree {t : List S69} (hlen : t.length ≤ 100000) (hf : Fm t) {K : Nat} {a : Int} {T : Tr} (h0 : 0 ≤ a) (hT : mkT t K a.toNat = some T) (hn : (plT T).Nodup) (hl : (plT T).length ≤ 1000000) : ∃ k, larchref16_Part.f k t a = some (flatT T 0) := by
 refine ⟨2 * (plT T).length + 10, ?_⟩
 unfold larchref16_Part.f
 rw [rows_f hlen hf h0 hT hl _ (by omega), Option.bind_some, if_pos (by omega), if_pos (by omega), Int.toNat_natCast]
 obtain ⟨num, h1, h2, h3⟩ := part_l0 (formT_of hf) (plT T) (plT_mem _ _ _ hT).2 hn hl hlen (plT T).length 0 (2 * (plT T).length + 10) (List.replicate t.length 0) (by omega) (by omega) List.length_replicate (fun j hj => absurd hj (by omega))
 rw [show ((0 : Nat) : Int) = 0 from rfl] at h3
 rw [h3, conv_flat hf num _ _ T 0 hT (fun j hj => by rw [h2 j hj, Nat.zero_add])]
theorem keys_tree {t : List S69} (hlen : t.length ≤ 100000) (hf : Fm t) (par : List Int) (K : Nat) : ∀ (k : Nat) (out s ps : List Int), plF t K s = some ps → ps.length < k → out.length + ps.length ≤ 1000000 → weigh_keys.l0 k t par out s.reverse = some (out ++ ps, par, 0) := by
 intro k
 induction k with
 | zero => intro out s ps _ h; exact absurd h (by omega)
 | succ k ih =>
  intro out s ps hp hk ho
  cases s with
  | nil =>
   rw [plF] at hp
   injection hp with hp
   subst hp
   rw [List.reverse_nil, weigh_keys.l0, if_neg (by simp), List.append_nil]
  | cons i s =>
   obtain ⟨T, q, h0, hT, hq, rfl⟩ := plF_cons hp
   have hsl := plF_len hp
   rw [List.length_cons, List.length_append] at hsl
   rw [List.length_append] at hk ho
   have e : (i :: s).reverse = s.reverse ++ [i] := List.reverse_cons
   have hl : s.reverse.length = s.length := List.length_reverse
   rw [e]
   have h1 : wrap64 (((s.reverse ++ [i]).length : Int) - 1) = s.length := by rw [List.length_append, List.length_singleton, hl, Go.IntWalk.wrap64_in _ (by omega)]; omega
   have h2 : rd (s.reverse ++ [i]) (s.length : Int) = i := by simp [rd]
   have h3 : (s.reverse ++ [i]).take ((s.length : Int)).toNat = s.reverse := by rw [Int.toNat_natCast, ← hl, List.take_left]
   cases K with
   | zero => simp [mkT] at hT
   | succ K =>
    have hi : i.toNat < t.length := by
     rw [mkT] at hT
     split at hT
     ·assumption
     ·exact absurd hT (by simp)
    have hfm := (fmN_iff _ _).1 (hf i.toNat hi)
    rw [weigh_keys.l0, h1, h2, h3, if_pos (by rw [List.length_append, List.length_singleton]; omega), if_pos (by omega), if_pos (by rw [List.length_append, List.length_singleton]; omega), if_pos (by rw [List.length_append, List.length_singleton]; omega), Option.bind_some, if_pos (by omega), Option.bind_some, if_pos h0, if_pos (by omega), show rd_T69 t i = t.getD i.toNat z69 from rfl]
    by_cases hlf : (t.getD i.toNat z69).f4 = -1 ∧ (t.getD i.toNat z69).f5 = -1
    ·obtain ⟨_, rfl⟩ := mkT_leaf hf hT hlf
     simp only [plT, List.length_cons, List.length_append, List.length_nil] at hk ho
     rw [if_neg (by omega)]
     exact dd59
    ·obtain ⟨k', l, r, hk', _, m1, m2, rfl⟩ := mkT_inner hf hT hlf
     obtain rfl : K = k' := by omega
     simp only [plT, List.length_cons, List.length_append] at hk ho hsl
     have hp2 := plF_mk (i := (t.getD i.toNat z69).f4) (by omega) (mkT_mono t _ _ _ m1) (plF_mk (i := (t.getD i.toNat z69).f5) (by omega) (mkT_mono t _ _ _ m2) hq)
     rw [if_pos (by omega), Option.bind_some, if_pos (by rw [hl]; simp; omega)]
     exact dd36
theorem crowns_alike {t : List S69} {T : Tr} (hg : Good t T) : ∃ k r c, table_Root.f k t = some r ∧ larchref16_Crown.f k t = some c ∧ ((c.2 = false ∧ r.2 = 3) ∨ (c = (-1, true) ∧ r.2 = 4 ∧ crP t (t.getD 0 z69) ∧ t.getD (t.getD 0 z69).f4.toNat z69 = sn34) ∨ ∃ X0, Crown T X0 ∧ c = (plc X0, true) ∧ r = (plc X0, 0)) := by
 obtain ⟨k0, r1, r2, h0, hr, _⟩ := root_good hg
 obtain ⟨kc, hck⟩ := check_good hg
 have hlen := hg.len
 have hpos := hg.pos
 have hf := hg.form
 have f0 := hf 0 hpos
 have f0' := (fmN_iff _ _).1 f0
 obtain ⟨b0, hb0, hb0'⟩ := crowned_f t (t.getD 0 z69) f0
 obtain ⟨b0r, hb0r, hb0r'⟩ := top_f hf 0 (Int.le_refl _) (by omega)
 obtain rfl : b0r = b0 := by rw [Bool.eq_iff_iff, hb0', hb0r']; exact Iff.rfl
 have hprog : table_Root.f (k0 + kc + t.length + 5) t = some (r1, r2) := up_to (fun k => table_Root.mono t k) (by omega) h0
 have hprog0 := hprog
 unfold table_Root.f at hprog
 rw [up_to (fun k => table_Check.mono t k) (show kc ≤ k0 + kc + t.length + 5 by omega) hck, Option.bind_some, if_pos rfl, if_pos (by omega), show rd_T69 t 0 = t.getD 0 z69 from rfl, show rd_T69 t (t.getD 0 z69).f4 = t.getD (t.getD 0 z69).f4.toNat z69 from rfl, hb0, Option.bind_some] at hprog
 suffices hs : ∃ c, larchref16_Crown.f (k0 + kc + t.length + 5) t = some c ∧ ((c.2 = false ∧ r2 = 3) ∨ (c = (-1, true) ∧ r2 = 4 ∧ crP t (t.getD 0 z69) ∧ t.getD (t.getD 0 z69).f4.toNat z69 = sn34) ∨ ∃ X0, Crown T X0 ∧ c = (plc X0, true) ∧ (r1, r2) = (plc X0, 0)) by
  obtain ⟨c, e1, e2⟩ := hs
  exact ⟨_, (r1, r2), c, hprog0, e1, e2⟩
 unfold larchref16_Crown.f
 rw [hb0r, Option.bind_some]
 cases b0r with
 | false =>
  rw [if_neg (by simp)] at hprog
  exact dd53
 | true =>
  have hcr := hb0'.1 rfl
  rw [if_pos rfl, if_pos (by have := hcr.1; omega), if_pos (by have := hcr.1; omega)] at hprog
  rw [if_pos rfl, if_pos (by omega), show rd_T69 t 0 = t.getD 0 z69 from rfl, if_pos (by have := hcr.1; omega), if_pos (by have := hcr.1; omega), show rd_T69 t (t.getD 0 z69).f4 = t.getD (t.getD 0 z69).f4.toNat z69 from rfl]
  obtain ⟨k1, l, r, hk1, _, hl, hr', hT⟩ := mkT_inner hf hg.tree hcr.1
  have f1 := hf (t.getD 0 z69).f4.toNat (by have := hcr.1; omega)
  have f1' := (fmN_iff _ _).1 f1
  obtain ⟨b1, hb1, hb1'⟩ := crowned_f t _ f1
  obtain ⟨b1r, hb1r, hb1r'⟩ := top_f hf (t.getD 0 z69).f4 (by have := hcr.1; omega) (by have := hcr.1; omega)
  obtain rfl : b1r = b1 := by rw [Bool.eq_iff_iff, hb1', hb1r']
  rw [end_f _ f1, Option.bind_some]
  simp only [table_sentinel.f, Option.bind_some] at hprog
  generalize hm : t.getD (t.getD 0 z69).f4.toNat z69 = m at hprog hb1 hb1' f1' f1 ⊢
  rw [show (m.f0 == 0 && (m.f1 == 1 && (m.f2 == 1 && (m.f3 == 0 && (m.f4 == -1 && m.f5 == -1))))) = snB m from rfl, hb1, Option.bind_some] at hprog
  rw [hb1r]
  cases hs : snB m with
  | true =>
   rw [hs, if_pos rfl] at hprog
   rw [if_pos rfl]
   injection hprog with hprog
   injection hprog with h1 h2
   exact ⟨_, rfl, .inr (.inl ⟨rfl, h2.symm, hcr, (sent_iff m).1 hs⟩)⟩
  | false =>
   rw [hs, if_neg (by simp)] at hprog
   rw [if_neg (by simp), Option.bind_some]
   cases b1r with
   | false =>
    rw [if_neg (by simp)] at hprog
    exact dd53
   | true =>
    have hcr1 := hb1'.1 rfl
    have hcr1' := hcr1
    rw [← hm] at hcr1'
    obtain ⟨k2, X0, rr, hk2, hi2, hl1, hr1, hT1⟩ := mkT_inner hf hl hcr1'.1
    rw [hm] at hl1 hr1 hT1
    have hn := hg.nodup
    have ha := hg.all
    rw [hT, hT1] at hn ha
    simp only [plT, List.nodup_cons, List.cons_append, List.length_cons, List.length_append] at hn ha
    have hnX : (plT X0).Nodup := by
     have h1 := hn.2
     rw [List.append_assoc] at h1
     exact nodup_app_l h1.2
    have hmB := hcr1.1
    have hmem := (plT_mem _ _ _ hl1).2
    have hrows := rows_f (a := m.f4) hlen hf (by omega) hl1 (by omega) (k0 + kc + t.length + 5) (by omega)
    have ra := root_all t m.f0 m.f1 m.f2 m.f3 m.f4 m.f5 (plT X0) hmem (by omega) (plT X0).length 0 (k0 + kc + t.length + 5) (by omega) (by omega)
    have ca := crown_all t (t.getD 0 z69).f4 (by have := hcr.1; omega) (plT X0) hmem (by omega) (plT X0).length 0 (k0 + kc + t.length + 5) (by omega) (by omega)
    rw [hm, List.drop_zero, show ((0 : Nat) : Int) = 0 from rfl] at ca
    rw [List.drop_zero, show ((0 : Nat) : Int) = 0 from rfl] at ra
    rw [if_pos rfl, order_f_tree hlen (formT_of hf) (by omega) hl1 hnX (by omega) _ (by omega), Option.bind_some, ra] at hprog
    rw [if_pos rfl, hrows, Option.bind_some, ca]
    cases hall : (plT X0).all (infB t) with
    | true =>
     rw [hall, if_pos rfl] at hprog
     rw [if_pos rfl]
     injection hprog with hprog
     injection hprog with h1 h2
     obtain ⟨X, hX, e⟩ := hr h2.symm
     exact ⟨_, rfl, .inr (.inr ⟨X, hX, by rw [e, h1], by rw [e, h2]⟩)⟩
    | false =>
     rw [hall, if_neg (by simp)] at hprog
     exact dd53
theorem even_l0 (xs : List Int) (hl : xs.length ≤ 1000000) (hp : 0 < xs.length) : ∀ (d i k : Nat), i + d = xs.length → d < k →
  weigh_Even.l0 k xs xs xs.length i = some (if (xs.drop i).all (fun s => s == rd xs 0) then (rd xs 0, true, 0) else (0, false, 0)) := by
 intro d
 induction d with
 | zero =>
  intro i k hi hk
  obtain ⟨k, rfl⟩ : ∃ x, k = x + 1 := ⟨k - 1, by omega⟩
  rw [weigh_Even.l0, if_neg (by omega), if_pos (by omega), List.drop_eq_nil_of_le (by omega), List.all_nil, if_pos rfl]
 | succ d ih =>
  intro i k hi hk
  obtain ⟨k, rfl⟩ : ∃ x, k = x + 1 := ⟨k - 1, by omega⟩
  rw [weigh_Even.l0, if_pos (by omega), if_pos (by omega), if_pos (by omega), if_pos (by omega), drop_cons (by omega), List.all_cons, show rd xs (i : Int) = xs.getD i 0 from rfl]
  by_cases e : xs.getD i 0 = rd xs 0
  ·rw [if_pos e, wi (i := i) (by omega), ih (i + 1) k (by omega) (by omega), show (xs.getD i 0 == rd xs 0) = true by simpa using e, Bool.true_and]
  ·rw [if_neg e, show (xs.getD i 0 == rd xs 0) = false by simpa using e, Bool.false_and, if_neg (by simp)]
def nzB (t : List S69) (p : Int) : Bool := !(decide ((t.getD p.toNat z69).f4 < 0) && ((t.getD p.toNat z69).f2 == 0))
theorem sound_l0 (t : List S69) (b : Bool) (ps : List Int) (hp : ∀ p ∈ ps, 0 ≤ p ∧ p < t.length) (hl : ps.length ≤ 1000000) : ∀ (d i k : Nat), i + d = ps.length → d < k → 1 ≤ i →
  weigh_Sound.l0 k t b ps ps.length i = some (if (ps.drop i).all (nzB t) then (b, 0) else (false, 0)) := by
 intro d
 induction d with
 | zero =>
  intro i k hi hk h1
  obtain ⟨k, rfl⟩ : ∃ x, k = x + 1 := ⟨k - 1, by omega⟩
  rw [weigh_Sound.l0, if_neg (by omega), List.drop_eq_nil_of_le (by omega), List.all_nil, if_pos rfl]
 | succ d ih =>
  intro i k hi hk h1
  obtain ⟨k, rfl⟩ : ∃ x, k = x + 1 := ⟨k - 1, by omega⟩
  have hr := hp _ (getD_mem (show i < ps.length by omega))
  rw [weigh_Sound.l0, if_pos (by omega), if_pos (by omega), if_pos (by omega), if_neg (by omega), show rd ps (i : Int) = ps.getD i 0 from rfl, if_pos hr.1, if_pos hr.2, show rd_T69 t (ps.getD i 0) = t.getD (ps.getD i 0).toNat z69 from rfl, drop_cons (by omega), List.all_cons, wi (i := i) (by omega), ih (i + 1) k (by omega) (by omega) (by omega), nzB]
  by_cases e : (t.getD (ps.getD i 0).toNat z69).f4 < 0
  ·rw [if_pos e, decide_eq_true e, Bool.true_and]
   by_cases e2 : (t.getD (ps.getD i 0).toNat z69).f2 = 0
   ·rw [if_pos e2, show ((t.getD (ps.getD i 0).toNat z69).f2 == 0) = true by simpa using e2]; rfl
   ·rw [if_neg e2, show ((t.getD (ps.getD i 0).toNat z69).f2 == 0) = false by simpa using e2]; rfl
  ·rw [if_neg e, decide_eq_false e]; rfl
theorem sound_0 (t : List S69) (b : Bool) (p : Int) (ps : List Int) (hp : ∀ q ∈ p :: ps, 0 ≤ q ∧ q < t.length) (hl : ps.length ≤ 100000) (k : Nat) (hk : ps.length + 2 < k) :
  weigh_Sound.l0 k t b (p :: ps) ((p :: ps).length : Nat) 0 = some (if (t.getD p.toNat z69).f2 = 1 ∧ (p :: ps).all (nzB t) = true then (b, 0) else (false, 0)) := by
 obtain ⟨k, rfl⟩ : ∃ x, k = x + 1 := ⟨k - 1, by omega⟩
 have hr := hp p List.mem_cons_self
 have h1 := sound_l0 t b (p :: ps) hp (by rw [List.length_cons]; omega) ps.length 1 k (by rw [List.length_cons]; omega) (by omega) (Nat.le_refl _)
 rw [weigh_Sound.l0, if_pos (by rw [List.length_cons]; omega), if_pos (by omega), if_pos (by rw [List.length_cons]; omega), if_pos rfl, show rd (p :: ps) 0 = p from rfl, if_pos hr.1, if_pos hr.2, show rd_T69 t p = t.getD p.toNat z69 from rfl, show wrap64 (0 + 1) = ((1 : Nat) : Int) by rw [Go.IntWalk.wrap64_in _ (by omega)]; rfl, h1, List.all_cons, List.drop_one, List.tail_cons, nzB]
 by_cases e0 : (t.getD p.toNat z69).f2 = 1
 ·rw [if_pos e0]
  by_cases e : (t.getD p.toNat z69).f4 < 0
  ·rw [if_pos e, if_neg (by omega), decide_eq_true e, show ((t.getD p.toNat z69).f2 == 0) = false by rw [e0]; rfl]
   simp only [e0, true_and, Bool.and_false, Bool.not_false, Bool.true_and]
  ·rw [if_neg e, decide_eq_false e]
   simp only [e0, true_and, Bool.false_and, Bool.not_false, Bool.true_and]
 ·rw [if_neg e0, if_neg (fun h => e0 h.1)]
theorem all_nz {t : List S69} (hf : Fm t) {k i : Nat} {X : Tr} (h : mkT t k i = some X) : (plT X).all (nzB t) = true ↔ NZ X := by
 rw [nz_mk hf k i X h, List.all_eq_true]
 constructor
 ·intro h p hp h4 h2
  have := h p hp
  simp only [nzB, Bool.not_eq_true', Bool.and_eq_false_iff, decide_eq_false_iff_not, beq_eq_false_iff_ne] at this
  rcases this with h | h
  ·exact h h4
  ·exact h h2
 ·intro h p hp
  have := h p hp
  simp only [nzB, Bool.not_eq_true', Bool.and_eq_false_iff, decide_eq_false_iff_not, beq_eq_false_iff_ne]
  by_cases h4 : (t.getD p.toNat z69).f4 < 0
  ·exact .inr (this h4)
  ·exact .inl h4
theorem sums_ne : ∀ (T : Tr) (a : Int), Ok T → 0 < (sums T a).length
 | .nil, _, h => h.elim
 | .node n p .nil r, a, _ => by simp [sums]
 | .node n p (.node c d x y) r, a, h => by
  have := sums_ne (.node c d x y) (a + n.f2) (ok_inner h (by simp)).1
  rw [sums, List.length_append]
  omega
theorem sums_nn : ∀ (T : Tr) (a : Int), Ok T → 0 ≤ a → ∀ s ∈ sums T a, 0 ≤ s
 | .nil, _, h, _, _, _ => h.elim
 | .node n p .nil r, a, h, ha, s, hs => by
  simp only [sums, List.mem_singleton] at hs
  have := h.1.1
  omega
 | .node n p (.node c d x y) r, a, h, ha, s, hs => by
  have hk := ok_inner h (by simp)
  have := h.1.1
  rw [sums, List.mem_append] at hs
  rcases hs with hs | hs
  ·exact sums_nn (.node c d x y) _ hk.1 (by omega) s hs
  ·exact sums_nn r _ hk.2 (by omega) s hs
theorem sums_le : ∀ (T : Tr) (a : Int), (sums T a).length ≤ sizeT T
 | .nil, _ => by simp [sums]
 | .node n p .nil r, a => by simp only [sums, sizeT, List.length_singleton]; omega
 | .node n p (.node c d x y) r, a => by
  have h1 := sums_le (.node c d x y) (a + n.f2)
  have h2 := sums_le r (a + n.f2)
  rw [sums, List.length_append]
  simp only [sizeT] at h1 ⊢
  omega
theorem ordered_f {t : List S69} {T : Tr} (hg : Good t T) : ∃ k, table_Ordered.f k t = some (ordT T z140 false, 0) := by
 obtain ⟨kc, hc⟩ := check_good hg
 have hlen := hg.len
 have hpos := hg.pos
 have hall := hg.all
 have hord : ∀ k, t.length < k → table_order.f k t 0 = some (plT T) := fun k hk => order_f_tree hlen (formT_of hg.form) (by omega) hg.tree hg.nodup (by omega) k (by omega)
 refine ⟨max kc (t.length + 1), ?_⟩
 unfold table_Ordered.f
 rw [up_to (fun k => table_Check.mono t k) (Nat.le_max_left _ _) hc, Option.bind_some, if_pos rfl, hord _ (by omega), Option.bind_some, if_pos, ordL_good hg]
 unfold okO
 simp only [Bool.and_eq_true, decide_eq_true_eq]
 refine ⟨hpos, hlen, by omega, ?_, inR_good hg.form⟩
 rw [List.all_eq_true]
 intro p hp
 have := (plT_mem _ _ _ hg.tree).2 p hp
 simp only [Bool.and_eq_true, decide_eq_true_eq]
 exact this
theorem keys_crown {t : List S69} {T X0 : Tr} (hg : Good t T) (hX : Crown T X0) {kr : Nat} (hr : table_Root.f kr t = some (plc X0, 0)) : ∃ k, weigh_keys.f k t = some (plT X0, parP t t.length, 0) := by
 obtain ⟨kp, hp⟩ := parents_good hg
 obtain ⟨c0, e1, e2, e3, e4, e5⟩ := crown_tree hg hX
 have hlen := hg.len
 refine ⟨max kr (max kp (t.length + 1)), ?_⟩
 unfold weigh_keys.f
 rw [up_to (fun k => table_Root.mono t k) (by omega) hr, Option.bind_some, if_neg (by simp), if_pos rfl, up_to (fun k => table_Parents.mono t k) (by omega) hp, Option.bind_some]
 have hq := plF_mk (i := (c0 : Int)) (by omega) e3 (plF.eq_1 t t.length)
 rw [List.append_nil] at hq
 have := keys_tree hlen hg.form (parP t t.length) t.length (max kr (max kp (t.length + 1))) [] [(c0 : Int)] (plT X0) hq (by omega) (by simp; omega)
 rw [List.nil_append, List.reverse_singleton] at this
 rw [e1, this]
theorem sound_crown {t : List S69} {T X0 : Tr} (hg : Good t T) (hX : Crown T X0) {kr : Nat} (hr : table_Root.f kr t = some (plc X0, 0)) : ∃ k b, weigh_Sound.f k t = some (b, 0) ∧ (b = true ↔ wt X0 = 1 ∧ ∃ c, 0 ≤ c ∧ Al X0 0 c) := by
 obtain ⟨kk, hk⟩ := keys_crown hg hX hr
 obtain ⟨c0, e1, e2, e3, e4, e5⟩ := crown_tree hg hX
 have hlen := hg.len
 have hok := ok_mkT hg.form e3
 have hsz := size_pl X0
 have hsl := sums_le X0 0
 have hsp := sums_ne X0 0 hok
 have hsum := sumsL_root hg.form (good_uq hg) _ _ _ e3 e4 (by omega)
 have hS : weigh_Sums.f kk t = some (sums X0 0, 0) := by
  unfold weigh_Sums.f
  rw [hk, Option.bind_some]
  dsimp only
  rw [if_pos rfl, if_pos (by omega), hsum, Option.bind_some]
 have hE := even_l0 (sums X0 0) (by omega) hsp (sums X0 0).length 0 (max kk (t.length + 5)) (by omega) (by omega)
 rw [List.drop_zero, show ((0 : Nat) : Int) = 0 from rfl] at hE
 have hW : wt X0 = (t.getD c0 z69).f2 := by
  cases X0 with
  | nil => exact absurd rfl (mkT_ne e3)
  | node n p l r => obtain ⟨_, h2, _, _⟩ := mkT_node hg.form e3; rw [wt, h2]
 obtain ⟨ps, hps⟩ := plT_head e3
 have hmem := (plT_mem _ _ _ e3).2
 refine ⟨max kk (t.length + 5), decide ((t.getD c0 z69).f2 = 1 ∧ (plT X0).all (nzB t) = true) && (sums X0 0).all (fun s => s == rd (sums X0 0) 0), ?_, ?_⟩
 ·have hEv : ∃ v, weigh_Even.f (max kk (t.length + 5)) t = some (v, (sums X0 0).all (fun s => s == rd (sums X0 0) 0), 0) := by
   unfold weigh_Even.f
   rw [up_to (fun k => weigh_Sums.mono t k) (Nat.le_max_left _ _) hS, Option.bind_some]
   dsimp only
   rw [if_pos rfl, if_neg (by omega), hE]
   split
   ·rename_i hb; rw [hb]; exact ⟨_, rfl⟩
   ·rename_i hb; rw [Bool.not_eq_true] at hb; rw [hb]; exact ⟨_, rfl⟩
  obtain ⟨v, hv⟩ := hEv
  have hq := fun b => sound_0 t b (c0 : Int) ps (by rw [← hps]; exact hmem) (by rw [hps, List.length_cons] at e5; omega) (max kk (t.length + 5)) (by rw [hps, List.length_cons] at e5; omega)
  rw [Int.toNat_natCast, ← hps] at hq
  unfold weigh_Sound.f
  rw [hv, Option.bind_some]
  dsimp only
  rw [if_pos rfl, up_to (fun k => weigh_keys.mono t k) (Nat.le_max_left _ _) hk, Option.bind_some]
  dsimp only
  rw [hq]
  split
  ·rename_i h; rw [decide_eq_true h, Bool.true_and]
  ·rename_i h; rw [decide_eq_false h, Bool.false_and]
 ·rw [Bool.and_eq_true, decide_eq_true_eq, all_nz hg.form e3, hW, List.all_eq_true]
  simp only [beq_iff_eq, al_sums]
  have h0 := sums_nn X0 0 hok (Int.le_refl _)
  have hm : rd (sums X0 0) 0 ∈ sums X0 0 := getD_mem hsp
  constructor
  ·rintro ⟨⟨h1, h2⟩, h3⟩
   exact ⟨h1, _, h0 _ hm, h2, h3⟩
  ·rintro ⟨h1, c, _, h2, h3⟩
   exact ⟨⟨h1, h2⟩, fun s hs => (h3 s hs).trans (h3 _ hm).symm⟩
theorem checks19 (t : List S69) : ∃ k v, seq_Check.f k t = some v ∧ larchref19_Check.f k t = some v ∧ (v = 0 → ∃ T, Good t T ∧ ((crP t (t.getD 0 z69) ∧ t.getD (t.getD 0 z69).f4.toNat z69 = sn34 ∧ ∃ k, weigh_keys.f k t = some ([], [], 0)) ∨ ∃ X0 c, Crown T X0 ∧ wt X0 = 1 ∧ Al X0 0 c ∧ ∃ k, weigh_keys.f k t = some (plT X0, parP t t.length, 0))) := by
 obtain ⟨kc, v, c1, c2, c3⟩ := checks_alike t
 by_cases hv : v = 0
 rotate_left
 ·refine ⟨kc, v, ?_, ?_, fun h => absurd h hv⟩
  ·unfold seq_Check.f; rw [c1, Option.bind_some, if_neg hv]
  ·unfold larchref19_Check.f; rw [c2, Option.bind_some, if_neg hv]
 subst hv
 obtain ⟨T, hg⟩ := c3 rfl
 obtain ⟨kr, r, c, h1, h2, h3⟩ := crowns_alike hg
 obtain ⟨ko, ho⟩ := ordered_f hg
 have hio := inO_good hg
 have hJ : ∀ (k : Nat) (b : Bool), ko ≤ k → seq_Check.j0 (k + 1) t b = some (if b = true then 3 else if ordT T z140 false = true then 0 else 3) := fun k b hk => by
  rw [seq_Check.j0]
  cases b with
  | true => rfl
  | false =>
   rw [if_neg (by simp), up_to (fun k => table_Ordered.mono t k) hk ho, Option.bind_some]
   cases ordT T z140 false <;> rfl
 obtain ⟨r1, r2⟩ := r
 obtain ⟨cr, cb⟩ := c
 rcases h3 with ⟨e1, e2⟩ | ⟨e1, e2, e3, e4⟩ | ⟨X0, hX, e1, e2⟩
 ·dsimp only at e1 e2
  subst e1 e2
  refine ⟨max kc (max kr ko) + 1, 3, ?_, ?_, fun h => absurd h (by decide)⟩
  ·have hk : weigh_keys.f (max kc (max kr ko) + 1) t = some ([], [], 3) := by
    unfold weigh_keys.f
    rw [up_to (fun k => table_Root.mono t k) (by omega) h1, Option.bind_some, if_neg (by simp), if_neg (by simp)]
   unfold seq_Check.f weigh_Sound.f weigh_Even.f weigh_Sums.f
   rw [up_to (fun k => table_Check.mono t k) (by omega) c1, Option.bind_some, if_pos rfl, hk, Option.bind_some, if_neg (by simp), Option.bind_some, if_neg (by simp), Option.bind_some, if_neg (by simp), Option.bind_some, if_neg (by simp), hJ _ _ (by omega)]
   rfl
  ·unfold larchref19_Check.f
   rw [up_to (fun k => larchref16_Check.mono t k) (by omega) c2, Option.bind_some, if_pos rfl, up_to (fun k => larchref16_Crown.mono t k) (by omega) h2, Option.bind_some, if_neg (by simp)]
 ·injection e1 with e1 e1'
  dsimp only at e2
  subst e1 e1' e2
  have hk : ∀ k, kr ≤ k → weigh_keys.f k t = some ([], [], 0) := fun k hk => by
   unfold weigh_keys.f
   rw [up_to (fun k => table_Root.mono t k) hk h1, Option.bind_some, if_pos rfl]
  refine ⟨max kc (max kr ko) + 1, if ordT T z140 false = true then 0 else 3, ?_, ?_, fun h => ⟨T, hg, .inl ⟨e3, e4, kr, hk kr (Nat.le_refl _)⟩⟩⟩
  ·unfold seq_Check.f weigh_Sound.f weigh_Even.f weigh_Sums.f
   rw [up_to (fun k => table_Check.mono t k) (by omega) c1, Option.bind_some, if_pos rfl, hk _ (by omega), Option.bind_some, if_pos rfl, if_pos (by simp), sumsL, Option.bind_some, Option.bind_some, if_pos rfl, if_pos (by simp), Option.bind_some, if_pos rfl, Option.bind_some, weigh_Sound.l0, if_neg (by simp), Option.bind_some, if_pos rfl, hJ _ _ (by omega)]
   rfl
  ·unfold larchref19_Check.f
   rw [up_to (fun k => larchref16_Check.mono t k) (by omega) c2, Option.bind_some, if_pos rfl, up_to (fun k => larchref16_Crown.mono t k) (by omega) h2, Option.bind_some, if_pos rfl, hio, Option.bind_some, if_pos rfl]
   cases ordT T z140 false <;> rfl
 ·injection e1 with e1 e1'
  subst e1 e1'
  rw [e2] at h1
  obtain ⟨ks, b, hS, hb⟩ := sound_crown hg hX h1
  obtain ⟨kk, hk⟩ := keys_crown hg hX h1
  obtain ⟨c0, g1, g2, g3, g4, g5⟩ := crown_tree hg hX
  have hlen := hg.len
  have hok := ok_mkT hg.form g3
  have hsz := size_pl X0
  have hW : wt X0 = (t.getD c0 z69).f2 := by
   cases X0 with
   | nil => exact absurd rfl (mkT_ne g3)
   | node n p l r => obtain ⟨_, h2, _, _⟩ := mkT_node hg.form g3; rw [wt, h2]
  obtain ⟨kp, hp⟩ := part_tree (a := (c0 : Int)) hlen hg.form (by omega) g3 g4 (by omega)
  have hgu := flat_good hok (by omega : sizeT X0 ≤ 100000)
  obtain ⟨b', hb1, hb2⟩ := rsums_good hgu
  simp only [al_ren hok] at hb2
  have hul := flT_len hok 0
  have hsp := size_pos hok
  have hE : (b = true ↔ (t.getD c0 z69).f2 = 1 ∧ b' = true) := by rw [hb, hb2, hW]
  refine ⟨max kc (max kr (max ko (max ks kp))) + 1, if b = true then (if ordT T z140 false = true then 0 else 3) else 3, ?_, ?_, fun h => ⟨T, hg, .inr ?_⟩⟩
  ·unfold seq_Check.f
   rw [up_to (fun k => table_Check.mono t k) (by omega) c1, Option.bind_some, if_pos rfl, up_to (fun k => weigh_Sound.mono t k) (by omega) hS, Option.bind_some, if_pos rfl, hJ _ _ (by omega)]
   cases b <;> rfl
  ·unfold larchref19_Check.f
   rw [up_to (fun k => larchref16_Check.mono t k) (by omega) c2, Option.bind_some, if_pos rfl, up_to (fun k => larchref16_Crown.mono t k) (by omega) h2, Option.bind_some, if_pos rfl, hio, Option.bind_some, g1, Int.toNat_natCast, up_to (fun k => larchref16_Part.mono t c0 k) (by omega) hp]
   cases ho' : ordT T z140 false with
   | false => rw [if_neg (by simp)]; cases b <;> rfl
   | true =>
    rw [if_pos rfl, if_neg (by omega), if_pos (by omega)]
    by_cases hw : (t.getD c0 z69).f2 = 1
    ·rw [if_pos hw, Option.bind_some, if_pos ⟨by omega, by omega, inR_good hgu.form⟩, hb1, Option.bind_some]
     cases b' with
     | true => rw [hE.2 ⟨hw, rfl⟩]; rfl
     | false =>
      cases b with
      | true => exact absurd (hE.1 rfl).2 (by simp)
      | false => rfl
    ·rw [if_neg hw]
     cases b with
     | true => exact absurd (hE.1 rfl).1 hw
     | false => rfl
  ·cases b with
   | false => rw [if_neg (by simp)] at h; exact absurd h (by decide)
   | true =>
    obtain ⟨q1, c, _, q2⟩ := hb.1 rfl
    exact ⟨X0, c, hX, q1, q2, kk, hk⟩
theorem pathI_head {t : List S69} {key : Int} : ∀ {k i : Nat} {l : List Nat}, pathI t key k i = some l → ∃ q, l = i :: q
 | 0, _, _, h => by cases h
 | k + 1, i, l, h => by
  rw [pathI] at h
  by_cases q1 : i < t.length
  ·rw [if_pos q1] at h
   by_cases q2 : (t.getD i z69).f4 = -1
   ·rw [if_pos q2] at h; injection h with h; exact ⟨[], h.symm⟩
   ·rw [if_neg q2] at h
    by_cases q3 : 0 ≤ (if leftB (t.getD i z69) key = true then (t.getD i z69).f4 else (t.getD i z69).f5)
    ·rw [if_pos q3] at h
     obtain ⟨l', _, h⟩ := Option.bind_eq_some_iff.mp h
     injection h with h; exact ⟨l', h.symm⟩
    ·rw [if_neg q3] at h; cases h
  ·rw [if_neg q1] at h; cases h
theorem path_l0 {t : List S69} (hf : Fm t) (key : Int) : ∀ (k i : Nat) (l : List Nat) (out : List Int), pathI t key k i = some l → out.length + l.length ≤ 1000000 → table_path.l0 k t key i out = some (out ++ l.tail.map (fun (x : Nat) => (x : Int)))
 | 0, _, _, _, h, _ => by cases h
 | k + 1, i, l, out, h, ho => by
  rw [pathI] at h
  by_cases hi : i < t.length
  rotate_left
  ·rw [if_neg hi] at h; cases h
  rw [if_pos hi] at h
  have hfm := (fmN_iff _ _).1 (hf _ hi)
  rw [table_path.l0, if_pos (by omega), if_pos (by omega), show rd_T69 t (i : Int) = t.getD i z69 from rfl, leaf_f, Option.bind_some]
  by_cases hlf : (t.getD i z69).f4 = -1
  ·rw [if_pos hlf] at h
   injection h with h
   subst h
   rw [if_pos (by simp only [decide_eq_true_eq]; omega), List.tail_cons, List.map_nil, List.append_nil]
  ·rw [if_neg hlf] at h
   rw [if_neg (by simp only [decide_eq_true_eq]; omega)]
   have hg : ∀ n : Int, 0 ≤ n → (if 0 ≤ n then (pathI t key k n.toNat).bind fun l => some (i :: l) else none) = some l → (if out.length < 17592186044416 then table_path.l0 k t key n (out ++ [n]) else none) = some (out ++ l.tail.map (fun (x : Nat) => (x : Int))) := by
    intro n hn h
    rw [if_pos hn] at h
    obtain ⟨l', h1, h2⟩ := Option.bind_eq_some_iff.1 h
    injection h2 with h2
    subst h2
    rw [List.length_cons] at ho
    have := path_l0 hf key k n.toNat l' (out ++ [n]) h1 (by rw [List.length_append, List.length_singleton]; omega)
    rw [Int.toNat_of_nonneg hn] at this
    obtain ⟨q, hq⟩ := pathI_head h1
    rw [if_pos (by omega), this, hq]
    simp only [List.tail_cons, List.map_cons, List.append_assoc, List.singleton_append, Int.toNat_of_nonneg hn]
   by_cases h1 : (t.getD i z69).f1 = 1
   ·rw [if_pos h1]
    have hb : leftB (t.getD i z69) key = true := by rw [leftB, h1]; rfl
    simp only [if_pos hb] at h
    exact hg _ (by omega) h
   ·rw [if_neg h1]
    by_cases h2 : key < (t.getD i z69).f0
    ·rw [if_pos h2]
     have hb : leftB (t.getD i z69) key = true := by rw [leftB, decide_eq_true h2, Bool.or_true]
     simp only [if_pos hb] at h
     exact hg _ (by omega) h
    ·rw [if_neg h2]
     have hb : ¬ leftB (t.getD i z69) key = true := by rw [leftB, show ((t.getD i z69).f1 == 1) = false by rw [beq_eq_false_iff_ne]; exact h1, decide_eq_false h2]; simp
     simp only [if_neg hb] at h
     exact hg _ (by omega) h
theorem getD_cast (l : List Nat) (i : Nat) : (l.map (fun (x : Nat) => (x : Int))).getD i 0 = ((l.getD i 0 : Nat) : Int) := by
 rw [List.getD, List.getElem?_map, List.getD]
 cases l[i]? <;> rfl
theorem search_f {t : List S69} {T : Tr} (hg : Good t T) (key : Int) {l : List Nat} (h : pathI t key t.length 0 = some l) (hl : l.length ≤ 100000) (h0 : l.getD 0 0 = 0) : ∃ k, table_Search.f k t key = some (l.map (fun (x : Nat) => (x : Int)), 0) := by
 obtain ⟨kc, hc⟩ := check_good hg
 have hp := path_l0 hg.form key _ _ _ [0] h (by simp; omega)
 have hlp := pathI_len h
 refine ⟨max kc t.length, ?_⟩
 unfold table_Search.f table_path.f
 have hm := fun k => table_path.mono_l k t key 0 [0]
 rw [up_to (fun k => table_Check.mono t k) (Nat.le_max_left _ _) hc, Option.bind_some, if_pos rfl, up_to hm (Nat.le_max_right _ _) hp, Option.bind_some]
 cases l with
 | nil => simp at hlp
 | cons a l =>
  have : a = 0 := h0
  subst this
  rfl
theorem parP_lt {t : List S69} (hp : 0 < t.length) : ∀ n, n ≤ t.length → ∀ x ∈ parP t n, x < (t.length : Int)
 | 0, _, x, hx => by
  rw [parP] at hx
  rcases List.mem_or_eq_of_mem_set hx with h | h
  ·have := List.eq_of_mem_replicate h; omega
  ·omega
 | n + 1, hn, x, hx => by
  rw [parP] at hx
  split at hx
  ·exact parP_lt hp n (by omega) x hx
  ·rcases List.mem_or_eq_of_mem_set hx with h | h
   ·rcases List.mem_or_eq_of_mem_set h with h | h
    ·exact parP_lt hp n (by omega) x h
    ·omega
   ·omega
theorem par_at {t : List S69} (hp : 0 < t.length) (i : Nat) : (parP t t.length).getD i 0 < (t.length : Int) := by
 by_cases h : i < (parP t t.length).length
 ·rw [List.getD, List.getElem?_eq_getElem h, Option.getD_some]
  exact parP_lt hp _ (Nat.le_refl _) _ (List.getElem_mem _)
 ·rw [List.getD, List.getElem?_eq_none (by omega)]
  simp only [Option.getD_none]
  omega
theorem reds_f {t : List S69} {X0 : Tr} {c0 : Nat} (hp : 0 < t.length) (hlen : t.length ≤ 100000) {ps : List Int} (e : plT X0 = (c0 : Int) :: ps) (hmem : ∀ p ∈ plT X0, 0 ≤ p ∧ p < t.length) (hl : (plT X0).length ≤ t.length) {k : Nat} (hk : weigh_keys.f k t = some (plT X0, parP t t.length, 0)) :
  weigh_Reds.f k t = some (ps.filter (fun p => redB t p ((parP t t.length).getD p.toNat 0)), 0) ∧ weigh_Overs.f k t = some ((plT X0).filter (fun p => overB t p 0), 0) := by
 have hc : ∀ p ∈ plT X0, 0 ≤ p ∧ p < t.length ∧ p < (parP t t.length).length ∧ (parP t t.length).getD p.toNat 0 < t.length := fun p hp' => by
  have := hmem p hp'
  exact ⟨this.1, this.2, by rw [parP_len]; exact this.2, par_at hp _⟩
 rw [e] at hc
 have h0 := hc _ List.mem_cons_self
 have hi := fun q hq => hc q (List.mem_cons_of_mem _ hq)
 unfold weigh_Reds.f weigh_Overs.f pickF
 rw [hk, Option.bind_some, Option.bind_some]
 dsimp only
 refine ⟨?_, ?_⟩
 ·rw [if_pos rfl, if_pos (by omega), e, pickL, if_pos h0, if_pos rfl, pickL_eq _ _ _ (by omega) hi, Option.bind_some, show redB t (c0 : Int) (-1) = false from rfl, if_neg (by simp), List.nil_append]
 ·rw [if_pos rfl, if_pos (by omega), e, pickL, if_pos h0, if_pos rfl, pickL_eq _ _ _ (by omega) hi, Option.bind_some, List.filter_cons]
  have e1 : ∀ q : Int, overB t (c0 : Int) q = overB t (c0 : Int) 0 := fun q => rfl
  have e2 : ps.filter (fun p => overB t p ((parP t t.length).getD p.toNat 0)) = ps.filter (fun p => overB t p 0) := rfl
  rw [e1, e2]
  split <;> simp
theorem red_alike {t : List S69} (hf : Fm t) (hu : Uq t) (hlen : t.length ≤ 100000) (m : Bool) {u e f v : Nat} (he : e < t.length) (hff : f < t.length) (h1 : childOf t e f) (h2 : childOf t f v) : ∃ kd mm, rdI t u e f = some (u, e, kd, mm) ∧ seq_look_red.f t (parP t t.length) m f = some ((e : Int), kd, mm) := by
 have hp := par_child hf hu t.length (Nat.le_refl _) e f he h1
 have k1 := kids_of hf he h1.1
 have k2 := kids_of hf hff h2.1
 refine ⟨redK t (decide ((t.getD e z69).f5.toNat = f)) (if decide ((t.getD e z69).f5.toNat = f) then (t.getD e z69).f4.toNat else (t.getD e z69).f5.toNat) (if decide ((t.getD e z69).f5.toNat = f) then (t.getD f z69).f5.toNat else (t.getD f z69).f4.toNat),
  redM t (decide ((t.getD e z69).f5.toNat = f)) (if decide ((t.getD e z69).f5.toNat = f) then (t.getD e z69).f4.toNat else (t.getD e z69).f5.toNat), ?_, ?_⟩
 ·unfold rdI
  rw [k1, k2, Option.bind_some, Option.bind_some]
 ·unfold seq_look_red.f
  rw [if_pos ⟨by omega, by rw [parP_len]; omega, hlen, by rw [Int.toNat_natCast, hp]; omega⟩, Int.toNat_natCast, hp, Int.toNat_natCast, k1, k2, Option.bind_some, Option.bind_some, if_pos h1.2]
theorem step_alike {t : List S69} (hf : Fm t) (hu : Uq t) (hlen : t.length ≤ 100000) {l : List Nat} (hw : Way t l) {j : Nat} (hj2 : 2 ≤ j) (hjl : j < l.length) (hb : badB (t.getD (l.getD j 0) z69) (t.getD (l.getD (j - 1) 0) z69) = true)
  (hinf : (t.getD (l.getD 1 0) z69).f1 = 1) (hw1 : (t.getD (l.getD 1 0) z69).f2 = 1) {c : Int} (hA : 3 ≤ j → ∃ K Y a, mkT t K (l.getD (j - 1) 0) = some Y ∧ Al Y a c) (hR : (t.getD (l.getD 2 0) z69).f2 = 1) :
  ∃ u x kd m, stI t l j = some (u, x, kd, m) ∧ nxI t (parP t t.length) (l.getD j 0) (l.getD (j - 1) 0) = some ((x : Int), kd, m, true) ∧ ∃ i, i < l.length ∧ x = l.getD i 0 := by
 have hc1 := hw.2 (j - 1) (by omega)
 rw [show j - 1 + 1 = j by omega] at hc1
 have hfl := hw.1 (j - 1) (by omega)
 have hvl := hw.1 j hjl
 have hk := kids_of hf hfl hc1.1
 have hff := (fmN_iff _ _).1 (hf _ hfl)
 have hfv := (fmN_iff _ _).1 (hf _ hvl)
 have h0 := hc1.1
 have hj3 : ¬ 1 < (t.getD (l.getD j 0) z69).f2 ∨ (t.getD (l.getD (j - 1) 0) z69).f2 = 0 → 3 ≤ j := by
  intro h
  by_cases e : j = 2
  ·subst e
   exfalso
   simp only [badB, Bool.and_eq_true, Bool.or_eq_true, decide_eq_true_eq, beq_iff_eq] at hb
   rw [show 2 - 1 = 1 from rfl] at hb h
   omega
  ·omega
 have hred : 3 ≤ j → ∀ m, ∃ kd mm, rdI t (l.getD (j - 3) 0) (l.getD (j - 2) 0) (l.getD (j - 1) 0) = some (l.getD (j - 3) 0, l.getD (j - 2) 0, kd, mm) ∧ seq_look_red.f t (parP t t.length) m (l.getD (j - 1) 0 : Nat) = some (((l.getD (j - 2) 0 : Nat) : Int), kd, mm) := by
  intro h3 m
  have hc2 := hw.2 (j - 2) (by omega)
  rw [show j - 2 + 1 = j - 1 by omega] at hc2
  exact red_alike hf hu hlen m (hw.1 (j - 2) (by omega)) hfl hc2 hc1
 have hone : (t.getD (l.getD (j - 1) 0) z69).f4.toNat = l.getD j 0 ∨ (t.getD (l.getD (j - 1) 0) z69).f5.toNat = l.getD j 0 := hc1.2
 unfold nxI stI
 rw [hk, Option.bind_some, Option.bind_some, if_pos hone]
 dsimp only
 obtain ⟨r, hr⟩ : ∃ r, (if decide ((t.getD (l.getD (j - 1) 0) z69).f5.toNat = l.getD j 0) = true then (t.getD (l.getD (j - 1) 0) z69).f4.toNat else (t.getD (l.getD (j - 1) 0) z69).f5.toNat) = r := ⟨_, rfl⟩
 obtain ⟨m, hm⟩ : ∃ m, decide ((t.getD (l.getD (j - 1) 0) z69).f5.toNat = l.getD j 0) = m := ⟨_, rfl⟩
 rw [hr, hm]
 by_cases q0 : (t.getD (l.getD j 0) z69).f2 = 0
 ·obtain ⟨kd, mm, e1, e2⟩ := hred (hj3 (.inl (by omega))) m
  have h3 := hj3 (.inl (by omega))
  exact ⟨_, _, kd, mm, by rw [if_pos q0, if_pos h3, e1], by rw [if_pos (.inl q0), e2]; rfl, j - 2, by omega, rfl⟩
 have hv1 : 1 < (t.getD (l.getD j 0) z69).f2 := by
  simp only [badB, Bool.and_eq_true, Bool.or_eq_true, decide_eq_true_eq, beq_iff_eq] at hb
  omega
 rw [if_neg q0]
 by_cases q1 : (t.getD r z69).f2 = 0 ∧ (t.getD (l.getD (j - 1) 0) z69).f2 = 0
 ·have h3 := hj3 (.inr q1.2)
  obtain ⟨kd, mm, e1, e2⟩ := hred h3 m
  exact ⟨_, _, kd, mm, by rw [if_pos q1, if_pos h3, e1], by rw [if_pos (.inr q1), e2]; rfl, j - 2, by omega, rfl⟩
 rw [if_neg q1, if_neg (by rintro (h | h); exact q0 h; exact q1 h)]
 have hj3' : 3 ≤ j := by
  by_cases e : j = 2
  ·subst e; omega
  ·omega
 obtain ⟨K, Y, a, hY, hAl⟩ := hA hj3'
 have hvr : (l.getD j 0 = (t.getD (l.getD (j - 1) 0) z69).f4.toNat ∧ r = (t.getD (l.getD (j - 1) 0) z69).f5.toNat) ∨ (l.getD j 0 = (t.getD (l.getD (j - 1) 0) z69).f5.toNat ∧ r = (t.getD (l.getD (j - 1) 0) z69).f4.toNat) := by
  by_cases e : (t.getD (l.getD (j - 1) 0) z69).f5.toNat = l.getD j 0
  ·rw [if_pos (by simpa using e)] at hr
   exact .inr ⟨e.symm, hr.symm⟩
  ·rw [if_neg (by simpa using e)] at hr
   rcases hone with h | h
   ·exact .inl ⟨h.symm, hr.symm⟩
   ·exact absurd h e
 have hrl : r < t.length := by rcases hvr with ⟨_, h⟩ | ⟨_, h⟩ <;> rw [h] <;> omega
 have hfr := (fmN_iff _ _).1 (hf _ hrl)
 by_cases q2 : 1 < (t.getD r z69).f2
 ·rw [if_neg (by omega), if_neg (by omega)]
  have hsd : ∃ y, sdI t m r = some y := by
   unfold sdI
   by_cases h4 : (t.getD r z69).f4 = -1
   ·exact ⟨_, by rw [if_pos ⟨hrl, h4⟩]⟩
   ·rw [if_neg (fun h => h4 h.2), kids_of hf hrl (by omega), Option.bind_some]
    exact ⟨_, rfl⟩
  obtain ⟨y, hy⟩ := hsd
  rw [hy, Option.bind_some]
  unfold swI
  rw [if_pos q2, Option.bind_some]
  exact ⟨_, _, _, _, rfl, rfl, j - 1, by omega, rfl⟩
 obtain ⟨K', Z, hZ, hAZ, hr4, hcv⟩ := sib_inner hf hY hAl h0 hvr (by omega)
 have hkr := kids_of hf hrl hr4
 have hkf' : (if m = true then (t.getD (l.getD (j - 1) 0) z69).f4.toNat else (t.getD (l.getD (j - 1) 0) z69).f5.toNat) = r := by rw [← hr, hm]
 obtain ⟨q, hq⟩ : ∃ q, (if m = true then (t.getD r z69).f5.toNat else (t.getD r z69).f4.toNat) = q := ⟨_, rfl⟩
 obtain ⟨p, hp⟩ : ∃ p, (if m = true then (t.getD r z69).f4.toNat else (t.getD r z69).f5.toNat) = p := ⟨_, rfl⟩
 have hsd : sdI t m r = some (some q, some p) := by
  unfold sdI
  rw [if_neg (fun h => by omega), hkr, Option.bind_some, hq, hp]
 have hql : q < t.length := by rw [← hq]; split <;> omega
 have hfq := (fmN_iff _ _).1 (hf _ hql)
 have hE : seq_look_even.f t (parP t t.length) m (l.getD (j - 1) 0 : Nat) = some (evK t p q, m) := by
  unfold seq_look_even.f
  rw [if_pos (by omega), Int.toNat_natCast, hk, Option.bind_some]
  dsimp only
  rw [hkf', hkr, Option.bind_some]
  dsimp only
  rw [hq, hp]
 have hL0 : (t.getD q z69).f2 = 0 ∨ 1 < (t.getD q z69).f2 → seq_look_light.f t (parP t t.length) m (l.getD (j - 1) 0 : Nat) = some (ltK t q p 0 0, ltM t m q) := fun hh => by
  unfold seq_look_light.f
  rw [if_pos (by omega), Int.toNat_natCast, hk, Option.bind_some]
  dsimp only
  rw [hkf', hkr, Option.bind_some]
  dsimp only
  rw [hq, hp, if_pos hh]
 have hL1 : ∀ x y : Nat, ¬ ((t.getD q z69).f2 = 0 ∨ 1 < (t.getD q z69).f2) → kids t q = some (x, y) → seq_look_light.f t (parP t t.length) m (l.getD (j - 1) 0 : Nat) = some (ltK t q p (if m then x else y) (if m then y else x), ltM t m q) := fun x y hh hx => by
  unfold seq_look_light.f
  rw [if_pos (by omega), Int.toNat_natCast, hk, Option.bind_some]
  dsimp only
  rw [hkf', hkr, Option.bind_some]
  dsimp only
  rw [hq, hp, if_neg hh, hx, Option.bind_some]
 rw [hsd, Option.bind_some]
 dsimp only
 unfold swI
 rw [if_neg q2]
 dsimp only
 by_cases q3 : (t.getD r z69).f2 = 1
 ·refine ⟨l.getD (j - 2) 0, l.getD (j - 1) 0, evK t p q, m, ?_, by rw [if_neg (by omega), if_pos q3, hE]; rfl, j - 1, by omega, rfl⟩
  simp only [wO, q3, true_and, evK]
  split
  ·rfl
  ·split <;> rfl
 have q4 : (t.getD r z69).f2 = 0 := by omega
 rw [if_pos q4]
 by_cases q5 : (t.getD q z69).f2 = 0
 ·refine ⟨l.getD (j - 2) 0, l.getD (j - 1) 0, ltK t q p 0 0, ltM t m q, ?_, by rw [hL0 (.inl q5)]; rfl, j - 1, by omega, rfl⟩
  rw [if_neg (fun h => q3 h.1), if_neg (fun h => q3 h.1), if_neg q3]
  simp only [wO, ltK, ltM, if_pos q5, q5, true_and, if_true]
  split <;> rfl
 ·by_cases q6 : 1 < (t.getD q z69).f2
  ·refine ⟨l.getD (j - 2) 0, l.getD (j - 1) 0, ltK t q p 0 0, ltM t m q, ?_, by rw [hL0 (.inr q6)]; rfl, j - 1, by omega, rfl⟩
   rw [if_neg (fun h => q3 h.1), if_neg (fun h => q3 h.1), if_neg q3]
   rw [ltK, ltM, if_neg q5, if_neg q5, if_pos q6]
   change Option.bind (if (t.getD q z69).f2 = 0 ∧ (t.getD p z69).f2 = 0 then _ else if (t.getD q z69).f2 = 0 then _ else if 1 < (t.getD q z69).f2 then _ else _) _ = _
   rw [if_neg (show ¬ ((t.getD q z69).f2 = 0 ∧ (t.getD p z69).f2 = 0) from fun h => q5 h.1), if_neg q5, if_pos q6]
   rfl
  ·obtain ⟨k', l1, r1, _, _, hl, hr', rfl⟩ := mkT_inner hf hZ (by omega)
   rw [al_inner _ _ _ _ _ (mkT_ne hl)] at hAZ
   have hq4 : 0 ≤ (t.getD q z69).f4 := by
    have hgen : ∀ (Q : Tr), mkT t k' q = some Q → Al Q (a + (t.getD (l.getD (j - 1) 0) z69).f2 + (t.getD r z69).f2) c → 0 ≤ (t.getD q z69).f4 := by
     intro Q hQ hAQ
     by_cases hlf : (t.getD q z69).f4 = -1 ∧ (t.getD q z69).f5 = -1
     ·obtain ⟨_, rfl⟩ := mkT_leaf hf hQ hlf
      rw [Al] at hAQ
      omega
     ·omega
    cases m with
    | true => rw [if_pos rfl] at hq; subst hq; exact hgen r1 hr' hAZ.2
    | false => rw [if_neg (by simp)] at hq; subst hq; exact hgen l1 hl hAZ.1
   have hkq := kids_of hf hql hq4
   have hsd2 : sdI t m q = some (some (if m then (t.getD q z69).f5.toNat else (t.getD q z69).f4.toNat), some (if m then (t.getD q z69).f4.toNat else (t.getD q z69).f5.toNat)) := by
    unfold sdI
    rw [if_neg (fun h => by omega), hkq, Option.bind_some]
   refine ⟨l.getD (j - 2) 0, l.getD (j - 1) 0, ltK t q p (if m then (t.getD q z69).f4.toNat else (t.getD q z69).f5.toNat) (if m then (t.getD q z69).f5.toNat else (t.getD q z69).f4.toNat), ltM t m q, ?_, by rw [hL1 _ _ (by rintro (h | h); exact q5 h; exact q6 h) hkq]; rfl, j - 1, by omega, rfl⟩
   rw [if_neg (fun h => q3 h.1), if_neg (fun h => q3 h.1), if_neg q3]
   rw [ltK, ltM, if_neg q5, if_neg q5, if_neg q6]
   change Option.bind (if (t.getD q z69).f2 = 0 ∧ (t.getD p z69).f2 = 0 then _ else if (t.getD q z69).f2 = 0 then _ else if 1 < (t.getD q z69).f2 then _ else _) _ = _
   rw [if_neg (show ¬ ((t.getD q z69).f2 = 0 ∧ (t.getD p z69).f2 = 0) from fun h => q5 h.1), if_neg q5, if_neg q6, hsd2, Option.bind_some, Option.bind_some]
   rfl
abbrev badI (t : List S69) (l : List Nat) (j : Nat) : Bool := badB (t.getD (l.getD j 0) z69) (t.getD (l.getD (j - 1) 0) z69)
theorem ch_run {t : List S69} {l : List Nat} (hw : Way t l) (hst : ∀ j, 2 ≤ j → j < l.length → badI t l j = true → ∃ u x kd m, stI t l j = some (u, x, kd, m) ∧ nxI t (parP t t.length) (l.getD j 0) (l.getD (j - 1) 0) = some ((x : Int), kd, m, true) ∧ ∃ i, i < l.length ∧ x = l.getD i 0) :
  ∀ (n i : Nat), l.length < n + i → i ≤ l.length → 2 ≤ i → (∀ j, 2 ≤ j → j < i → badI t l j = false) → ∃ d, chI t l n i = some d ∧ ((d = none ∧ ∀ j, 2 ≤ j → j < l.length → badI t l j = false) ∨
   ∃ j u x kd m, d = some (u, x, kd, m) ∧ 2 ≤ j ∧ j < l.length ∧ badI t l j = true ∧ (∀ j', 2 ≤ j' → j' < j → badI t l j' = false) ∧ nxI t (parP t t.length) (l.getD j 0) (l.getD (j - 1) 0) = some ((x : Int), kd, m, true) ∧ ∃ i, i < l.length ∧ x = l.getD i 0)
 | 0, i, h, hil, _, _ => absurd h (by omega)
 | n + 1, i, h, hil, h2, hp => by
  rw [chI]
  by_cases hi : i < l.length
  rotate_left
  ·rw [if_neg hi]
   exact ⟨none, rfl, .inl ⟨rfl, fun j hj hl => hp j hj (by omega)⟩⟩
  rw [if_pos hi, if_pos ⟨hw.1 i hi, hw.1 (i - 1) (by omega), h2⟩]
  cases hb : badI t l i with
  | true =>
   obtain ⟨u, x, kd, m, e1, e2, e3⟩ := hst i h2 hi hb
   rw [if_pos hb, e1, Option.bind_some]
   exact ⟨_, rfl, .inr ⟨i, u, x, kd, m, rfl, h2, hi, hb, hp, e2, e3⟩⟩
  | false =>
   rw [if_neg (by rw [show badB (t.getD (l.getD i 0) z69) (t.getD (l.getD (i - 1) 0) z69) = false from hb]; simp)]
   exact ch_run hw hst n (i + 1) (by omega) (by omega) (by omega) (fun j hj hl => by
    by_cases e : j = i
    ·rw [e]; exact hb
    ·exact hp j hj (by omega))
theorem where_tree {t : List S69} (hf : Fm t) (hlen : t.length ≤ 100000) (x : Nat) (K : Nat) : ∀ (k n : Nat) (st : List Nat) (ps : List Int), plF t K (st.map (fun (a : Nat) => (a : Int))) = some ps → (x : Int) ∈ ps → ps.length < k → n + ps.length ≤ 1000000 → ∃ i, whereI t x k st n = some ((n + i : Nat) : Int) ∧ i < ps.length ∧ ps.getD i 0 = x
 | 0, _, _, _, _, _, h, _ => absurd h (by omega)
 | k + 1, n, [], ps, hp, hx, _, _ => by
  rw [List.map_nil, plF] at hp
  injection hp with hp
  rw [← hp] at hx
  exact absurd hx (by simp)
 | k + 1, n, i :: st, ps, hp, hx, hk, hn => by
  rw [List.map_cons] at hp
  have hpl := plF_len hp
  obtain ⟨T, q, h0, hT, hq, rfl⟩ := plF_cons hp
  rw [List.length_cons, List.length_map] at hpl
  have hql := plF_len hq
  rw [List.length_map] at hql
  rw [Int.toNat_natCast] at hT
  have hi : i < t.length := by have := (plT_mem _ _ _ hT).2 i (plT_mem _ _ _ hT).1; omega
  have hfm := (fmN_iff _ _).1 (hf _ hi)
  rw [List.length_append] at hk hn
  have hT1 := List.length_pos_of_mem (plT_mem _ _ _ hT).1
  rw [whereI, if_pos ⟨hi, by omega, by omega, by omega⟩]
  obtain ⟨qs, hqs⟩ := plT_head hT
  by_cases e : i = x
  ·rw [if_pos e]
   refine ⟨0, by rw [Nat.add_zero], by rw [List.length_append]; omega, ?_⟩
   rw [hqs, List.cons_append, List.getD_cons_zero, e]
  rw [if_neg e]
  cases K with
  | zero => simp [mkT] at hT
  | succ K =>
  by_cases hlf : (t.getD i z69).f4 = -1 ∧ (t.getD i z69).f5 = -1
  ·obtain ⟨_, rfl⟩ := mkT_leaf hf hT hlf
   rw [if_pos hlf.1]
   simp only [plT, List.append_nil, List.singleton_append, List.mem_cons, List.length_cons, List.length_nil, List.cons_append, List.nil_append] at hx hk hn ⊢
   have hx' : (x : Int) ∈ q := hx.resolve_left (fun h => e (by omega))
   obtain ⟨j, e1, e2, e3⟩ := where_tree hf hlen x (K + 1) k (n + 1) st q hq hx' (by omega) (by omega)
   exact ⟨j + 1, by rw [e1]; congr 1; omega, by omega, by rw [List.getD_cons_succ]; exact e3⟩
  ·obtain ⟨k', l, r, hk', _, m1, m2, rfl⟩ := mkT_inner hf hT hlf
   obtain rfl : K = k' := by omega
   rw [if_neg (by omega)]
   have hp2 := plF_mk (i := (t.getD i z69).f4) (by omega) (mkT_mono t _ _ _ m1) (plF_mk (i := (t.getD i z69).f5) (by omega) (mkT_mono t _ _ _ m2) hq)
   simp only [plT, List.cons_append, List.mem_cons, List.length_cons, List.length_append, List.append_assoc] at hx hk hn ⊢
   have hx' : (x : Int) ∈ plT l ++ (plT r ++ q) := hx.resolve_left (fun h => e (by omega))
   have hm : ((t.getD i z69).f4.toNat :: (t.getD i z69).f5.toNat :: st).map (fun (a : Nat) => (a : Int)) = (t.getD i z69).f4 :: (t.getD i z69).f5 :: st.map (fun (a : Nat) => (a : Int)) := by
    rw [List.map_cons, List.map_cons, Int.toNat_of_nonneg (by omega), Int.toNat_of_nonneg (by omega)]
   obtain ⟨j, e1, e2, e3⟩ := where_tree hf hlen x (K + 1) k (n + 1) ((t.getD i z69).f4.toNat :: (t.getD i z69).f5.toNat :: st) _ (by rw [hm]; exact hp2) hx' (by simp only [List.length_append]; omega) (by simp only [List.length_append]; omega)
   rw [List.length_append, List.length_append] at e2
   exact ⟨j + 1, by rw [e1]; congr 1; omega, by omega, by rw [List.getD_cons_succ]; exact e3⟩
theorem getD_cons_of {l : List Int} {x : Int} (h : x ∈ l) (a : Int) (ha : x ≠ a) {q : List Int} (e : l = a :: q) : x ∈ q := by
 rw [e] at h
 exact (List.mem_cons.1 h).resolve_left ha
theorem hit_iff {t : List S69} {T X0 : Tr} (hg : Good t T) (hX : Crown T X0) {l : List Nat} (hw : Way t l) (h0 : l.getD 0 0 = 0)
  (hs : ∀ j, j < l.length → 0 ≤ (t.getD (l.getD j 0) z69).f4 → j + 1 < l.length ∧ ((t.getD (l.getD j 0) z69).f1 = 1 → ((l.getD (j + 1) 0 : Nat) : Int) = (t.getD (l.getD j 0) z69).f4)) (hl : 0 < l.length) :
  2 < l.length ∧ (t.getD (l.getD 1 0) z69).f1 = 1 ∧ (t.getD (l.getD 1 0) z69).f2 = 1 ∧ mkT t t.length (l.getD 2 0) = some X0 ∧ ∃ ps, plT X0 = ((l.getD 2 0 : Nat) : Int) :: ps ∧
  ∀ i, i < l.length → (((l.getD i 0 : Nat) : Int) ∈ ps.filter (fun p => redB t p ((parP t t.length).getD p.toNat 0)) ++ (plT X0).filter (fun p => overB t p 0) ↔ 2 ≤ i ∧ badI t l i = true) := by
 have hf := hg.form
 have hu := good_uq hg
 obtain ⟨c0, e1, e2, e3, e4, e5⟩ := crown_tree hg hX
 obtain ⟨n0, n1, p1, q1, q0, rfl, c1, c2, c3, c4, c5, hXn⟩ := hX
 obtain ⟨g1, g2, _, g3⟩ := mkT_node hf hg.tree
 obtain ⟨g4, k1, hk1, g5, g6⟩ := g3 (by simp)
 obtain ⟨m1, m2, m3, m4⟩ := mkT_node hf g5
 obtain ⟨m5, k2, hk2, m6, m7⟩ := m4 hXn
 have f0 := (fmN_iff _ _).1 (hf 0 g1)
 have f1 := (fmN_iff _ _).1 (hf _ m1)
 rw [← g2] at f0
 rw [← m2] at f1
 have hp0 := mkT_plc m6
 rw [e1] at hp0
 have hnd := hg.nodup
 simp only [plT] at hnd
 have hN0 : (0 : Int) ∉ plT X0 := fun h => (List.nodup_cons.1 hnd).1 (by simp [h])
 have hN1 : p1 ∉ plT X0 := fun h => (List.nodup_cons.1 (nodup_app_l (List.nodup_cons.1 hnd).2)).1 (by simp [h])
 have s0 := hs 0 hl (by rw [h0, ← g2]; omega)
 obtain ⟨s0l, s0e⟩ := s0
 have l1 : l.getD 1 0 = n0.f4.toNat := by
  have := s0e (by rw [h0, ← g2]; exact c1)
  rw [h0, ← g2, Nat.zero_add] at this
  omega
 have s1 := hs 1 s0l (by rw [l1, ← m2]; omega)
 obtain ⟨s1l, s1e⟩ := s1
 have l2 : l.getD 2 0 = c0 := by
  have := s1e (by rw [l1, ← m2]; exact c3)
  rw [l1, ← m2, show 1 + 1 = 2 from rfl] at this
  omega
 obtain ⟨ps, hps⟩ := plT_head e3
 have hmem2 : ((l.getD 2 0 : Nat) : Int) ∈ plT X0 := by rw [l2, hps]; exact List.mem_cons_self
 have hin : ∀ i, 2 ≤ i → i < l.length → ((l.getD i 0 : Nat) : Int) ∈ plT X0 := way_mem hf hw e3 hmem2
 have hf1 : ∀ i, 2 ≤ i → i < l.length → (t.getD (l.getD i 0) z69).f1 = 0 := fun i hi hl => by
  have := (allT_mkT e3).1 c5 _ (hin i hi hl)
  rwa [Int.toNat_natCast] at this
 have hpar : ∀ i, 1 ≤ i → i < l.length → (parP t t.length).getD (l.getD i 0) 0 = ((l.getD (i - 1) 0 : Nat) : Int) := fun i hi hl => by
  have hc := hw.2 (i - 1) (by omega)
  rw [show i - 1 + 1 = i by omega] at hc
  exact par_child hf hu t.length (Nat.le_refl _) _ _ (hw.1 (i - 1) (by omega)) hc
 have hout : ∀ i, i < 2 → ((l.getD i 0 : Nat) : Int) ∉ plT X0 := fun i hi => by
  rcases Nat.lt_or_ge i 1 with h | h
  ·obtain rfl : i = 0 := by omega
   rw [h0]; exact hN0
  ·obtain rfl : i = 1 := by omega
   rw [l1, ← m3]; exact hN1
 have hne : ∀ i, 3 ≤ i → i < l.length → ((l.getD i 0 : Nat) : Int) ≠ c0 := fun i hi hl h => by
  have h1 := hpar i (by omega) hl
  have h2 := hpar 2 (by omega) (by omega)
  rw [show l.getD i 0 = l.getD 2 0 by rw [l2]; omega, h2] at h1
  exact hout 1 (by omega) (by rw [show (2 : Nat) - 1 = 1 from rfl] at h1; rw [h1]; exact hin (i - 1) (by omega) (by omega))
 refine ⟨s1l, by rw [l1, ← m2]; exact c3, by rw [l1, ← m2]; exact c4, by rw [l2]; exact e3, ps, by rw [l2]; exact hps, fun i hi => ?_⟩
 rw [List.mem_append, List.mem_filter, List.mem_filter]
 have hsub : ∀ y : Int, y ∈ ps → y ∈ plT X0 := fun y hy => by rw [hps]; exact List.mem_cons_of_mem _ hy
 rcases Nat.lt_or_ge i 2 with h2 | h2
 ·constructor
  ·rintro (⟨h, _⟩ | ⟨h, _⟩)
   ·exact absurd (hsub _ h) (hout i h2)
   ·exact absurd h (hout i h2)
  ·intro h; omega
 ·have hA := hin i h2 hi
  have hB := hf1 i h2 hi
  have hP := hpar i (by omega) hi
  simp only [overB, redB, badI, badB, Int.toNat_natCast, hP, hB, h2, true_and, hA, decide_eq_true_eq, Bool.and_eq_true, Bool.or_eq_true, beq_iff_eq]
  by_cases e : i = 2
  ·subst e
   have hn2 : ((l.getD 2 0 : Nat) : Int) ∉ ps := by rw [l2]; rw [hps] at e4; exact (List.nodup_cons.1 e4).1
   have h11 : (t.getD (l.getD (2 - 1) 0) z69).f1 = 1 := by rw [show (2 : Nat) - 1 = 1 from rfl, l1, ← m2]; exact c3
   simp only [hn2, false_and, false_or, h11]
   omega
  ·have hps2 : ((l.getD i 0 : Nat) : Int) ∈ ps := getD_cons_of hA _ (hne i (by omega) hi) hps
   have h10 := hf1 (i - 1) (by omega) (by omega)
   simp only [hps2, true_and, h10]
   omega
def Sound19 (t : List S69) (T : Tr) : Prop := (crP t (t.getD 0 z69) ∧ t.getD (t.getD 0 z69).f4.toNat z69 = sn34 ∧ ∃ k, weigh_keys.f k t = some ([], [], 0)) ∨ ∃ X0 c, Crown T X0 ∧ wt X0 = 1 ∧ Al X0 0 c ∧ ∃ k, weigh_keys.f k t = some (plT X0, parP t t.length, 0)
theorem next_alike {t : List S69} {T : Tr} (hg : Good t T) (hs : Sound19 t T) (key : Int) : ∃ k l d, pathI t key t.length 0 = some l ∧ l.length ≤ 1000000 ∧ chI t l l.length 2 = some d ∧
  ((d = none ∧ seq_next.f k t key = some (0, 0, false, false)) ∨ ∃ u x kd m, d = some (u, x, kd, m) ∧ (x : Int) ∈ plT T ∧ seq_next.f k t key = some ((x : Int), kd, m, true)) := by
 have hf := hg.form
 have hlen := hg.len
 have hpos := hg.pos
 have hall := hg.all
 have hszT := size_pl T
 obtain ⟨l, hp, hl0, hlt, h0, hw, hstp⟩ := path_tree hf key _ _ T hg.tree
 have hmemT : ∀ j, j < l.length → ((l.getD j 0 : Nat) : Int) ∈ plT T := fun j hj => way_mem hf hw hg.tree (j0 := 0) (by rw [h0]; exact (plT_mem _ _ _ hg.tree).1) j (by omega) hj
 have hst1 : ∀ j, j < l.length → 0 ≤ (t.getD (l.getD j 0) z69).f4 → j + 1 < l.length ∧ ((t.getD (l.getD j 0) z69).f1 = 1 → ((l.getD (j + 1) 0 : Nat) : Int) = (t.getD (l.getD j 0) z69).f4) := fun j hj h4 => by
  have h := hstp j hj h4
  refine ⟨h.1, fun h1 => ?_⟩
  rw [h.2, if_pos (by rw [leftB, h1]; rfl)]
 obtain ⟨ks, hse⟩ := search_f hg key hp (by omega) h0
 obtain ⟨kp, hpa⟩ := parents_good hg
 rcases hs with ⟨q1, q2, kk, hk⟩ | ⟨X0, c, hX, hw1, hA, kk, hk⟩
 ·have f0 := (fmN_iff _ _).1 (hf 0 hpos)
  have q3 := q1.1
  have s0 := hst1 0 hl0 (by rw [h0]; omega)
  have l1 : l.getD 1 0 = (t.getD 0 z69).f4.toNat := by
   have := s0.2 (by rw [h0]; exact q1.2.1)
   rw [h0, Nat.zero_add] at this
   omega
  have hl2 : l.length = 2 := by
   have h1 := s0.1
   rcases Nat.lt_or_ge 2 l.length with h | h
   ·have hc := hw.2 1 (by omega)
    have := hc.1
    rw [l1, q2] at this
    exact absurd this (by decide)
   ·omega
  refine ⟨max kk (max ks kp), l, none, hp, by omega, by rw [hl2, chI, if_neg (by omega)], .inl ⟨rfl, ?_⟩⟩
  have hF : weigh_First.f (max kk (max ks kp)) t key = some (-1, 0) := by
   unfold weigh_First.f weigh_Reds.f weigh_Overs.f pickF
   rw [up_to (fun k => weigh_keys.mono t k) (by omega) hk, Option.bind_some, Option.bind_some]
   simp only [if_true, List.length_nil, Nat.zero_le, pickL, Option.bind_some]
   rw [up_to (fun k => table_Search.mono t key k) (by omega) hse, Option.bind_some]
   simp only [true_and]
   rw [if_pos (by rw [List.length_map]; omega), first_none (fun j _ => by simp)]
  unfold seq_next.f
  rw [hF, Option.bind_some]
  rfl
 ·obtain ⟨h2l, i1, w1, hX2, ps, hps, hhit⟩ := hit_iff hg hX hw h0 hst1 hl0
  have hu := good_uq hg
  obtain ⟨c0, e1, e2, e3, e4, e5⟩ := crown_tree hg hX
  have hW2 : (t.getD (l.getD 2 0) z69).f2 = 1 := by
   cases X0 with
   | nil => exact absurd rfl (mkT_ne hX2)
   | node n p l r => obtain ⟨_, h2, _, _⟩ := mkT_node hf hX2; rw [← h2]; exact hw1
  obtain ⟨hR, hO⟩ := reds_f hpos hlen hps (plT_mem _ _ _ hX2).2 e5 hk
  have hst : ∀ j, 2 ≤ j → j < l.length → badI t l j = true → ∃ u x kd m, stI t l j = some (u, x, kd, m) ∧ nxI t (parP t t.length) (l.getD j 0) (l.getD (j - 1) 0) = some ((x : Int), kd, m, true) ∧ ∃ i, i < l.length ∧ x = l.getD i 0 := fun j hj hjl hb =>
   step_alike hf hu hlen hw hj hjl hb i1 w1 (c := c) (fun h3 => al_way hf hw hX2 hA (j - 1) (by omega) (by omega)) hW2
  obtain ⟨d, hd, hdd⟩ := ch_run hw hst l.length 2 (by omega) (by omega) (by omega) (fun j h h' => absurd h (by omega))
  have hfl : (ps.filter (fun p => redB t p ((parP t t.length).getD p.toNat 0))).length ≤ ps.length := List.length_filter_le _ _
  have hfo : ((plT X0).filter (fun p => overB t p 0)).length ≤ (plT X0).length := List.length_filter_le _ _
  have hpsl : ps.length + 1 = (plT X0).length := by rw [hps, List.length_cons]
  have hF : weigh_First.f (max kk (max ks kp)) t key = some (firstIn (l.map (fun (x : Nat) => (x : Int))) (ps.filter (fun p => redB t p ((parP t t.length).getD p.toNat 0)) ++ (plT X0).filter (fun p => overB t p 0)), 0) := by
   unfold weigh_First.f
   rw [up_to (fun k => weigh_Reds.mono t k) (by omega) hR, Option.bind_some]
   dsimp only
   rw [if_pos rfl, up_to (fun k => weigh_Overs.mono t k) (by omega) hO, Option.bind_some, up_to (fun k => table_Search.mono t key k) (by omega) hse, Option.bind_some]
   dsimp only
   rw [if_pos ⟨by omega, by omega, by rw [List.length_map]; omega⟩]
  refine ⟨max kk (max ks kp), l, d, hp, by omega, hd, ?_⟩
  rcases hdd with ⟨rfl, hn⟩ | ⟨j, u, x, kd, m, rfl, h2, hjl, hb, hpre, hnx, i, hi, rfl⟩
  ·refine .inl ⟨rfl, ?_⟩
   have hfi : firstIn (l.map (fun (x : Nat) => (x : Int))) (ps.filter (fun p => redB t p ((parP t t.length).getD p.toNat 0)) ++ (plT X0).filter (fun p => overB t p 0)) = -1 := first_none (fun j hj => by
    rw [List.length_map] at hj
    rw [getD_cast, hhit j hj]
    rintro ⟨h1, h2⟩
    rw [hn j h1 hj] at h2
    exact absurd h2 (by simp))
   unfold seq_next.f
   rw [hF, hfi, Option.bind_some]
   rfl
  ·refine .inr ⟨u, l.getD i 0, kd, m, rfl, hmemT i hi, ?_⟩
   have hfi : firstIn (l.map (fun (x : Nat) => (x : Int))) (ps.filter (fun p => redB t p ((parP t t.length).getD p.toNat 0)) ++ (plT X0).filter (fun p => overB t p 0)) = ((l.getD j 0 : Nat) : Int) := by
    rw [← getD_cast l j]
    refine first_hit (by rw [List.length_map]; exact hjl) (by rw [getD_cast, hhit j hjl]; exact ⟨h2, hb⟩) (fun j' hj' => ?_)
    rw [getD_cast, hhit j' (by omega)]
    rintro ⟨h1, h3⟩
    rw [hpre j' h1 hj'] at h3
    exact absurd h3 (by simp)
   have hc := hw.2 (j - 1) (by omega)
   rw [show j - 1 + 1 = j by omega] at hc
   have hpar := par_child hf hu t.length (Nat.le_refl _) _ _ (hw.1 (j - 1) (by omega)) hc
   unfold seq_next.f
   rw [hF, hfi, Option.bind_some]
   dsimp only
   rw [if_neg (by omega), up_to (fun k => table_Parents.mono t k) (by omega) hpa, Option.bind_some]
   dsimp only
   rw [Int.toNat_natCast, hpar, if_pos ⟨hw.1 j hjl, hlen, parP_len _ _, by omega⟩, Int.toNat_natCast]
   exact hnx
theorem seqNexts_pure (t : List S69) (key : Int) : ∃ k, larchlaw19_SeqNexts.f k t key = some true := by
 obtain ⟨k1, v, h1, h2, h3⟩ := checks19 t
 by_cases hv : v = 0
 rotate_left
 ·refine ⟨k1 + 1, ?_⟩
  unfold larchlaw19_SeqNexts.f
  rw [show larchlaw19_known.f (k1 + 1) = some true from rfl, Option.bind_some, if_pos rfl, up_to (fun k => seq_Check.mono t k) (by omega) h1, Option.bind_some, up_to (fun k => larchref19_Check.mono t k) (by omega) h2, Option.bind_some, larchlaw19_SeqNexts.j0, if_neg (by simp)]
  have hn : larchref19_Next.f k1 t key = some (0, 0, false, v) := by
   unfold larchref19_Next.f; rw [h2, Option.bind_some, if_neg hv]
  have hm : seq_Next.f k1 t key = some (0, 0, false, v) := by
   unfold seq_Next.f; rw [h1, Option.bind_some, if_neg hv]
  rw [hn, Option.bind_some, hm, Option.bind_some]
  simp
 subst hv
 obtain ⟨T, hg, hs⟩ := h3 rfl
 obtain ⟨k2, l, d, hp, hl, hd, hdd⟩ := next_alike hg hs key
 have hlen := hg.len
 have hpos := hg.pos
 have hall := hg.all
 have hrows := fun k hk => rows_f (a := 0) hlen hg.form (by omega) hg.tree (by omega) k hk
 obtain ⟨K, hK⟩ : ∃ K, K = k1 + k2 + t.length + 5 := ⟨_, rfl⟩
 have hc1 : seq_Check.f K t = some 0 := up_to (fun k => seq_Check.mono t k) (by omega) h1
 have hc2 : larchref19_Check.f K t = some 0 := up_to (fun k => larchref19_Check.mono t k) (by omega) h2
 refine ⟨K + 1, ?_⟩
 unfold larchlaw19_SeqNexts.f
 rw [show larchlaw19_known.f (K + 1) = some true from rfl, Option.bind_some, if_pos rfl, up_to (fun k => seq_Check.mono t k) (by omega) hc1, Option.bind_some, up_to (fun k => larchref19_Check.mono t k) (by omega) hc2, Option.bind_some, larchlaw19_SeqNexts.j0, if_neg (by simp)]
 rcases hdd with ⟨rfl, hn⟩ | ⟨u, x, kd, m, rfl, hx, hn⟩
 ·have hR : larchref19_Next.f K t key = some (0, 0, false, 4) := by
   unfold larchref19_Next.f
   rw [hc2, Option.bind_some, if_pos rfl, if_pos ⟨hpos, hlen, inR_good hg.form⟩, hp, Option.bind_some, if_pos hl, hd, Option.bind_some]
  have hP : seq_Next.f K t key = some (0, 0, false, 4) := by
   exact dd70
  rw [hR, Option.bind_some, hP, Option.bind_some]
  simp
 ·have hpl := plF_mk (k := t.length) (i := 0) (by omega) hg.tree (plF.eq_1 t t.length)
  rw [List.append_nil] at hpl
  obtain ⟨i, w1, w2, w3⟩ := where_tree hg.form hlen x t.length (t.length + 1) 0 [0] (plT T) hpl hx (by omega) (by omega)
  rw [Nat.zero_add] at w1
  have hR : larchref19_Next.f K t key = some ((x : Int), kd, m, 0) := by
   unfold larchref19_Next.f
   rw [hc2, Option.bind_some, if_pos rfl, if_pos ⟨hpos, hlen, inR_good hg.form⟩, hp, Option.bind_some, if_pos hl, hd, Option.bind_some]
   dsimp only
   rw [hrows K (by omega), Option.bind_some, w1, Option.bind_some, if_pos ⟨by omega, by omega⟩, Int.toNat_natCast, w3]
  have hP : seq_Next.f K t key = some ((x : Int), kd, m, 0) := by
   exact dd70
  rw [hR, Option.bind_some, hP, Option.bind_some]
  simp
end Go.Proofs.YtaabbaemfnecgaaGreat.T
